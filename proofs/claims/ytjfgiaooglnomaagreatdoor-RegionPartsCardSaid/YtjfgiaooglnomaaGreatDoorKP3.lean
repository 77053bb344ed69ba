/-
  Texts of mine that belong together (packed by pack.py), for every input: TyL, TyM, TyN, TyT, TyO, TyS, GLb, GLa, QLa, QLb, GLc, QLc, GLd, QLd, TyU, QLh, QLm, GLe, QLe, GLg, QLg, QLf, GLi, GL1, QL1, QL2, QLi, QLj, QL3, QL4, GL5, QL5, GL7, QL7, TyR, GLr, QRp, QRq, TyRa, GRa, QGa, GRb, TyP, GLo, QLq, QGb, QGc.
-/
import Derived.Test.YtjfgiaooglnomaaGreatDoorKP2
import Derived.KernelRfl
import Derived.Lib.AtoiAllMem
import Derived.Lib.AtoiAllCases
import Derived.Lib.ItoaNum
set_option linter.unusedVariables false
set_option linter.unusedSimpArgs false
namespace Go.Pl
open Go.RowKit
open Enc (enc dec is)
open EncL (encL decL isL)
structure Coef where
 v:Str
 c:Int
 deriving DecidableEq
instance:Enc Coef where
 sz:=2
 enc x:=.agg [enc x.v,enc x.c]
 dec | .agg [a,b]=>⟨dec a,dec b⟩|_=>⟨⟨[]⟩,0⟩
 is | .agg [a,b]=>is Str a&&is Int b|_=>false
 is_enc v:=by simp
 dec_enc v:=by simp
 sub p h:=by
  cases p with
  | agg xs=>
   match xs,h with
   | [a,b],h=>
    simp only[Bool.and_eq_true]at h
    exact .agg (.cons (Enc.sub a h.1).2 (.cons (Enc.sub b h.2).2 .nil))
  | _=>cases h
structure Lin where
 k:Int
 t:List Coef
 deriving DecidableEq
instance:Enc Lin where
 sz:=2
 enc x:=.agg [enc x.k,enc x.t]
 dec | .agg [a,b]=>⟨dec a,dec b⟩|_=>⟨0,[]⟩
 is | .agg [a,b]=>is Int a&&is (List Coef) b|_=>false
 is_enc v:=by simp
 dec_enc v:=by simp
 sub p h:=by
  cases p with
  | agg xs=>
   match xs,h with
   | [a,b],h=>
    simp only[Bool.and_eq_true]at h
    exact .agg (.cons (Enc.sub a h.1).2 (.cons (Enc.sub b h.2).2 .nil))
  | _=>cases h
@[simp] theorem d0e (a b : PV) : is Coef (.agg [a, b]) = (is Str a && is Int b) := rfl
@[simp] theorem c9m (a b : PV) : (dec (.agg [a, b]) : Coef) = ⟨dec a, dec b⟩ := rfl
@[simp] theorem d1a (a b : PV) : is Lin (.agg [a, b]) = (is Int a && is (List Coef) b) := rfl
@[simp] theorem d0a (a b : PV) : (dec (.agg [a, b]) : Lin) = ⟨dec a, dec b⟩ := rfl
def We(c:UInt8):Bool:=decide (48<=c)&&decide (c<=57)
def Wq(c:UInt8):Bool:=decide (97<=c)&&decide (c<=122)
def Zw(s:Str):Bool:=match s.s with
 | []=>false
 | c::r=>if c=95 then r.all We&& !r.isEmpty&&decide (r.head? ≠ some 48)&&decide (r.length<=9)else Wq c&&r.all (fun c=>Wq c||We c)&&decide (r.length<=29)
def Z7(n:Int):Bool:=decide (-1000000<=n)&&decide (n<=1000000)
def Q5:List Coef->Bool
 | a::b::l=>decide (a.v.s<b.v.s)&&Q5 (b::l)
 | _=>true
def Zd(l:Lin):Bool:=l.t.all (fun t=>Zw t.v&&decide (t.c≠0)&&Z7 t.c)&&Q5 l.t&&Z7 l.k&&decide (l.t.length<=12)
def DX(m:List (Str×Int))(s:List UInt8):Int:=((m.find? fun p=>p.1.s==s).map (·.2)).getD 0
def JO(m:List (Str×Int)):List Coef:=(Xv ((m.filter fun p=>decide (p.2≠0)).map (·.1.s))).map fun s=>⟨⟨s⟩,DX m s⟩
def b6l(n:Int)(m:List (Str×Int)):Lin×Int:=if Zd ⟨n,JO m⟩then(⟨n,JO m⟩,0)else(⟨0,[]⟩,3)
end Go.Pl

namespace Go.Pl
open Go.RowKit
open Enc (enc dec is)
open EncL (encL decL isL)
structure Fact where
 eq:Bool
 l:Lin
 deriving DecidableEq
instance:Enc Fact where
 sz:=3
 enc x:=.agg [enc x.eq,enc x.l.k,enc x.l.t]
 dec | .agg [a,b,c]=>⟨dec a,⟨dec b,dec c⟩⟩|_=>⟨false,⟨0,[]⟩⟩
 is | .agg [a,b,c]=>is Bool a&&is Int b&&is (List Coef) c|_=>false
 is_enc v:=by simp
 dec_enc v:=by simp
 sub p h:=by
  cases p with
  | agg xs=>
   match xs,h with
   | [a,b,c],h=>
    simp only[Bool.and_eq_true]at h
    exact .agg (.cons (Enc.sub a h.1.1).2 (.cons (Enc.sub b h.1.2).2 (.cons (Enc.sub c h.2).2 .nil)))
  | _=>cases h
@[simp] theorem c9v (a b c : PV) : is Fact (.agg [a, b, c]) = (is Bool a && is Int b && is (List Coef) c) := rfl
@[simp] theorem c8k (a b c : PV) : (dec (.agg [a, b, c]) : Fact) = ⟨dec a, ⟨dec b, dec c⟩⟩ := rfl
structure Bnd where
 kind:Int
 v:Str
 dim:Lin
 row:Str
 dims:List Lin
 elem:Str
 deriving DecidableEq
instance:Enc Bnd where
 sz:=7
 enc x:=.agg [enc x.kind,enc x.v,enc x.dim.k,enc x.dim.t,enc x.row,enc x.dims,enc x.elem]
 dec | .agg [a,b,c,d,e,f,g]=>⟨dec a,dec b,⟨dec c,dec d⟩,dec e,dec f,dec g⟩|_=>⟨0,⟨[]⟩,⟨0,[]⟩,⟨[]⟩,[],⟨[]⟩⟩
 is | .agg [a,b,c,d,e,f,g]=>is Int a&&is Str b&&is Int c&&is (List Coef) d&&is Str e&&is (List Lin) f&&is Str g|_=>false
 is_enc v:=by simp
 dec_enc v:=by simp
 sub p h:=by
  cases p with
  | agg xs=>
   match xs,h with
   | [a,b,c,d,e,f,g],h=>
    simp only[Bool.and_eq_true]at h
    exact .agg (.cons (Enc.sub a h.1.1.1.1.1.1).2 (.cons (Enc.sub b h.1.1.1.1.1.2).2 (.cons (Enc.sub c h.1.1.1.1.2).2 (.cons (Enc.sub d h.1.1.1.2).2 (.cons (Enc.sub e h.1.1.2).2 (.cons (Enc.sub f h.1.2).2 (.cons (Enc.sub g h.2).2 .nil)))))))
  | _=>cases h
@[simp] theorem d0j (a b c d e f g : PV) : is Bnd (.agg [a, b, c, d, e, f, g]) = (is Int a && is Str b && is Int c && is (List Coef) d && is Str e && is (List Lin) f && is Str g) := rfl
@[simp] theorem c9u (a b c d e f g : PV) : (dec (.agg [a, b, c, d, e, f, g]) : Bnd) = ⟨dec a, dec b, ⟨dec c, dec d⟩, dec e, dec f, dec g⟩ := rfl
inductive Cert where
 | mk (kind:Int) (mults:List Int) (lin:Lin) (kids:List Cert)
mutual
def Ka:Cert->PV
 | .mk k m l ks=>.agg [enc k,enc m,enc l.k,enc l.t,.sl 5 false (XV ks)]
def XV:List Cert->List PV
 | []=>[]
 | c::cs=>Ka c::XV cs
end
mutual
def Hd:PV->Cert
 | .agg [a,b,c,d,.sl _ _ ks]=>.mk (dec a) (dec b) ⟨dec c,dec d⟩ (Vf ks)
 | _=>.mk 0 [] ⟨0,[]⟩ []
def Vf:List PV->List Cert
 | []=>[]
 | p::ps=>Hd p::Vf ps
end
mutual
def UZ:PV->Bool
 | .agg [a,b,c,d,.sl s _ ks]=>is Int a&&is (List Int) b&&is Int c&&is (List Coef) d&&(ks.isEmpty||s==5)&&U2 ks
 | _=>false
def U2:List PV->Bool
 | []=>true
 | p::ps=>UZ p&&U2 ps
end
theorem Oq(cs:List Cert):XV cs=cs.map Ka:=by
 induction cs with
 | nil=>simp[XV]
 | cons c cs ih=>simp[XV,ih]
theorem F4(cs:List PV):Vf cs=cs.map Hd:=by
 induction cs with
 | nil=>simp[Vf]
 | cons c cs ih=>simp[Vf,ih]
theorem OH(cs:List PV):U2 cs=cs.all UZ:=by
 induction cs with
 | nil=>simp[U2]
 | cons c cs ih=>simp[U2,ih]
mutual
theorem a2d: ∀ c:Cert,UZ (Ka c)=true
 | .mk k m l ks=>by
  have h:=Lj ks
  simp only[Ka,UZ,Enc.is_enc,Bool.true_and,Bool.and_eq_true,h,and_true]
  simp
theorem Lj: ∀ cs:List Cert,U2 (XV cs)=true
 | []=>by simp[XV,U2]
 | c::cs=>by simp[XV,U2,a2d c,Lj cs]
end
mutual
theorem a2l: ∀ c:Cert,Hd (Ka c)=c
 | .mk k m l ks=>by
  have h:=Me ks
  simp only[Ka,Hd,Enc.dec_enc,h]
theorem Me: ∀ cs:List Cert,Vf (XV cs)=cs
 | []=>by simp[XV,Vf]
 | c::cs=>by simp[XV,Vf,a2l c,Me cs]
end
mutual
theorem La: ∀ p:PV,UZ p=true->U6 p (Ka (Hd p))
 | .agg [a,b,c,d,.sl s t ks],h=>by
  simp only[UZ,Bool.and_eq_true]at h
  obtain⟨⟨⟨⟨⟨h1,h2⟩,h3⟩,h4⟩,h5⟩,h6⟩:=h
  have hk:=TV ks h6
  simp only[Hd,Ka]
  refine .agg (.cons (Enc.sub a h1).2 (.cons (Enc.sub b h2).2 (.cons (Enc.sub c h3).2 (.cons (Enc.sub d h4).2 (.cons ?_ .nil)))))
  simp only[Bool.or_eq_true,List.isEmpty_iff,beq_iff_eq]at h5
  rcases h5 with rfl|rfl
  ·simp only[Vf,XV]
   exact(U6.sl0 _ _ _).2
  ·exact(U6.sl hk.1 hk.2).2
 | .bool _,h | .int _ _,h | .str _,h | .sl _ _ _,h | .tup _,h | .nilp,h | .nilmap,h | .nilfn,h | .nili,h | .ifc,h | .fn _,h | .rptr _,h=>by simp[UZ]at h
 | .agg [],h | .agg [_],h | .agg [_,_],h | .agg [_,_,_],h | .agg [_,_,_,_],h=>by simp[UZ]at h
 | .agg (a::b::c::d::e::f::g),h=>by
  have h':UZ (.agg (a::b::c::d::e::f::g))=false:=by cases e <;> kernel_rfl
  rw[h']at h;cases h
 | .agg [_,_,_,_,.bool _],h | .agg [_,_,_,_,.int _ _],h | .agg [_,_,_,_,.str _],h | .agg [_,_,_,_,.agg _],h | .agg [_,_,_,_,.tup _],h | .agg [_,_,_,_,.nilp],h | .agg [_,_,_,_,.nilmap],h | .agg [_,_,_,_,.nilfn],h | .agg [_,_,_,_,.nili],h | .agg [_,_,_,_,.ifc],h | .agg [_,_,_,_,.fn _],h | .agg [_,_,_,_,.rptr _],h=>by simp[UZ]at h
theorem TV: ∀ ps:List PV,U2 ps=true->ps.length=(XV (Vf ps)).length∧ ∀ (j:Nat) x y,ps[j]? = some x->(XV (Vf ps))[j]? = some y->U6 x y
 | [],_=>⟨by simp[Vf,XV],fun j x y h=>by simp at h⟩
 | p::ps,h=>by
  simp only[U2,Bool.and_eq_true]at h
  have h1:=La p h.1
  have h2:=TV ps h.2
  refine⟨by simp[Vf,XV,<- h2.1],fun j x y hx hy=> ?_⟩
  simp only[Vf,XV]at hy
  cases j with
  | zero=>simp at hx hy;subst hx hy;exact h1
  | succ j=>exact h2.2 j x y (by simpa using hx) (by simpa using hy)
end
instance:Enc Cert where
 sz:=5
 enc:=Ka
 dec:=Hd
 is:=UZ
 is_enc:=a2d
 dec_enc:=a2l
 sub:=La
abbrev Cert.kind:Cert->Int | .mk k _ _ _=>k
abbrev Cert.mults:Cert->List Int | .mk _ m _ _=>m
abbrev Cert.lin:Cert->Lin | .mk _ _ l _=>l
abbrev Cert.kids:Cert->List Cert | .mk _ _ _ k=>k
theorem VP(k:Int)(m:List Int)(l:Lin)(ks:List Cert):(enc (Cert.mk k m l ks):PV) = .agg [enc k,enc m,enc l.k,enc l.t,enc ks]:=by
 show Ka _=_
 rw[Ka,Oq]
 rfl
@[simp] theorem d0f (a b c d e : PV) : is Cert (.agg [a, b, c, d, e]) = (is Int a && is (List Int) b && is Int c && is (List Coef) d && is (List Cert) e) := by
 show UZ _=_
 cases e <;> simp only[UZ] <;> try (simp[is];done)
 rename_i s t ks
 rw[OH]
 show _=(_&&((ks.isEmpty||s==5)&&ks.all UZ))
 rw[Bool.and_assoc]
@[simp] theorem c8g (a b c d e : PV) (h : is (List Cert) e = true) : (dec (.agg [a, b, c, d, e]) : Cert) = .mk (dec a) (dec b) ⟨dec c, dec d⟩ (dec e) := by
 show Hd _=_
 cases e <;> try (cases h;done)
 rw[Hd,F4]
 rfl
end Go.Pl

namespace Go.Pl
open Enc (enc dec is)
structure Er where
 b:Bool
 deriving DecidableEq
instance:Enc Er where
 sz:=1
 enc x:=if x.b then .ifc else .nili
 dec | .ifc=>⟨true⟩|_=>⟨false⟩
 is | .ifc=>true | .nili=>true|_=>false
 is_enc v:=by obtain⟨b⟩:=v;cases b <;> rfl
 dec_enc v:=by obtain⟨b⟩:=v;cases b <;> rfl
 sub p h:=by cases p <;> first|exact .refl _|cases h
def Yr(s:Str):Int×Er:=match Lib.atoiAll s.s with
 | .ok v=>(v,⟨false⟩)
 | .range=>(Lib.atoiSat s.s,⟨true⟩)
 | _=>(0,⟨true⟩)
def NR(n:Int):Str:=⟨Lib.itoa n⟩
def QV(l:Lin)(n:Int):Bool:=l.t.all (fun t=>decide (t.v.s.length<=40))&&decide ((l.t.length:Int)<=n)
abbrev YV(n:Int):Int:=IntKind.i64.wrap n
def Xt(s:Str)(c:Int):Bool->List Coef->List Coef
 | put,[]=>if put then []else [⟨s,c⟩]
 | put,t::r=>(if !put&&decide (s.s<t.v.s)then [⟨s,c⟩]else [])++(if t.v=s then⟨t.v,YV (t.c+c)⟩::Xt s c true r else t::Xt s c (put||decide (s.s<t.v.s)) r)
def Xy(l:Lin)(s:Str)(c:Int):Lin:=⟨l.k,(Xt s c false l.t).filter fun t=>decide (t.c≠0)⟩
def Z5(l x:Lin)(k:Int):Lin:=x.t.foldl (fun o t=>Xy o t.v (YV (k*t.c))) ⟨YV (l.k+YV (k*x.k)),l.t⟩
def Q3(v:List Coef)(s:Str):Option Int:=(v.find? fun t=>decide (t.v=s)).map (·.c)
def KC(v:List Coef):Int->List Coef->Int×Int
 | n,[]=>(n,0)
 | n,t::r=>match Q3 v t.v with
  | none=>(0,7)
  | some x=>if x < -1000000000 then(0,2)else if x>1000000000 then(0,2)else KC v (YV (n+YV (t.c*x))) r
def Yo(l:Lin)(v:List Coef):Int×Int:=if Zd l then KC v l.k l.t else(0,1)
def Ua(n:Int):Bool:=decide (-4611686018427387904<=n)&&decide (n<=4611686018427387904)
mutual
def BS:Cert->Int
 | .mk _ _ _ ks=>G7 1 ks
def G7(n:Int):List Cert->Int
 | []=>n
 | c::cs=>G7 (YV (n+BS c)) cs
end
def Y4(l:Lin):Bool:=decide (l.t.length<=9223372036854775807)
def ZW(l:Lin):Bool:=Y4 l&&l.t.all fun t=>decide (t.v.s.length<=1000000)
mutual
def cOk:Cert->Bool
 | .mk _ m l ks=>decide (m.length<=9223372036854775807)&&Y4 l&&decide (ks.length<=9223372036854775807)&&a5m ks
def a5m:List Cert->Bool
 | []=>true
 | c::cs=>cOk c&&a5m cs
end
mutual
def c3p:Cert->Nat
 | .mk _ _ _ ks=>Fe ks+1
def Fe:List Cert->Nat
 | []=>0
 | c::cs=>max (c3p c) (Fe cs)
end
end Go.Pl

namespace Go.Pl
open Go.RowKit
open Enc (enc dec is)
open EncL (encL decL isL)
theorem Z0{α:Type}[Enc α]{l:List α}{i:Nat}(h:i<l.length){P:α->Prop}(k:P l[i]):
  ∃ y:α,AV.pv (PV.rptr (PV.cells (List.getD (List.map enc l) (Int.toNat (i:Int)) default)))=AV.pv (PV.rptr (PV.cells (enc y)))∧P y:=⟨l[i],by rw[Hq enc h],k⟩
theorem ZG{α:Type}[Enc α]{l:List α}{i n:Nat}(h:i<l.length)(hn:Enc.sz α=n):(decide (0<=(i:Int))&&decide (Int.toNat (i:Int)<List.length (List.map (enc:α->PV) l))&&Enc.sz α==n)=true:=by simp[hn,h]
theorem H6{α:Type}[Enc α]{l:List α}{i:Nat}(h:i<l.length):decide ((i:Int)<(List.length (List.map (enc:α->PV) l):Int))=true:=by simp;omega
theorem Gh{α:Type}[Enc α]{l:List α}{i:Nat}(h : ¬ i<l.length): ¬ decide ((i:Int)<(List.length (List.map (enc:α->PV) l):Int))=true:=by simp;omega
theorem Z4{n i:Nat}(h:i<n):decide ((i:Int)<(n:Int))=true:=by simp;omega
theorem Yc{n i:Nat}(h : ¬ i<n): ¬ decide ((i:Int)<(n:Int))=true:=by simp;omega
theorem c2o{P Q:Prop}:(if (!false)=true then P else Q)=P:=rfl
theorem c9l{P Q:Prop}:(if (!true)=true then P else Q)=Q:=rfl
theorem Ya{c:Prop}[Decidable c]{P Q:Prop}(h:c)(k:P):if c then P else Q:=by rw[if_pos h];exact k
theorem Z8{c:Prop}[Decidable c]{P Q:Prop}(h : ¬ c)(k:Q):if c then P else Q:=by rw[if_neg h];exact k
theorem Ce{c:Prop}[Decidable c]{P Q:Prop}(h1:c->P)(h2 : ¬ c->Q):if c then P else Q:=by split;exact h1 ‹_›;exact h2 ‹_›
theorem Vj{b:Bool}{P Q:Prop}(h1:b=false->P)(h2:b=true->Q):if (!b)=true then P else Q:=by cases b;exact h1 rfl;exact h2 rfl
theorem Wn{b:Bool}{P Q:Prop}(h1:b=true->P)(h2:b=false->Q):if b=true then P else Q:=by cases b;exact h2 rfl;exact h1 rfl
theorem WI{c:Prop}[Decidable c]{P Q:Prop}(h1:c->P)(h2 : ¬ c->Q):if decide c=true then P else Q:=by by_cases h:c;rw[if_pos (by simpa using h)];exact h1 h;rw[if_neg (by simpa using h)];exact h2 h
theorem Gj{α:Type}[BEq α][LawfulBEq α]{x y:α}{P Q:Prop}(h1:x=y->P)(h2:x≠y->Q):if (x==y)=true then P else Q:=by by_cases h:x=y;rw[if_pos (by simpa using h)];exact h1 h;rw[if_neg (by simpa using h)];exact h2 h
theorem ZV{β:Type}[Enc β]{x y:β}(h:x=y):Zl y (enc x):=⟨Enc.is_enc x,by rw[Enc.dec_enc,h]⟩
theorem ZF{x y:Bool}(h:x=y):Zl y (.bool x):=⟨rfl,h⟩
theorem QG{x y:Int}(h:x=y):Zl y (.int .i64 x):=⟨rfl,h⟩
section
variable (x:Coef) (f:Fact)
theorem co1:PV.asStr (List.getD (PV.cells (enc x)) 0 default)=x.v.s:=rfl
theorem co2:PV.asInt (List.getD (PV.cells (enc x)) (0+1) default)=x.c:=rfl
theorem co3:PV.asStr (List.getD (List.drop 0 (PV.cells (enc x))) 0 default)=x.v.s:=rfl
theorem co4:PV.asInt (List.getD (List.drop 1 (PV.cells (enc x))) 0 default)=x.c:=rfl
end
theorem c2p{c:UInt8}(n:Nat)(h:c≠UInt8.ofNat n)(hn:n<256): ¬ ((c.toNat:Int)==(n:Int))=true:=by
 intro e
 have e:(c.toNat:Int)=n:=by simpa using e
 have e:c.toNat=n:=by omega
 exact h (UInt8.toNat_inj.1 (by rw[e,UInt8.toNat_ofNat'];omega))
theorem YT: ∀ a b:List UInt8,Op.bytesLess a b=decide (a<b)
 | [],[]=>by simp[Op.bytesLess]
 | _::_,[]=>by simp[Op.bytesLess]
 | [],_::_=>by simp[Op.bytesLess]
 | x::a,y::b=>by
  rw[Op.bytesLess,YT a b]
  simp only[List.cons_lt_cons_iff]
  by_cases h1:x<y
  ·simp[h1]
  ·by_cases h2:x=y
   ·subst h2;simp
   ·simp[h1,h2]
theorem Zr.fuel{P:Program}{f:Nat}{α β:Type}[EncL α][Enc β]{pre:α->Bool}{F:α->β}(μ:α->Nat)(h : ∀ N,Zr P f (fun a=>pre a&&decide (μ a<N)) F):Zr P f pre F:=fun ps hps=>by
 refine h (μ (decL ps)+1) ps ?_
 simp only[preT,Bool.and_eq_true,decide_eq_true_eq]at hps ⊢
 exact⟨hps.1,hps.2,by omega⟩
theorem Zr.void{P:Program}{f:Nat}{α β:Type}[EncL α][Enc β]{pre:α->Bool}{F:α->β}(h : ∀ a,pre a=false):Zr P f pre F:=fun ps hps=>by simp[preT,h]at hps
theorem Zr.rec{P:Program}{f:Nat}{α β:Type}[EncL α][Enc β]{pre:α->Bool}{F:α->β}(μ:α->Nat)(h : ∀ N,Zr P f (fun a=>pre a&&decide (μ a<N)) F->Zr P f (fun a=>pre a&&decide (μ a<N+1)) F):Zr P f pre F:=by
 refine Zr.fuel μ fun N=> ?_
 induction N with
 | zero=>exact Zr.void fun a=>by simp
 | succ N ih=>exact h N ih
theorem Zr.or{P:Program}{f:Nat}{α β:Type}[EncL α][Enc β]{pre:α->Bool}{F:α->β}(c:α->Bool)(h1:Zr P f (fun a=>pre a&&c a) F)(h2:Zr P f (fun a=>pre a&& !c a) F):Zr P f pre F:=fun ps hps=>by
 have hps':=hps
 simp only[preT,Bool.and_eq_true]at hps'
 cases hc:c (decL ps)
 ·exact h2 ps (by simp only[preT,hps'.1,hps'.2,hc];rfl)
 ·exact h1 ps (by simp only[preT,hps'.1,hps'.2,hc];rfl)
mutual
def SC:PV->PV->Bool
 | .bool a,.bool b=>a==b
 | .int k a,.int l b=>JG k l&&a==b
 | .str a,.str b=>a==b
 | .sl s t xs,.sl s' t' ys=>s==s'&&t==t'&&Cc xs ys
 | .agg xs,.agg ys=>Cc xs ys
 | .tup xs,.tup ys=>Cc xs ys
 | .nilp,.nilp=>true
 | .nilmap,.nilmap=>true
 | .nilfn,.nilfn=>true
 | .nili,.nili=>true
 | .ifc,.ifc=>true
 | .fn a,.fn b=>a==b
 | .rptr xs,.rptr ys=>Cc xs ys
 | _,_=>false
def Cc:List PV->List PV->Bool
 | [],[]=>true
 | x::xs,y::ys=>SC x y&&Cc xs ys
 | _,_=>false
end
theorem MG(k:IntKind):JG k k=true:=by cases k <;> rfl
mutual
theorem b6y: ∀ (p q:PV),SC p q=true->p=q
 | .bool a,q,h=>by cases q <;> simp[SC]at h;rw[h]
 | .int k a,q,h=>by cases q <;> simp[SC]at h;rw[KV h.1,h.2]
 | .str a,q,h=>by cases q <;> simp[SC]at h;rw[h]
 | .sl s t xs,q,h=>by cases q <;> simp[SC]at h;rw[h.1.1,h.1.2,Gl xs _ h.2]
 | .agg xs,q,h=>by cases q <;> simp[SC]at h;rw[Gl xs _ h]
 | .tup xs,q,h=>by cases q <;> simp[SC]at h;rw[Gl xs _ h]
 | .nilp,q,h=>by cases q <;> simp[SC]at h;rfl
 | .nilmap,q,h=>by cases q <;> simp[SC]at h;rfl
 | .nilfn,q,h=>by cases q <;> simp[SC]at h;rfl
 | .nili,q,h=>by cases q <;> simp[SC]at h;rfl
 | .ifc,q,h=>by cases q <;> simp[SC]at h;rfl
 | .fn a,q,h=>by cases q <;> simp[SC]at h;rw[h]
 | .rptr xs,q,h=>by cases q <;> simp[SC]at h;rw[Gl xs _ h]
theorem Gl: ∀ (xs ys:List PV),Cc xs ys=true->xs=ys
 | [],ys,h=>by cases ys <;> simp[Cc]at h;rfl
 | x::xs,ys,h=>by
  cases ys with
  | nil=>simp[Cc]at h
  | cons y ys=>simp[Cc]at h;rw[b6y x y h.1,Gl xs ys h.2]
end
mutual
theorem M3: ∀ (p:PV),SC p p=true
 | .bool a | .str a | .fn a=>by simp[SC]
 | .int k a=>by simp[SC,MG]
 | .sl s t xs=>by simp[SC,GG xs]
 | .agg xs | .tup xs | .rptr xs=>by simp[SC,GG xs]
 | .nilp | .nilmap | .nilfn | .nili | .ifc=>by simp[SC]
theorem GG: ∀ (xs:List PV),Cc xs xs=true
 | []=>by simp[Cc]
 | x::xs=>by simp[Cc,M3 x,GG xs]
end
def Wz(α:Type)[Enc α](p:PV):Bool:=SC p (enc (dec p:α))
@[simp] theorem ZQ {α : Type} [Enc α] (a : α) : Wz α (enc a) = true := by unfold Wz; rw [Enc.dec_enc]; exact M3 _
theorem Ym{α:Type}[Enc α]{p:PV}(h:Wz α p=true): ∃ a:α,p=enc a:=⟨_,b6y _ _ h⟩
end Go.Pl

namespace Go.Pl
open Enc (enc dec is)
@[irreducible] def Jz (a : Nat) (r : List UInt8) : Nat := r.foldl (fun a c => a * 10 + (c.toNat - 48)) a
theorem Hy(a:Nat):Jz a []=a:=by unfold Jz;rfl
theorem Qr(a:Nat)(c:UInt8)(r:List UInt8):Jz a (c::r)=Jz (a*10+(c.toNat - 48)) r:=by unfold Jz;rfl
theorem Vh{c:UInt8}:We c=true ↔ 48<=c.toNat∧c.toNat<=57:=by
 simp only[We,Bool.and_eq_true,decide_eq_true_eq,UInt8.le_iff_toNat_le]
 have e1:(48:UInt8).toNat=48:=rfl
 have e2:(57:UInt8).toNat=57:=rfl
 rw[e1,e2]
theorem a0r: ∀ (r:List UInt8) (a:Nat),r.all We=true->Jz a r<(a+1)*10 ^ r.length
 | [],a,_=>by simp[Hy]
 | c::r,a,h=>by
  simp only[List.all_cons,Bool.and_eq_true,Vh]at h
  have:=a0r r (a*10+(c.toNat - 48)) h.2
  rw[Qr,List.length_cons,Nat.pow_succ]
  refine Nat.lt_of_lt_of_le this ?_
  rw[Nat.mul_comm (10 ^ r.length) 10,<- Nat.mul_assoc]
  exact Nat.mul_le_mul_right _ (by omega)
theorem RV: ∀ (r:List UInt8) (a:Nat),a<=Jz a r
 | [],a=>by rw[Hy];exact Nat.le_refl _
 | c::r,a=>by
  have:=RV r (a*10+(c.toNat - 48))
  rw[Qr]
  omega
theorem Rj: ∀ (r:List UInt8) (a:Nat),r.all We=true->Jz a r<1000000000000000000->Lib.parseUint10 a r = .ok (Jz a r)
 | [],a,_,_=>by rw[Hy,Lib.parseUint10]
 | c::r,a,h,hv=>by
  simp only[List.all_cons,Bool.and_eq_true,Vh]at h
  rw[Qr]at hv ⊢
  have hge:=RV r (a*10+(c.toNat - 48))
  rw[Lib.parseUint10,if_pos h.1,if_neg (by omega),if_neg (by omega)]
  exact Rj r _ h.2 hv
theorem b1w{a d:Nat}(ha:1<=a)(hd:d<=9):Lib.decDigits (a*10+d)=Lib.decDigits a++[UInt8.ofNat (48+d)]:=by
 rw[Lib.decDigits,dif_neg (by omega),show(a*10+d) / 10=a by omega,show(a*10+d) % 10=d by omega]
theorem a2x: ∀ (r:List UInt8) (a:Nat),1<=a->r.all We=true->Lib.decDigits (Jz a r)=Lib.decDigits a++r
 | [],a,_,_=>by simp[Hy]
 | c::r,a,ha,h=>by
  simp only[List.all_cons,Bool.and_eq_true,Vh]at h
  rw[Qr,a2x r _ (by omega) h.2,b1w ha (by omega)]
  have:UInt8.ofNat (48+(c.toNat - 48))=c:=by
   rw[show 48+(c.toNat - 48)=c.toNat by omega]
   exact UInt8.ofNat_toNat
  rw[this]
  simp
theorem b0m{n:Nat}(h:n<256):(UInt8.ofNat n).toNat=n:=by rw[UInt8.toNat_ofNat'];omega
theorem Et: ∀ (u:Nat),1<=u->(Lib.decDigits u).all We=true∧(Lib.decDigits u).head? ≠ some 48∧Lib.decDigits u≠[]:=by
 intro u
 induction u using Nat.strongRecOn with
 | _ u ih=>
  intro h1
  rw[Lib.decDigits]
  by_cases h:u<10
  ·rw[dif_pos h]
   refine⟨?_,?_,by simp⟩
   ·simp only[List.all_cons,List.all_nil,Bool.and_true]
    rw[Vh,b0m (by omega)]
    omega
   ·simp only[List.head?_cons,ne_eq,Option.some.injEq]
    intro e
    have:=congrArg UInt8.toNat e
    rw[b0m (by omega)]at this
    have e48:(48:UInt8).toNat=48:=rfl
    rw[e48]at this
    omega
  ·rw[dif_neg h]
   obtain⟨i1,i2,i3⟩:=ih (u / 10) (by omega) (by omega)
   refine⟨?_,?_,by simp⟩
   ·rw[List.all_append,i1]
    simp only[List.all_cons,List.all_nil,Bool.and_true,Bool.true_and]
    rw[Vh,b0m (by omega)]
    omega
   ·cases hd:Lib.decDigits (u / 10)with
    | nil=>exact absurd hd i3
    | cons c r=>rw[hd]at i2;simpa using i2
def FH(r:List UInt8):Bool:=r.all We&& !r.isEmpty&&decide (r.head? ≠ some 48)
theorem c6d(b:Bool):Uo (enc (⟨b⟩:Er)) = !b:=by cases b <;> rfl
theorem c2t(e:Er):Al (enc e)=true:=by obtain⟨b⟩:=e;cases b <;> rfl
theorem a0u(r:List UInt8)(hr:r.length<=9):(Uo (enc (Yr ⟨r⟩).2)&&decide ((Yr ⟨r⟩).1>0)&&(Lib.itoa (Yr ⟨r⟩).1==r))=FH r:=by
 by_cases hn:FH r=true
 ·rw[hn]
  simp only[FH,Bool.and_eq_true,Bool.not_eq_true',decide_eq_true_eq]at hn
  obtain⟨⟨h1,h2⟩,h3⟩:=hn
  cases r with
  | nil=>simp at h2
  | cons c r=>
   have h1':=h1
   simp only[List.all_cons,Bool.and_eq_true,Vh]at h1
   have hc:c≠48:=by simpa using h3
   have hc':c.toNat≠48:=fun e=>hc (UInt8.toNat_inj.1 (by rw[e];rfl))
   have hv:=a0r (c::r) 0 h1'
   have hp:10 ^ (c::r).length<=10 ^ 9:=Nat.pow_le_pow_right (by omega) hr
   have hpm:=Rj (c::r) 0 h1' (by omega)
   have hat:Lib.atoiAll (c::r) = .ok (Jz 0 (c::r):Int):=by
    have e1 : ¬ (c.toNat=43∨c.toNat=45):=by omega
    have e2 : ¬ c.toNat=45:=by omega
    simp only[Lib.atoiAll,if_neg e1,Lib.parseMag,if_neg (show ¬ (c::r=[]) by simp),hpm]
    rw[if_neg (by omega),if_neg (fun e=>e2 e.1),if_neg e2]
   have ha:Yr ⟨c::r⟩=((Jz 0 (c::r):Int),⟨false⟩):=by simp only[Yr,hat]
   have hvd:Jz 0 (c::r)=Jz (c.toNat - 48) r:=by rw[Qr];congr 1;omega
   have hpos:=RV r (c.toNat - 48)
   rw[ha]
   have h4:Lib.itoa (Jz 0 (c::r):Int)=c::r:=by
    rw[Lib.itoa,if_neg (by omega),Int.toNat_natCast,hvd,a2x r _ (by omega) h1.2,Lib.decDigits,dif_pos (by omega)]
    have:UInt8.ofNat (48+(c.toNat - 48))=c:=by
     rw[show 48+(c.toNat - 48)=c.toNat by omega]
     exact UInt8.ofNat_toNat
    rw[this];rfl
   simp only[c6d,h4,beq_self_eq_true,Bool.and_true,Bool.not_false,Bool.true_and]
   exact decide_eq_true (by omega)
 ·have hn:FH r=false:=by simpa using hn
  rw[hn]
  by_cases h1:decide ((Yr ⟨r⟩).1>0)=true
  ·by_cases h2:(Lib.itoa (Yr ⟨r⟩).1==r)=true
   ·exfalso
    have h1:(Yr ⟨r⟩).1>0:=by simpa using h1
    have h2:Lib.itoa (Yr ⟨r⟩).1=r:=by simpa using h2
    rw[Lib.itoa,if_neg (by omega)]at h2
    obtain⟨d1,d2,d3⟩:=Et (Yr ⟨r⟩).1.toNat (by omega)
    rw[h2]at d1 d2 d3
    have:FH r=true:=by simp only[FH,d1,decide_eq_true d2,Bool.true_and,Bool.and_true];cases r <;> simp at d3 ⊢
    rw[this]at hn;cases hn
   ·simp[h2]
  ·simp[h1]
theorem M4(r:List UInt8):Zw ⟨95::r⟩=(FH r&&decide (r.length<=9)):=by simp[Zw,FH]
end Go.Pl

namespace Go.Pl
open Go.RowKit
open Enc (enc dec is)
open EncL (encL decL isL)
def SH(s:Str)(c:Int):List (Str×Int)->List (Str×Int)
 | []=>[(s,c)]
 | p::m=>if s.s=p.1.s then(s,c)::m else p::SH s c m
def Jy(k:Int):List Coef->List (Str×Int)->List (Str×Int)
 | [],m=>m
 | t::l,m=>Jy k l (SH t.v (IntKind.i64.wrap (DX m t.v.s+IntKind.i64.wrap (k*t.c))) m)
def Wj(m:List (Str×Int)):List (List UInt8):=m.map (·.1.s)
theorem NP(s:Str)(c:Int): ∀ m:List (Str×Int),(Wj (SH s c m)=Wj m)∨(s.s ∉ Wj m∧Wj (SH s c m)=Wj m++[s.s])
 | []=>.inr ⟨by simp[Wj],rfl⟩
 | p::m=>by
  rw[SH]
  split
  ·rename_i h
   exact .inl (by simp[Wj,h])
  ·rename_i h
   rcases NP s c m with e|⟨e1,e2⟩
   ·exact .inl (by simp only[Wj,List.map_cons]at e ⊢;rw[e])
   ·refine .inr ⟨?_,?_⟩
    ·simp only[Wj,List.map_cons,List.mem_cons,not_or]at e1 ⊢
     exact⟨h,e1⟩
    ·simp only[Wj,List.map_cons]at e2 ⊢
     rw[e2];rfl
theorem a3h{s:Str}{c:Int}{m:List (Str×Int)}(h:(Wj m).Nodup):(Wj (SH s c m)).Nodup:=by
 rcases NP s c m with e|⟨e1,e2⟩
 ·rw[e];exact h
 ·rw[e2,List.nodup_append]
  exact⟨h,by simp,fun a ha b hb e=>by simp at hb;subst hb;subst e;exact e1 ha⟩
theorem JJ(k:Int): ∀ (l:List Coef) (m:List (Str×Int)),(Wj m).Nodup->(Wj (Jy k l m)).Nodup
 | [],m,h=>h
 | t::l,m,h=>JJ k l _ (a3h h)
def Zo(l:List Fact):Bool:=decide (l.length<=9223372036854775807)&&l.all fun f=>ZW f.l
def Y6(l:List Fact):Bool:=l.all fun f=>Zd f.l
def Wu:AV×List AObj×List AObj:=(.tup [.pv (.int .i64 0),.pv .nilmap,.pv (.bool false)],[],[])
structure FnV (n:Nat) where
 u:Unit:=()
instance (n:Nat):Enc (FnV n) where
  sz:=1
  enc _:=.fn n
  dec _:={}
  is | .fn m=>m==n|_=>false
  is_enc _:=by simp
  dec_enc _:=rfl
  sub p h:=by
    cases p with
    | fn m => have : m = n := by simpa using h
              subst this;exact .refl _
    | _=>cases h
def Zx{α:Type}(p:α->Bool)(l:List α):Int:=match l.findIdx? p with|some i=>i|none=> -1
theorem XI{α:Type}(p:α->Bool)(l:List α):decide (Zx p l ≥ 0)=l.any p:=by
 unfold Zx
 cases h:l.findIdx? p with
 | none=>
  rw[List.findIdx?_eq_none_iff]at h
  have:l.any p=false:=by rw[List.any_eq_false];intro x hx;simp[h x hx]
  rw[this];rfl
 | some i=>
  have:l.any p=true:=by
   rw[List.findIdx?_eq_some_iff_getElem]at h
   obtain⟨hi,hp,_⟩:=h
   rw[List.any_eq_true]
   exact⟨_,List.getElem_mem hi,hp⟩
  rw[this]
  exact decide_eq_true (by show(i:Int) ≥ 0;omega)
theorem UL{α:Type}(p:α->Bool)(l:List α)(i:Nat)(hlt:i<l.length)(hno : ∀ j (h:j<l.length),j<i->p l[j]=false)(hp:p l[i]=true):Zx p l=i:=by
 unfold Zx
 have:l.findIdx? p=some i:=by
  rw[List.findIdx?_eq_some_iff_getElem]
  exact⟨hlt,hp,fun j hj=>by simp[hno j (by omega) hj]⟩
 rw[this]
theorem UQ{α:Type}(p:α->Bool)(l:List α)(hno : ∀ j (h:j<l.length),p l[j]=false):Zx p l = -1:=by
 unfold Zx
 have:l.findIdx? p=none:=by
  rw[List.findIdx?_eq_none_iff]
  intro x hx
  obtain⟨j,hj,rfl⟩:=List.getElem_of_mem hx
  exact hno j hj
 rw[this]
def YC(f:Fact)(v:List Coef):Bool:=decide ((Yo f.l v).2=0)&& !decide ((Yo f.l v).1<0)&&(!f.eq||decide ((Yo f.l v).1=0))
def JD:List AV->List AObj->Bool
 | [.pv f,.ptr 0 0],[.box [.pv v]]=>Wz Fact f&&Wz (List Coef) v&&ZW (dec f:Fact).l&&decide ((dec v:List Coef).length<=9223372036854775807)
 | _,_=>false
def GM:List AV->List AObj->AV×List AObj×List AObj
 | [.pv f,_],[.box [.pv v]]=>(.pv (.bool (!YC (dec f) (dec v))),[.box [.pv v]],[])
 | _,_=>Wu
def Wv(g:Nat):List AV->List AObj->Bool
 | [.pv l,.fn g' [] [.ptr 0 0]],[.box [.pv v]]=>g'==g&&Wz (List Fact) l&&Wz (List Coef) v&&Zo (dec l)&&decide ((dec v:List Coef).length<=9223372036854775807)
 | _,_=>false
def Ct:List AV->List AObj->AV×List AObj×List AObj
 | [.pv l,_],[.box [.pv v]]=>(.pv (.int .i64 (Zx (fun f=> !YC f (dec v)) (dec l))),[.box [.pv v]],[])
 | _,_=>Wu
def Cm:List AV->List AObj->AV×List AObj×List AObj
 | [.pv l,_],[.box [.pv v]]=>(.pv (.bool ((dec l:List Fact).any (fun f=> !YC f (dec v)))),[.box [.pv v]],[])
 | _,_=>Wu
def Sq:List AV->List AObj->Bool
 | [.pv x,.ptr 0 0],[.box [.pv (.str v),.pv (.int .i64 c)]]=>Wz Coef x
 | _,_=>false
def NF:List AV->List AObj->AV×List AObj×List AObj
 | [.pv x,_],[.box [.pv (.str v),.pv (.int .i64 c)]]=>(.pv (.bool ((dec x:Coef).v.s==v)),[.box [.pv (.str v),.pv (.int .i64 c)]],[])
 | _,_=>Wu
def QH(g:Nat):List AV->List AObj->Bool
 | [.pv l,.fn g' [] [.ptr 0 0]],[.box [.pv (.str v),.pv (.int .i64 c)]]=>g'==g&&Wz (List Coef) l&&decide ((dec l:List Coef).length<=9223372036854775807)
 | _,_=>false
def CR:List AV->List AObj->AV×List AObj×List AObj
 | [.pv l,_],[.box [.pv (.str v),.pv (.int .i64 c)]]=>(.pv (.int .i64 (Zx (fun t:Coef=>t.v.s==v) (dec l))),[.box [.pv (.str v),.pv (.int .i64 c)]],[])
 | _,_=>Wu
end Go.Pl

namespace Go.Pl
open Go.RowKit
open Enc (enc dec is)
open EncL (encL decL isL)
set_option maxRecDepth 100000
end Go.Pl

namespace Go.Pl
open Go.RowKit
open Enc (enc dec is)
open EncL (encL decL isL)
set_option maxRecDepth 100000
-- IMPOSSIBLE
end Go.Pl

namespace Go.Pl
open Go.RowKit
open Enc (enc dec is)
open EncL (encL decL isL)
end Go.Pl

namespace Go.Pl
open Go.RowKit
open Enc (enc dec is)
open EncL (encL decL isL)
end Go.Pl

namespace Go.Pl
open Go.RowKit
open Enc (enc dec is)
open EncL (encL decL isL)
set_option maxRecDepth 100000
end Go.Pl

namespace Go.Pl
open Go.RowKit
open Enc (enc dec is)
open EncL (encL decL isL)
end Go.Pl

namespace Go.Pl
open Go.RowKit
open Enc (enc dec is)
open EncL (encL decL isL)
set_option maxRecDepth 100000
end Go.Pl

namespace Go.Pl
open Go.RowKit
open Enc (enc dec is)
open EncL (encL decL isL)
end Go.Pl

namespace Go.Pl
open Go.RowKit
open Enc (enc dec is)
open EncL (encL decL isL)
def Wp(a b:Lin)(k:Int):Lin×Int:=if Zd a then(if Zd b then b6l (YV (YV (0+YV (1*a.k))+YV (k*b.k))) (Jy k b.t (Jy 1 a.t []))else(⟨0,[]⟩,1))else(⟨0,[]⟩,1)
def AJ(l:Lin)(k:Int):Lin×Int:=Wp ⟨0,[]⟩ l (max (-1000001) (min k 1000001))
def Xb(g:Lin):Lin×Int:=if (AJ g (-1)).2=0 then Wp (AJ g (-1)).1 ⟨-1,[]⟩ 1 else(⟨0,[]⟩,(AJ g (-1)).2)
def ZU(fs:List Fact)(l:Lin):List Fact:=fs++[⟨false,l⟩]
mutual
def cSm:Cert->Bool
 | .mk _ m l ks=>decide (m.length<=9223372036854775807)&&ZW l&&decide (ks.length<=9223372036854775807)&&a4c ks
def a4c:List Cert->Bool
 | []=>true
 | c::cs=>cSm c&&a4c cs
end
mutual
theorem c6r: ∀ {c:Cert},cSm c=true->cOk c=true
 | .mk k m l ks,h=>by
  simp only[cSm,cOk,ZW,Bool.and_eq_true]at h ⊢
  exact⟨⟨⟨h.1.1.1,h.1.1.2.1⟩,h.1.2⟩,a0f h.2⟩
theorem a0f: ∀ {cs:List Cert},a4c cs=true->a5m cs=true
 | [],_=>rfl
 | c::cs,h=>by
  simp only[a4c,a5m,Bool.and_eq_true]at h ⊢
  exact⟨c6r h.1,a0f h.2⟩
end
theorem Qn{l:Lin}(h:Zd l=true):l.t.length<=12:=by
 simp only[Zd,Bool.and_eq_true,decide_eq_true_eq]at h
 exact h.2
theorem UC{l:Lin}(h:Zd l=true){t:Coef}(ht:t∈l.t):Zw t.v=true∧t.c≠0∧ -1000000<=t.c∧t.c<=1000000:=by
 simp only[Zd,Bool.and_eq_true,decide_eq_true_eq,List.all_eq_true]at h
 have:=h.1.1.1 t ht
 simp only[Z7,Bool.and_eq_true,decide_eq_true_eq]at this
 exact⟨this.1.1,this.1.2,this.2⟩
theorem KN{l:Lin}(h:Zd l=true): -1000000<=l.k∧l.k<=1000000:=by
 simp only[Zd,Z7,Bool.and_eq_true,decide_eq_true_eq]at h
 exact h.1.2
theorem a6b{n:Int}{m:List (Str×Int)}(h:(b6l n m).2=0):Zd (b6l n m).1=true:=by
 unfold b6l at h ⊢
 split
 ·assumption
 ·rename_i h'
  rw[if_neg h']at h
  cases h
theorem Ap{a b:Lin}{k:Int}(h:(Wp a b k).2=0):Zd a=true∧Zd b=true∧Zd (Wp a b k).1=true:=by
 unfold Wp at h ⊢
 cases ha:Zd a
 ·rw[ha,if_neg (by decide)]at h;cases h
 cases hb:Zd b
 ·rw[ha,hb,if_pos rfl,if_neg (by decide)]at h;cases h
 rw[ha,hb,if_pos rfl,if_pos rfl]at h
 rw[if_pos rfl,if_pos rfl]
 exact⟨rfl,rfl,a6b h⟩
theorem KQ{l:Lin}(h:(Xb l).2=0):Zd l=true∧Zd (Xb l).1=true:=by
 unfold Xb at h ⊢
 by_cases h1:(AJ l (-1)).2=0
 ·rw[if_pos h1]at h ⊢
  exact⟨(Ap h1).2.1,(Ap h).2.2⟩
 ·rw[if_neg h1]at h
  exact absurd h h1
end Go.Pl

namespace Go.Pl
open Go.RowKit
open Enc (enc dec is)
open EncL (encL decL isL)
theorem YU{n:Int}(h1 : -9223372036854775808<=n)(h2:n<=9223372036854775807):YV n=n:=Wo h1 h2
end Go.Pl

namespace Go.Pl
open Go.RowKit
open Enc (enc dec is)
open EncL (encL decL isL)
end Go.Pl

namespace Go.Pl
open Go.RowKit
open Enc (enc dec is)
open EncL (encL decL isL)
set_option maxRecDepth 100000
def Oe:IC:=(.seq (.reg [⟨(some 1),(.box 3 (.t 0)),0,none⟩,⟨(some 2),(.mv (.c (.bool false))),1,none⟩] none) (.seq (.reg [⟨(some 3),(.faddr 1 (.t 1)),0,none⟩,⟨(some 4),(.load true [(.int .i64),(.sl 2)] (.t 3)),0,none⟩,⟨(some 5),(.call (.c (.fn 73)) [(.t 4)]),0,none⟩,⟨(some 6),(.un .not (.t 5)),2,none⟩,⟨(some 2),(.mv (.t 6)),2,none⟩] none) .ret))
def O3:List IRes:=[(.tmp 2)]
abbrev c6n:Nat:=7
def b2z:ZC:=Xn [(73,.pure (preT (fun x:Lin×Unit=>ZW x.1)) (Zg (fun x:Lin×Unit=>Zd x.1)))]
theorem c8c{G:PV->Prop}(f:Fact)(h:(Go.Pl.preT (fun(x:Lin×Unit)=>ZW x.1) [(.agg [(.int .i64 (Lin.k f.l)),(.sl 2 false (List.map enc (Lin.t f.l)))])])=true∧(∃ y0:Bool,AV.pv (Zg (fun(x:Lin×Unit)=>Zd x.1) [(.agg [(.int .i64 (Lin.k f.l)),(.sl 2 false (List.map enc (Lin.t f.l)))])])=AV.pv (enc y0)∧(G ((.bool !y0))))):Zc b2z 0 (Za O3 G) Oe [] (YD 7 [enc f]):=Zc.tp (.req (.abs (Bool) (fun YY=>AV.pv (enc YY)) (.nil))) h (by kernel_rfl)
def Kv:IC:=(.seq (.reg [⟨(some 4),(.mv (.c (.int .i64 0))),0,none⟩] none) (.seq (.seq (.reg [⟨(some 6),(.mv (.t 0)),0,none⟩,⟨(some 7),(.len 1 (.t 6)),0,none⟩,⟨(some 8),(.mv (.c (.int .i64 0))),0,none⟩] none) (.block 0 (.loop [8,7,1,0] (.seq (.reg [⟨(some 9),(.bin .num .lss (.t 8) (.t 7)),0,none⟩] none) (.seq (.cond (.t 9) .skip (.exit 0)) (.seq (.block 1 (.seq (.reg [⟨(some 10),(.mv (.t 8)),0,none⟩,⟨(some 5),(.mv (.t 10)),0,none⟩] none) (.seq (.reg [⟨(some 11),(.mv (.t 1)),0,none⟩,⟨(some 12),(.mv (.t 0)),0,none⟩,⟨(some 13),(.mv (.t 5)),0,none⟩,⟨(some 14),(.iaddr 3 (.t 12) (.t 13)),0,none⟩,⟨(some 15),(.load true [.bool,(.int .i64),(.sl 2)] (.t 14)),0,none⟩,⟨(some 16),(.call (.t 11) [(.t 15)]),0,none⟩] none) (.cond (.t 16) (.seq (.reg [⟨(some 17),(.mv (.t 5)),0,none⟩,⟨(some 4),(.mv (.t 17)),0,none⟩] none) .ret) .skip)))) (.reg [⟨(some 18),(.bin .num .add (.t 8) (.c (.int .i64 1))),0,none⟩,⟨(some 8),(.mv (.t 18)),0,none⟩] none))))))) (.seq (.reg [⟨(some 4),(.mv (.c (.int .i64 (-1)))),0,none⟩] none) .ret)))
def J5:List IRes:=[(.tmp 4)]
abbrev c7e:Nat:=19
def Ao:ZC:=Xn [(162,.pure (preT (fun x:Fact×Unit=>ZW x.1.l)) (Zg (fun x:Fact×Unit=> !(Zd x.1.l))))]
theorem c8d{G:PV->Prop}(l:List Fact)(h:At Ao 0 (Za J5 G) Kv 0 19 [(0,(.pv (.sl 3 false (List.map enc l)))),(1,(.pv (.fn 162))),(7,(.pv (.int .i64 (↑(List.length (List.map enc l)):Int)))),(8,(.pv (.int .i64 0)))] []):Zc Ao 0 (Za J5 G) Kv [] (YD 19 [enc l,.fn 162]):=Zc.tp (.nil) h (by kernel_rfl)
theorem b4d{G:PV->Prop}(l:List Fact)(i:Int)(h:if (decide (i<(↑(List.length l):Int)))=true then(decide (0<=i)&&decide (Int.toNat i<List.length (List.map enc l))&&Enc.sz Fact==3)=true∧(∃ y0:Fact,AV.pv (PV.rptr (PV.cells (List.getD (List.map enc l) (Int.toNat i) default)))=AV.pv (PV.rptr (PV.cells ((enc) y0)))∧((Go.Pl.preT (fun(x:Fact×Unit)=>ZW x.1.l) [(.agg [(.bool (PV.asBool (List.getD (PV.cells (enc y0)) 0 default))),(.int .i64 (PV.asInt (List.getD (PV.cells (enc y0)) (0+1) default))),(.sl 2 false (PV.asXs (List.getD (PV.cells (enc y0)) (0+1+1) default)))])])=true∧(∃ y1:Bool,AV.pv (Zg (fun(x:Fact×Unit)=> !Zd x.1.l) [(.agg [(.bool (PV.asBool (List.getD (PV.cells (enc y0)) 0 default))),(.int .i64 (PV.asInt (List.getD (PV.cells (enc y0)) (0+1) default))),(.sl 2 false (PV.asXs (List.getD (PV.cells (enc y0)) (0+1+1) default)))])])=AV.pv (enc y1)∧(if (y1)=true then G ((.int .i64 i))else(At Ao 0 (Za J5 G) Kv 0 19 [(0,(.pv (.sl 3 false (List.map enc l)))),(1,(.pv (.fn 162))),(7,(.pv (.int .i64 (↑(List.length l):Int)))),(8,(.pv (.int .i64 (IntKind.wrap IntKind.i64 (i+1)))))] [])))))else(G ((.int .i64 (-1))))):At Ao 0 (Za J5 G) Kv 0 19 [(0,.pv (enc l)),(1,.pv (.fn 162)),(7,.pv (.int .i64 l.length)),(8,.pv (.int .i64 i))] []:=At.tp (.lit (.ask (.req (.abs (Fact) (fun YY=>AV.pv (PV.rptr (PV.cells ((enc) YY)))) (.lit (.req (.abs (Bool) (fun YY=>AV.pv (enc YY)) (.ask (.nil) (.lit (.nil)))))))) (.nil))) h (by kernel_rfl)
def Pm:IC:=(.seq (.reg [⟨(some 4),(.mv (.c (.bool false))),0,none⟩] none) (.seq (.reg [⟨(some 5),(.mv (.t 0)),0,none⟩,⟨(some 6),(.mv (.t 1)),0,none⟩,⟨(some 7),(.call (.c (.fn 227)) [(.t 5),(.t 6)]),0,none⟩,⟨(some 8),(.bin .num .geq (.t 7) (.c (.int .i64 0))),2,none⟩,⟨(some 4),(.mv (.t 8)),2,none⟩] none) .ret))
def E5:List IRes:=[(.tmp 4)]
abbrev c5t:Nat:=9
def b6b:ZC:=Xn [(227,.pure (preT (fun x:List Fact×FnV 162×Unit=>Zo x.1)) (Zg (fun x:List Fact×FnV 162×Unit=>Zx (fun f:Fact=> !(Zd f.l)) x.1)))]
theorem c8j{G:PV->Prop}(l:List Fact)(h:(Go.Pl.preT (fun(x:List Fact×FnV 162×Unit)=>Zo x.1) [(.sl 3 false (List.map enc l)),(.fn 162)])=true∧(∃ y0:Int,AV.pv (Zg (fun(x:List Fact×FnV 162×Unit)=>Zx (fun(f:Fact)=> !Zd f.l) x.1) [(.sl 3 false (List.map enc l)),(.fn 162)])=AV.pv (enc y0)∧(G ((.bool (decide (y0 ≥ 0))))))):Zc b6b 0 (Za E5 G) Pm [] (YD 9 [enc l,.fn 162]):=Zc.tp (.req (.abs (Int) (fun YY=>AV.pv (enc YY)) (.lit (.nil)))) h (by kernel_rfl)
def GR:IC:=(.seq (.reg [⟨(some 2),(.mv (.c (.bool false))),0,none⟩] none) (.seq (.reg [⟨(some 3),(.mv (.t 0)),0,none⟩,⟨(some 4),(.call (.c (.fn 161)) [(.t 3),(.c (.fn 162))]),0,none⟩,⟨(some 5),(.un .not (.t 4)),2,none⟩,⟨(some 2),(.mv (.t 5)),2,none⟩] none) .ret))
def Dl:List IRes:=[(.tmp 2)]
abbrev a6j:Nat:=6
def BM:ZC:=Xn [(161,.pure (preT (fun x:List Fact×FnV 162×Unit=>Zo x.1)) (Zg (fun x:List Fact×FnV 162×Unit=>x.1.any fun f:Fact=> !(Zd f.l))))]
theorem b6m{G:PV->Prop}(l:List Fact)(h:(Go.Pl.preT (fun(x:List Fact×FnV 162×Unit)=>Zo x.1) [(.sl 3 false (List.map enc l)),(.fn 162)])=true∧(∃ y0:Bool,AV.pv (Zg (fun(x:List Fact×FnV 162×Unit)=>List.any x.1 fun(f:Fact)=> !Zd f.l) [(.sl 3 false (List.map enc l)),(.fn 162)])=AV.pv (enc y0)∧(G ((.bool !y0))))):Zc BM 0 (Za Dl G) GR [] (YD 6 [enc l]):=Zc.tp (.req (.abs (Bool) (fun YY=>AV.pv (enc YY)) (.nil))) h (by kernel_rfl)
def Og:IC:=(.seq (.reg [⟨(some 2),(.box 2 (.t 0)),0,none⟩,⟨(some 3),(.mv (.c (.bool false))),1,none⟩] none) (.seq (.reg [⟨(some 4),(.faddr 0 (.t 2)),0,none⟩,⟨(some 5),(.load false [.str] (.t 4)),0,none⟩,⟨(some 6),(.faddr 0 (.t 1)),0,none⟩,⟨(some 7),(.load false [.str] (.t 6)),0,none⟩,⟨(some 8),(.bin .num .eql (.t 5) (.t 7)),0,none⟩,⟨(some 3),(.mv (.t 8)),0,none⟩] none) .ret))
def EA:List IRes:=[(.tmp 3)]
abbrev c6k:Nat:=9
def b6t:ZC:=Xn []
theorem c9q{G:AV×List AObj×List AObj->Prop}(x:Coef)(v:List UInt8)(c:Int)(h:G (((.pv (.bool (Str.s x.v==v))),([(.box [(.pv (.str v)),(.pv (.int .i64 c))])],[])))):Zc b6t 1 (Zj 1 EA G) Og [] (YH 9 [.pv (enc x),.ptr 0 0] [.box [.pv (.str v),.pv (.int .i64 c)]]):=Zc.to (.lit (.nil)) h (by kernel_rfl)
def Q8:IC:=(.seq (.reg [⟨(some 4),(.mv (.c (.int .i64 0))),0,none⟩] none) (.seq (.seq (.reg [⟨(some 6),(.mv (.t 0)),0,none⟩,⟨(some 7),(.len 1 (.t 6)),0,none⟩,⟨(some 8),(.mv (.c (.int .i64 0))),0,none⟩] none) (.block 0 (.loop [8,7,1,0] (.seq (.reg [⟨(some 9),(.bin .num .lss (.t 8) (.t 7)),0,none⟩] none) (.seq (.cond (.t 9) .skip (.exit 0)) (.seq (.block 1 (.seq (.reg [⟨(some 10),(.mv (.t 8)),0,none⟩,⟨(some 5),(.mv (.t 10)),0,none⟩] none) (.seq (.reg [⟨(some 11),(.mv (.t 1)),0,none⟩,⟨(some 12),(.mv (.t 0)),0,none⟩,⟨(some 13),(.mv (.t 5)),0,none⟩,⟨(some 14),(.iaddr 2 (.t 12) (.t 13)),0,none⟩,⟨(some 15),(.load true [.str,(.int .i64)] (.t 14)),0,none⟩,⟨(some 16),(.call (.t 11) [(.t 15)]),0,none⟩] none) (.cond (.t 16) (.seq (.reg [⟨(some 17),(.mv (.t 5)),0,none⟩,⟨(some 4),(.mv (.t 17)),0,none⟩] none) .ret) .skip)))) (.reg [⟨(some 18),(.bin .num .add (.t 8) (.c (.int .i64 1))),0,none⟩,⟨(some 8),(.mv (.t 18)),0,none⟩] none))))))) (.seq (.reg [⟨(some 4),(.mv (.c (.int .i64 (-1)))),0,none⟩] none) .ret)))
def JA:List IRes:=[(.tmp 4)]
abbrev c6x:Nat:=19
def Av:ZC:=Xn [(110,.own Sq NF)]
theorem c7r{G:AV×List AObj×List AObj->Prop}(l:List Coef)(v:List UInt8)(c:Int)(h:At Av 1 (Zj 1 JA G) Q8 0 19 [(0,(.pv (.sl 2 false (List.map enc l)))),(1,(.fn 110 [] [(.ptr 0 0)])),(7,(.pv (.int .i64 (↑(List.length (List.map enc l)):Int)))),(8,(.pv (.int .i64 0)))] [(.obj (.box [(.pv (.str v)),(.pv (.int .i64 c))]))]):Zc Av 1 (Zj 1 JA G) Q8 [] (YH 19 [.pv (enc l),.fn 110 [] [.ptr 0 0]] [.box [.pv (.str v),.pv (.int .i64 c)]]):=Zc.to (.nil) h (by kernel_rfl)
theorem b3v{G:AV×List AObj×List AObj->Prop}(l:List Coef)(v:List UInt8)(c:Int)(i:Int)(h:if (decide (i<(↑(List.length l):Int)))=true then(decide (0<=i)&&decide (Int.toNat i<List.length (List.map enc l))&&Enc.sz Coef==2)=true∧(∃ y0:Coef,AV.pv (PV.rptr (PV.cells (List.getD (List.map enc l) (Int.toNat i) default)))=AV.pv (PV.rptr (PV.cells ((enc) y0)))∧((Sq [(.pv (.agg [(.str (PV.asStr (List.getD (PV.cells (enc y0)) 0 default))),(.int .i64 (PV.asInt (List.getD (PV.cells (enc y0)) (0+1) default)))])),(.ptr 0 0)] [(.box [(.pv (.str v)),(.pv (.int .i64 c))])])=true∧(if (Str.s (Coef.v (dec (PV.agg (Qt (PV.cells (enc y0)) 0 [Sh.str,Sh.int .i64]))))==v)=true then G (((.pv (.int .i64 i)),([(.box [(.pv (.str v)),(.pv (.int .i64 c))])],[])))else(At Av 1 (Zj 1 JA G) Q8 0 19 [(0,(.pv (.sl 2 false (List.map enc l)))),(1,(.fn 110 [] [(.ptr 0 0)])),(7,(.pv (.int .i64 (↑(List.length l):Int)))),(8,(.pv (.int .i64 (IntKind.wrap IntKind.i64 (i+1)))))] [(.obj (.box [(.pv (.str v)),(.pv (.int .i64 c))]))]))))else(G (((.pv (.int .i64 (-1))),([(.box [(.pv (.str v)),(.pv (.int .i64 c))])],[]))))):At Av 1 (Zj 1 JA G) Q8 0 19 [(0,.pv (enc l)),(1,.fn 110 [] [.ptr 0 0]),(7,.pv (.int .i64 l.length)),(8,.pv (.int .i64 i))] [.obj (.box [.pv (.str v),.pv (.int .i64 c)])]:=At.to (.lit (.ask (.req (.abs (Coef) (fun YY=>AV.pv (PV.rptr (PV.cells ((enc) YY)))) (.lit (.req (.keep (.ask (.nil) (.lit (.nil)))))))) (.nil))) h (by kernel_rfl)
def Q9:IC:=(.seq (.reg [⟨(some 2),(.box 2 (.t 0)),0,none⟩,⟨(some 4),(.mv (.c (.int .i64 0))),1,none⟩,⟨(some 5),(.mv (.c (.int .i64 0))),1,none⟩] none) (.seq (.seq (.reg [⟨(some 11),(.load true [(.int .i64),(.sl 2)] (.t 2)),0,none⟩,⟨(some 12),(.call (.c (.fn 73)) [(.t 11)]),0,none⟩,⟨(some 13),(.un .not (.t 12)),2,none⟩] none) (.cond (.t 13) (.seq (.reg [⟨(some 4),(.mv (.c (.int .i64 0))),0,none⟩,⟨(some 5),(.mv (.c (.int .i64 1))),0,none⟩] none) .ret) .skip)) (.seq (.reg [⟨(some 14),(.faddr 0 (.t 2)),0,none⟩,⟨(some 15),(.load false [(.int .i64)] (.t 14)),0,none⟩,⟨(some 6),(.mv (.t 15)),0,none⟩] none) (.seq (.seq (.reg [⟨(some 16),(.faddr 1 (.t 2)),0,none⟩,⟨(some 17),(.load false [(.sl 2)] (.t 16)),0,none⟩,⟨(some 18),(.len 1 (.t 17)),0,none⟩,⟨(some 19),(.mv (.c (.int .i64 0))),0,none⟩] none) (.block 0 (.loop [19,18,17,1,6] (.seq (.reg [⟨(some 20),(.bin .num .lss (.t 19) (.t 18)),0,none⟩] none) (.seq (.cond (.t 20) .skip (.exit 0)) (.seq (.block 1 (.seq (.reg [⟨(some 21),(.iaddr 2 (.t 17) (.t 19)),0,none⟩,⟨(some 22),(.load true [.str,(.int .i64)] (.t 21)),0,none⟩,⟨(some 8),(.alloc (.agg [(.str []),(.int .i64 0)])),0,none⟩,⟨none,(.store 2 (.t 8) (.t 22)),1,none⟩] none) (.seq (.reg [⟨(some 23),(.mv (.t 1)),0,none⟩,⟨(some 24),(.mkfn 110 [] [(.t 8)]),0,none⟩,⟨(some 25),(.call (.c (.fn 109)) [(.t 23),(.t 24)]),0,none⟩,⟨(some 9),(.mv (.t 25)),2,none⟩] none) (.seq (.seq (.reg [⟨(some 26),(.mv (.t 9)),0,none⟩,⟨(some 27),(.bin .num .lss (.t 26) (.c (.int .i64 0))),0,none⟩] none) (.cond (.t 27) (.seq (.reg [⟨(some 4),(.mv (.c (.int .i64 0))),0,none⟩,⟨(some 5),(.mv (.c (.int .i64 7))),0,none⟩] none) .ret) .skip)) (.seq (.seq (.reg [⟨(some 28),(.mv (.t 1)),0,none⟩,⟨(some 29),(.mv (.t 9)),0,none⟩,⟨(some 30),(.iaddr 2 (.t 28) (.t 29)),0,none⟩,⟨(some 31),(.faddr 1 (.t 30)),0,none⟩,⟨(some 32),(.load false [(.int .i64)] (.t 31)),0,none⟩,⟨(some 10),(.mv (.t 32)),0,none⟩] none) (.seq (.reg [⟨(some 33),(.mv (.t 10)),0,none⟩,⟨(some 34),(.bin .num .lss (.t 33) (.c (.int .i64 (-1000000000)))),0,none⟩,⟨(some 35),(.mv (.t 34)),0,none⟩,⟨(some 36),(.mv (.t 10)),0,(some (35,false))⟩,⟨(some 37),(.bin .num .gtr (.t 36) (.c (.int .i64 1000000000))),0,(some (35,false))⟩,⟨(some 38),(.pick (.t 35) (.c (.bool true)) (.t 37)),0,none⟩] none) (.cond (.t 38) (.seq (.reg [⟨(some 4),(.mv (.c (.int .i64 0))),0,none⟩,⟨(some 5),(.mv (.c (.int .i64 2))),0,none⟩] none) .ret) .skip))) (.reg [⟨(some 39),(.mv (.t 6)),0,none⟩,⟨(some 40),(.faddr 1 (.t 8)),0,none⟩,⟨(some 41),(.load false [(.int .i64)] (.t 40)),0,none⟩,⟨(some 42),(.mv (.t 1)),0,none⟩,⟨(some 43),(.mv (.t 9)),0,none⟩,⟨(some 44),(.iaddr 2 (.t 42) (.t 43)),0,none⟩,⟨(some 45),(.faddr 1 (.t 44)),0,none⟩,⟨(some 46),(.load false [(.int .i64)] (.t 45)),0,none⟩,⟨(some 47),(.bin .num .mul (.t 41) (.t 46)),0,none⟩,⟨(some 48),(.bin .num .add (.t 39) (.t 47)),0,none⟩,⟨(some 6),(.mv (.t 48)),0,none⟩] (some [[],[],[1],[],[],[3,4],[5,3,4],[6,5,3,4],[2,7,1,6,5,3,4],[0,8,2,7,1,6,5,3,4],[9,0,1,2,3,4,5,6,7,8]]))))))) (.reg [⟨(some 49),(.bin .num .add (.t 19) (.c (.int .i64 1))),0,none⟩,⟨(some 19),(.mv (.t 49)),0,none⟩] none))))))) (.seq (.reg [⟨(some 50),(.mv (.t 6)),0,none⟩,⟨(some 4),(.mv (.t 50)),0,none⟩,⟨(some 5),(.mv (.c (.int .i64 0))),0,none⟩] none) .ret)))))
def Q6:List IRes:=[(.tmp 4),(.tmp 5)]
abbrev c5h:Nat:=51
def Dw:ZC:=Xn [(73,.pure (preT (fun x:Lin×Unit=>ZW x.1)) (Zg (fun x:Lin×Unit=>Zd x.1))),(109,.own (QH 110) CR)]
theorem c9k{G:PV->Prop}(l:Lin)(v:List Coef)(h:(Go.Pl.preT (fun(x:Lin×Unit)=>ZW x.1) [(.agg [(.int .i64 l.k),(.sl 2 false (List.map enc l.t))])])=true∧(∃ y0:Bool,AV.pv (Zg (fun(x:Lin×Unit)=>Zd x.1) [(.agg [(.int .i64 l.k),(.sl 2 false (List.map enc l.t))])])=AV.pv (enc y0)∧(if (!y0)=true then G ((.tup [(.int .i64 0),(.int .i64 1)]))else(At Dw 0 (Za Q6 G) Q9 0 51 [(1,(.pv (.sl 2 false (List.map enc v)))),(6,(.pv (.int .i64 l.k))),(17,(.pv (.sl 2 false (List.map enc l.t)))),(18,(.pv (.int .i64 (↑(List.length (List.map enc l.t)):Int)))),(19,(.pv (.int .i64 0)))] [])))):Zc Dw 0 (Za Q6 G) Q9 [] (YD 51 [enc l,enc v]):=Zc.tp (.req (.abs (Bool) (fun YY=>AV.pv (enc YY)) (.ask (.nil) (.nil)))) h (by kernel_rfl)
theorem b3l{G:PV->Prop}(l:Lin)(v:List Coef)(n i:Int)(h:if (decide (i<(↑(List.length l.t):Int)))=true then(decide (0<=i)&&decide (Int.toNat i<List.length (List.map enc l.t))&&Enc.sz Coef==2)=true∧(∃ y0:Coef,AV.pv (PV.rptr (PV.cells (List.getD (List.map enc l.t) (Int.toNat i) default)))=AV.pv (PV.rptr (PV.cells ((enc) y0)))∧((QH 110 [(.pv (.sl 2 false (List.map enc v))),(.fn 110 [] [(.ptr 0 0)])] [(.box [(.pv (.str (PV.asStr (List.getD (PV.cells (enc y0)) 0 default)))),(.pv (.int .i64 (PV.asInt (List.getD (PV.cells (enc y0)) (0+1) default))))])])=true∧(if (decide (Zx (fun(t:Coef)=>Str.s t.v==PV.asStr (List.getD (PV.cells (enc y0)) 0 default)) (dec (enc v))<0))=true then G ((.tup [(.int .i64 0),(.int .i64 7)]))else((decide (0<=Zx (fun(t:Coef)=>Str.s t.v==PV.asStr (List.getD (PV.cells (enc y0)) 0 default)) (dec (enc v)))&&decide (Int.toNat (Zx (fun(t:Coef)=>Str.s t.v==PV.asStr (List.getD (PV.cells (enc y0)) 0 default)) (dec (enc v)))<List.length (List.map enc v))&&Enc.sz Coef==2)=true∧(∃ y1:Coef,AV.pv (PV.rptr (PV.cells (List.getD (List.map enc v) (Int.toNat (Zx (fun(t:Coef)=>Str.s t.v==PV.asStr (List.getD (PV.cells (enc y0)) 0 default)) (dec (enc v)))) default)))=AV.pv (PV.rptr (PV.cells ((enc) y1)))∧(if (decide (PV.asInt (List.getD (List.drop 1 (PV.cells (enc y1))) 0 default)<(-1000000000:Int)))=true then G ((.tup [(.int .i64 0),(.int .i64 2)]))else(if (decide (PV.asInt (List.getD (List.drop 1 (PV.cells (enc y1))) 0 default)>1000000000))=true then G ((.tup [(.int .i64 0),(.int .i64 2)]))else((decide (0<=Zx (fun(t:Coef)=>Str.s t.v==PV.asStr (List.getD (PV.cells (enc y0)) 0 default)) (dec (enc v)))&&decide (Int.toNat (Zx (fun(t:Coef)=>Str.s t.v==PV.asStr (List.getD (PV.cells (enc y0)) 0 default)) (dec (enc v)))<List.length (List.map enc v))&&Enc.sz Coef==2)=true∧(∃ y2:Coef,AV.pv (PV.rptr (PV.cells (List.getD (List.map enc v) (Int.toNat (Zx (fun(t:Coef)=>Str.s t.v==PV.asStr (List.getD (PV.cells (enc y0)) 0 default)) (dec (enc v)))) default)))=AV.pv (PV.rptr (PV.cells ((enc) y2)))∧(At Dw 0 (Za Q6 G) Q9 0 51 [(1,(.pv (.sl 2 false (List.map enc v)))),(6,(.pv (.int .i64 (IntKind.wrap IntKind.i64 (n+IntKind.wrap IntKind.i64 (PV.asInt (List.getD (PV.cells (enc y0)) (0+1) default)*PV.asInt (List.getD (List.drop 1 (PV.cells (enc y2))) 0 default))))))),(17,(.pv (.sl 2 false (List.map enc l.t)))),(18,(.pv (.int .i64 (↑(List.length l.t):Int)))),(19,(.pv (.int .i64 (IntKind.wrap IntKind.i64 (i+1)))))] []))))))))))else(G ((.tup [(.int .i64 n),(.int .i64 0)])))):At Dw 0 (Za Q6 G) Q9 0 51 [(1,.pv (enc v)),(6,.pv (.int .i64 n)),(17,.pv (enc l.t)),(18,.pv (.int .i64 l.t.length)),(19,.pv (.int .i64 i))] []:=At.tp (.lit (.ask (.req (.abs (Coef) (fun YY=>AV.pv (PV.rptr (PV.cells ((enc) YY)))) (.lit (.req (.keep (.lit (.ask (.nil) (.req (.abs (Coef) (fun YY=>AV.pv (PV.rptr (PV.cells ((enc) YY)))) (.lit (.lit (.ask (.lit (.lit (.lit (.nil)))) (.lit (.lit (.lit (.ask (.nil) (.req (.abs (Coef) (fun YY=>AV.pv (PV.rptr (PV.cells ((enc) YY)))) (.lit (.lit (.lit (.lit (.nil))))))))))))))))))))))) (.nil))) h (by kernel_rfl)
def b0q:IC:=(.seq (.reg [⟨(some 2),(.box 3 (.t 0)),0,none⟩,⟨(some 3),(.mv (.c (.bool false))),1,none⟩] none) (.seq (.reg [⟨(some 7),(.faddr 1 (.t 2)),0,none⟩,⟨(some 8),(.load true [(.int .i64),(.sl 2)] (.t 7)),0,none⟩,⟨(some 9),(.load false [(.sl 2)] (.t 1)),0,none⟩,⟨(some 10),(.call (.c (.fn 38)) [(.t 8),(.t 9)]),0,none⟩,⟨(some 6),(.mv (.t 10)),2,none⟩,⟨(some 11),(.extract (.t 6) 0),2,none⟩,⟨(some 12),(.extract (.t 6) 1),2,none⟩,⟨(some 4),(.mv (.t 11)),2,none⟩,⟨(some 5),(.mv (.t 12)),2,none⟩] none) (.seq (.reg [⟨(some 13),(.mv (.t 5)),0,none⟩,⟨(some 14),(.bin .num .neq (.t 13) (.c (.int .i64 0))),0,none⟩,⟨(some 15),(.mv (.t 14)),0,none⟩,⟨(some 16),(.mv (.t 4)),0,(some (15,false))⟩,⟨(some 17),(.bin .num .lss (.t 16) (.c (.int .i64 0))),0,(some (15,false))⟩,⟨(some 18),(.pick (.t 15) (.c (.bool true)) (.t 17)),0,none⟩,⟨(some 19),(.mv (.t 18)),0,none⟩,⟨(some 20),(.faddr 0 (.t 2)),0,(some (19,false))⟩,⟨(some 21),(.load false [.bool] (.t 20)),0,(some (19,false))⟩,⟨(some 22),(.mv (.t 21)),0,(some (19,false))⟩,⟨(some 23),(.mv (.t 4)),0,(some (22,true))⟩,⟨(some 24),(.bin .num .neq (.t 23) (.c (.int .i64 0))),0,(some (22,true))⟩,⟨(some 25),(.pick (.t 22) (.t 24) (.c (.bool false))),0,(some (19,false))⟩,⟨(some 26),(.pick (.t 19) (.c (.bool true)) (.t 25)),0,none⟩,⟨(some 3),(.mv (.t 26)),0,none⟩] none) .ret)))
def b6c:List IRes:=[(.tmp 3)]
abbrev c7x:Nat:=27
def c6w:ZC:=Xn [(38,.pure (preT (fun x:Lin×List Coef×Unit=>ZW x.1&&decide (x.2.1.length<=9223372036854775807))) (Zg (fun x:Lin×List Coef×Unit=>Yo x.1 x.2.1)))]
theorem d0p{G:AV×List AObj×List AObj->Prop}(f:Fact)(v:List Coef)(h:(Go.Pl.preT (fun(x:Lin×List Coef×Unit)=>ZW x.1&&decide (List.length x.2.1<=9223372036854775807)) [(.agg [(.int .i64 (Lin.k f.l)),(.sl 2 false (List.map enc (Lin.t f.l)))]),(.sl 2 false (List.map enc v))])=true∧(∃ y0:Int×Int,AV.pv (Zg (fun(x:Lin×List Coef×Unit)=>Yo x.1 x.2.1) [(.agg [(.int .i64 (Lin.k f.l)),(.sl 2 false (List.map enc (Lin.t f.l)))]),(.sl 2 false (List.map enc v))])=AV.pv (enc y0)∧(if (y0.2 != 0)=true then G (((.pv (.bool true)),([(.box [(.pv (.sl 2 false (List.map enc v)))])],[])))else(if (decide (y0.1<0))=true then G (((.pv (.bool true)),([(.box [(.pv (.sl 2 false (List.map enc v)))])],[])))else(if f.eq=true then G (((.pv (.bool (y0.1 != 0))),([(.box [(.pv (.sl 2 false (List.map enc v)))])],[])))else(G (((.pv (.bool false)),([(.box [(.pv (.sl 2 false (List.map enc v)))])],[]))))))))):Zc c6w 1 (Zj 1 b6c G) b0q [] (YH 27 [.pv (enc f),.ptr 0 0] [.box [.pv (enc v)]]):=Zc.to (.req (.abs (Int×Int) (fun YY=>AV.pv (enc YY)) (.lit (.ask (.lit (.lit (.lit (.lit (.lit (.lit (.lit (.nil)))))))) (.lit (.lit (.lit (.ask (.lit (.lit (.lit (.lit (.nil))))) (.lit (.lit (.ask (.lit (.lit (.lit (.lit (.lit (.nil)))))) (.lit (.lit (.lit (.lit (.nil)))))))))))))))) h (by kernel_rfl)
def JY:IC:=Kv
def Js:List IRes:=[(.tmp 4)]
abbrev c4j:Nat:=19
def Bq:ZC:=Xn [(239,.own JD GM)]
theorem c8h{G:AV×List AObj×List AObj->Prop}(l:List Fact)(v:List Coef)(h:At Bq 1 (Zj 1 Js G) JY 0 19 [(0,(.pv (.sl 3 false (List.map enc l)))),(1,(.fn 239 [] [(.ptr 0 0)])),(7,(.pv (.int .i64 (↑(List.length (List.map enc l)):Int)))),(8,(.pv (.int .i64 0)))] [(.obj (.box [(.pv (.sl 2 false (List.map enc v)))]))]):Zc Bq 1 (Zj 1 Js G) JY [] (YH 19 [.pv (enc l),.fn 239 [] [.ptr 0 0]] [.box [.pv (enc v)]]):=Zc.to (.nil) h (by kernel_rfl)
theorem b5p{G:AV×List AObj×List AObj->Prop}(l:List Fact)(v:List Coef)(i:Int)(h:if (decide (i<(↑(List.length l):Int)))=true then(decide (0<=i)&&decide (Int.toNat i<List.length (List.map enc l))&&Enc.sz Fact==3)=true∧(∃ y0:Fact,AV.pv (PV.rptr (PV.cells (List.getD (List.map enc l) (Int.toNat i) default)))=AV.pv (PV.rptr (PV.cells ((enc) y0)))∧((JD [(.pv (.agg [(.bool (PV.asBool (List.getD (PV.cells (enc y0)) 0 default))),(.int .i64 (PV.asInt (List.getD (PV.cells (enc y0)) (0+1) default))),(.sl 2 false (PV.asXs (List.getD (PV.cells (enc y0)) (0+1+1) default)))])),(.ptr 0 0)] [(.box [(.pv (.sl 2 false (List.map enc v)))])])=true∧(if (!YC (dec (PV.agg (Qt (PV.cells (enc y0)) 0 [Sh.bool,Sh.int .i64,Sh.sl 2]))) (dec (enc v)))=true then G (((.pv (.int .i64 i)),([(.box [(.pv (.sl 2 false (List.map enc v)))])],[])))else(At Bq 1 (Zj 1 Js G) JY 0 19 [(0,(.pv (.sl 3 false (List.map enc l)))),(1,(.fn 239 [] [(.ptr 0 0)])),(7,(.pv (.int .i64 (↑(List.length l):Int)))),(8,(.pv (.int .i64 (IntKind.wrap IntKind.i64 (i+1)))))] [(.obj (.box [(.pv (.sl 2 false (List.map enc v)))]))]))))else(G (((.pv (.int .i64 (-1))),([(.box [(.pv (.sl 2 false (List.map enc v)))])],[]))))):At Bq 1 (Zj 1 Js G) JY 0 19 [(0,.pv (enc l)),(1,.fn 239 [] [.ptr 0 0]),(7,.pv (.int .i64 l.length)),(8,.pv (.int .i64 i))] [.obj (.box [.pv (enc v)])]:=At.to (.lit (.ask (.req (.abs (Fact) (fun YY=>AV.pv (PV.rptr (PV.cells ((enc) YY)))) (.lit (.req (.keep (.ask (.nil) (.lit (.nil)))))))) (.nil))) h (by kernel_rfl)
def EK:IC:=Pm
def ET:List IRes:=[(.tmp 4)]
abbrev c3f:Nat:=9
def b5s:ZC:=Xn [(227,.own (Wv 239) Ct)]
theorem c9h{G:AV×List AObj×List AObj->Prop}(l:List Fact)(v:List Coef)(h:(Wv 239 [(.pv (.sl 3 false (List.map enc l))),(.fn 239 [] [(.ptr 0 0)])] [(.box [(.pv (.sl 2 false (List.map enc v)))])])=true∧(G (((.pv (.bool (decide (Zx (fun(f:Fact)=> !YC f (dec (enc v))) (dec (enc l)) ≥ 0)))),([(.box [(.pv (.sl 2 false (List.map enc v)))])],[]))))):Zc b5s 1 (Zj 1 ET G) EK [] (YH 9 [.pv (enc l),.fn 239 [] [.ptr 0 0]] [.box [.pv (enc v)]]):=Zc.to (.req (.keep (.lit (.nil)))) h (by kernel_rfl)
def Db:IC:=(.seq (.reg [⟨(some 3),(.box 1 (.t 1)),0,none⟩,⟨(some 4),(.mv (.c (.bool false))),1,none⟩] none) (.seq (.reg [⟨(some 5),(.mv (.t 0)),0,none⟩,⟨(some 6),(.mkfn 239 [] [(.t 3)]),0,none⟩,⟨(some 7),(.call (.c (.fn 161)) [(.t 5),(.t 6)]),0,none⟩,⟨(some 8),(.un .not (.t 7)),2,none⟩,⟨(some 4),(.mv (.t 8)),2,none⟩] none) .ret))
def GX:List IRes:=[(.tmp 4)]
abbrev a6a:Nat:=9
def Bw:ZC:=Xn [(161,.own (Wv 239) Cm)]
theorem b4x{G:PV->Prop}(l:List Fact)(v:List Coef)(h:(Wv 239 [(.pv (.sl 3 false (List.map enc l))),(.fn 239 [] [(.ptr 0 0)])] [(.box [(.pv (.sl 2 false (List.map enc v)))])])=true∧(G ((.bool (!List.any (dec (enc l)) fun(f:Fact)=> !YC f (dec (enc v))))))):Zc Bw 0 (Za GX G) Db [] (YD 9 [enc l,enc v]):=Zc.tp (.req (.keep (.nil))) h (by kernel_rfl)
end Go.Pl

namespace Go.Pl
open Go.RowKit
open Enc (enc dec is)
open EncL (encL decL isL)
theorem b8t: ∀ a:Fact×Unit,ZW a.1.l=true->Zc b2z 0 (Za O3 (Zl (!(Zd a.1.l)))) Oe [] (YD c6n (encL a)):=by
 rintro⟨f,⟨⟩⟩ h
 exact c8c f ⟨Zh (f.l,()) rfl h,Ze (f.l,()) rfl (ZF rfl)⟩
theorem DU{l:List Fact}(h:Zo l=true):l.length<=9223372036854775807∧ ∀ f∈l,ZW f.l=true:=by
 simp only[Zo,Bool.and_eq_true,decide_eq_true_eq,List.all_eq_true]at h
 exact h
theorem b7e(l:List Fact)(h:Zo l=true): ∀ (m i:Nat),m+i=l.length->(∀ j (hj:j<l.length),j<i->(!(Zd l[j].l))=false) ->
  At Ao 0 (Za J5 (Zl (Zx (fun f:Fact=> !(Zd f.l)) l))) Kv 0 19 [(0,.pv (enc l)),(1,.pv (.fn 162)),(7,.pv (.int .i64 l.length)),(8,.pv (.int .i64 i))] []:=by
 obtain⟨hl,hs⟩:=DU h
 intro m
 induction m with
 | zero=>
  intro i hi hno
  refine b4d l i (Z8 (Yc (by omega)) (QG ?_))
  rw[UQ _ _ (fun j hj=>hno j hj (by omega))]
 | succ m ih=>
  intro i hi hno
  have hlt:i<l.length:=by omega
  refine b4d l i (Ya (Z4 hlt) ⟨ZG hlt rfl,Z0 hlt ⟨Zh (l[i],()) rfl (hs _ (List.getElem_mem hlt)),Ze (l[i],()) rfl (Wn (fun hb=> ?_) fun hb=> ?_)⟩⟩)
  ·exact QG (UL (fun f:Fact=> !(Zd f.l)) l i hlt hno hb).symm
  ·rw[next (by omega)]
   refine ih (i+1) (by omega) fun j hj hji=> ?_
   by_cases e:j=i
   ·subst e;exact hb
   ·exact hno j hj (by omega)
theorem b9o: ∀ a:List Fact×FnV 162×Unit,Zo a.1=true->Zc Ao 0 (Za J5 (Zl (Zx (fun f:Fact=> !(Zd f.l)) a.1))) Kv [] (YD c7e (encL a)):=by
 rintro⟨l,g,⟨⟩⟩ h
 refine c8d l ?_
 rw[List.length_map]
 exact b7e l h l.length 0 (by omega) (fun j hj h=>by omega)
theorem b9c: ∀ a:List Fact×FnV 162×Unit,Zo a.1=true->Zc b6b 0 (Za E5 (Zl (a.1.any fun f:Fact=> !(Zd f.l)))) Pm [] (YD c5t (encL a)):=by
 rintro⟨l,g,⟨⟩⟩ h
 exact c8j l ⟨Zh (l,{},()) rfl h,Ze (l,{},()) rfl (ZF (XI _ _))⟩
theorem a3a(l:List Fact)(p:Fact->Bool):(!(l.any fun f=> !(p f)))=l.all p:=by
 induction l with
 | nil=>rfl
 | cons x l ih=>simp only[List.any_cons,List.all_cons,Bool.not_or,Bool.not_not,ih]
theorem FZ: ∀ a:List Fact×Unit,Zo a.1=true->Zc BM 0 (Za Dl (Zl (Y6 a.1))) GR [] (YD a6j (encL a)):=by
 rintro⟨l,⟨⟩⟩ h
 exact b6m l ⟨Zh (l,{},()) rfl h,Ze (l,{},()) rfl (ZF (a3a l _))⟩
theorem c1b: ∀ args os,Sq args os=true->Zc b6t os.length (Zj os.length EA fun r=>r=NF args os) Og [] (YH c6k args os):=by
 intro args os h
 unfold Sq at h
 split at h
 ·rename_i x v c
  obtain⟨x,rfl⟩:=Ym h
  exact c9q x v c (by simp only[NF,Enc.dec_enc])
 ·cases h
theorem b5j(l:List Coef)(v:List UInt8)(c:Int)(hl:l.length<=9223372036854775807)(H:AV×List AObj×List AObj)(hH:H=(.pv (.int .i64 (Zx (fun t:Coef=>t.v.s==v) l)),[.box [.pv (.str v),.pv (.int .i64 c)]],[])): ∀ (m i:Nat),m+i=l.length->(∀ j (hj:j<l.length),j<i->(l[j].v.s==v)=false) ->
  At Av 1 (Zj 1 JA fun r=>r=H) Q8 0 19 [(0,.pv (enc l)),(1,.fn 110 [] [.ptr 0 0]),(7,.pv (.int .i64 l.length)),(8,.pv (.int .i64 i))] [.obj (.box [.pv (.str v),.pv (.int .i64 c)])]:=by
 subst hH
 intro m
 induction m with
 | zero=>
  intro i hi hno
  refine b3v l v c i (Z8 (Yc (by omega)) ?_)
  rw[UQ _ _ (fun j hj=>hno j hj (by omega))]
 | succ m ih=>
  intro i hi hno
  have hlt:i<l.length:=by omega
  refine b3v l v c i (Ya (Z4 hlt) ⟨ZG hlt rfl,Z0 hlt ⟨ZQ l[i],Wn (fun hb=> ?_) fun hb=> ?_⟩⟩)
  ·rw[UL (fun t:Coef=>t.v.s==v) l i hlt hno hb]
  ·rw[next (by omega)]
   refine ih (i+1) (by omega) fun j hj hji=> ?_
   by_cases e:j=i
   ·subst e;exact hb
   ·exact hno j hj (by omega)
theorem c1t: ∀ args os,QH 110 args os=true->Zc Av os.length (Zj os.length JA fun r=>r=CR args os) Q8 [] (YH c6x args os):=by
 intro args os h
 unfold QH at h
 split at h
 ·rename_i l g v c
  simp only[Bool.and_eq_true,beq_iff_eq,decide_eq_true_eq]at h
  obtain⟨⟨rfl,hl⟩,h2⟩:=h
  obtain⟨l,rfl⟩:=Ym hl
  rw[Enc.dec_enc]at h2
  refine c7r l v c ?_
  rw[List.length_map]
  exact b5j l v c h2 _ (by simp only[CR,Enc.dec_enc]) l.length 0 (by omega) (fun j hj h=>by omega)
 ·cases h
theorem Nh(v:List Coef)(s:Str):(Zx (fun t:Coef=>t.v.s==s.s) v<0∧Q3 v s=none) ∨ ∃ (i:Nat) (hi:i<v.length),Zx (fun t:Coef=>t.v.s==s.s) v=i∧Q3 v s=some v[i].c:=by
 unfold Zx Q3
 have hp:(fun t:Coef=>decide (t.v=s))=fun t:Coef=>t.v.s==s.s:=by
  funext t
  by_cases h:t.v=s
  ·simp[h]
  ·have : ¬ t.v.s=s.s:=fun e=>h (by cases hv:t.v;cases s;rw[hv]at e;cases e;rfl)
   simp[h,this]
 rw[hp]
 cases h:v.findIdx? (fun t:Coef=>t.v.s==s.s)with
 | none=>
  left
  refine⟨by show(-1:Int)<0;omega,?_⟩
  rw[List.findIdx?_eq_none_iff]at h
  have:v.find? (fun t:Coef=>t.v.s==s.s)=none:=List.find?_eq_none.2 fun x hx=>by simp[h x hx]
  rw[this];rfl
 | some i=>
  right
  have h':=h
  rw[List.findIdx?_eq_some_iff_getElem]at h
  obtain⟨hi,h1,h2⟩:=h
  refine⟨i,hi,rfl,?_⟩
  have:v.find? (fun t:Coef=>t.v.s==s.s)=some v[i]:=by
   rw[List.find?_eq_some_iff_getElem]
   exact⟨h1,i,hi,rfl,fun j hj=>by simpa using h2 j hj⟩
  rw[this];rfl
theorem b4z(l:Lin)(v:List Coef)(hl:l.t.length<=9223372036854775807)(hv:v.length<=9223372036854775807): ∀ (m i:Nat) (n:Int),m+i=l.t.length ->
  At Dw 0 (Za Q6 (Zl (KC v n (l.t.drop i)))) Q9 0 51 [(1,.pv (enc v)),(6,.pv (.int .i64 n)),(17,.pv (enc l.t)),(18,.pv (.int .i64 l.t.length)),(19,.pv (.int .i64 i))] []:=by
 intro m
 induction m with
 | zero=>
  intro i n hi
  refine b3l l v n i (Z8 (Yc (by omega)) ?_)
  rw[List.drop_of_length_le (show l.t.length<=i by omega)]
  exact⟨rfl,rfl⟩
 | succ m ih=>
  intro i n hi
  have hlt:i<l.t.length:=by omega
  refine b3l l v n i (Ya (Z4 hlt) ⟨ZG hlt rfl,Z0 hlt ?_⟩)
  rw[List.drop_eq_getElem_cons hlt,KC,next (by omega)]
  have e0:PV.asStr (List.getD (PV.cells (enc l.t[i])) 0 default)=l.t[i].v.s:=rfl
  simp only[e0,Enc.dec_enc]
  refine⟨by show QH _ [.pv (enc v),_] _=true;simp[QH,hv],?_⟩
  rcases Nh v l.t[i].v with ⟨h1,h2⟩|⟨k,hk,h1,h2⟩
  ·rw[h2]
   exact Ya (by simpa using h1) ⟨rfl,rfl⟩
  ·rw[h2]
   simp only[h1]
   refine Z8 (by simp) ⟨ZG hk rfl,Z0 hk ?_⟩
   refine WI (fun h3=> ?_) fun h3=>WI (fun h4=> ?_) fun h4=>⟨ZG hk rfl,Z0 hk ?_⟩
   ·have h3:v[k].c < -1000000000:=h3
    rw[if_pos h3];exact⟨rfl,rfl⟩
   ·have h3 : ¬ v[k].c < -1000000000:=h3
    have h4:v[k].c>1000000000:=h4
    rw[if_neg h3,if_pos h4];exact⟨rfl,rfl⟩
   ·have h3 : ¬ v[k].c < -1000000000:=h3
    have h4 : ¬ v[k].c>1000000000:=h4
    rw[if_neg h3,if_neg h4]
    exact ih (i+1) _ (by omega)
theorem b9d: ∀ a:Lin×List Coef×Unit,(ZW a.1&&decide (a.2.1.length<=9223372036854775807))=true->Zc Dw 0 (Za Q6 (Zl (Yo a.1 a.2.1))) Q9 [] (YD c5h (encL a)):=by
 rintro⟨l,v,⟨⟩⟩ h
 simp only[Bool.and_eq_true,decide_eq_true_eq]at h
 have hl:l.t.length<=9223372036854775807:=by
  have:=h.1
  simp only[ZW,Y4,Bool.and_eq_true,decide_eq_true_eq]at this
  exact this.1
 refine c9k l v ⟨Zh (l,()) rfl h.1,Ze (l,()) rfl ?_⟩
 show if (!Zd l)=true then Zl (Yo l v) _ else At Dw 0 (Za Q6 (Zl (Yo l v))) Q9 0 51 _ _
 unfold Yo
 refine Vj (fun hv=> ?_) fun hv=> ?_
 ·rw[if_neg (by rw[hv];simp)]
  exact⟨rfl,rfl⟩
 ·rw[if_pos hv,List.length_map]
  exact b4z l v hl h.2 l.t.length 0 l.k (by omega)
theorem c4f: ∀ args os,JD args os=true->Zc c6w os.length (Zj os.length b6c fun r=>r=GM args os) b0q [] (YH c7x args os):=by
 intro args os h
 unfold JD at h
 split at h
 ·rename_i f v
  simp only[Bool.and_eq_true,decide_eq_true_eq]at h
  obtain⟨⟨⟨hf,hv⟩,h1⟩,h2⟩:=h
  obtain⟨f,rfl⟩:=Ym hf
  obtain⟨v,rfl⟩:=Ym hv
  rw[Enc.dec_enc]at h1 h2
  refine d0p f v ⟨Zh (f.l,v,()) rfl (by simp only[h1,Bool.true_and];exact decide_eq_true h2),Ze (f.l,v,()) rfl ?_⟩
  show if ((Yo f.l v).2 != 0)=true then(_:AV×List AObj×List AObj)=GM _ _ else _
  have hval:GM [.pv (enc f),.ptr 0 0] [.box [.pv (enc v)]]=(.pv (.bool (!YC f v)),[.box [.pv (enc v)]],[]):=by simp only[GM,Enc.dec_enc]
  rw[hval]
  unfold YC
  by_cases a1:(Yo f.l v).2=0
  ·refine Z8 (by simp[a1]) (WI (fun a2=> ?_) fun a2=>Wn (fun a3=> ?_) fun a3=> ?_)
   ·have a2:(Yo f.l v).1<0:=a2
    simp[a2];rfl
   ·have a2 : ¬ (Yo f.l v).1<0:=a2
    rw[decide_eq_true a1,decide_eq_false a2,a3]
    simp only[Bool.not_false,Bool.true_and,Bool.not_true,Bool.false_or]
    rfl
   ·have a2 : ¬ (Yo f.l v).1<0:=a2
    rw[decide_eq_true a1,decide_eq_false a2,a3]
    rfl
  ·refine Ya (by simpa using a1) ?_
   rw[decide_eq_false a1]
   rfl
 ·cases h
theorem b6z(l:List Fact)(v:List Coef)(hl:Zo l=true)(hv:v.length<=9223372036854775807)(H:AV×List AObj×List AObj)(hH:H=(.pv (.int .i64 (Zx (fun f=> !YC f v) l)),[.box [.pv (enc v)]],[])): ∀ (m i:Nat),m+i=l.length->(∀ j (hj:j<l.length),j<i->(!YC l[j] v)=false) ->
  At Bq 1 (Zj 1 Js fun r=>r=H) JY 0 19 [(0,.pv (enc l)),(1,.fn 239 [] [.ptr 0 0]),(7,.pv (.int .i64 l.length)),(8,.pv (.int .i64 i))] [.obj (.box [.pv (enc v)])]:=by
 subst hH
 obtain⟨hl,hs⟩:=DU hl
 intro m
 induction m with
 | zero=>
  intro i hi hno
  refine b5p l v i (Z8 (Yc (by omega)) ?_)
  rw[UQ _ _ (fun j hj=>hno j hj (by omega))]
  rfl
 | succ m ih=>
  intro i hi hno
  have hlt:i<l.length:=by omega
  have hsi:=hs _ (List.getElem_mem hlt)
  refine b5p l v i (Ya (Z4 hlt) ⟨ZG hlt rfl,Z0 hlt ⟨?_,?_⟩⟩)
  ·show JD [.pv (enc l[i]),.ptr 0 0] [.box [.pv (enc v)]]=true
   simp[JD,hsi,hv]
  ·have e:YC (dec (enc l[i]:PV)) (dec (enc v:PV))=YC l[i] v:=by rw[Enc.dec_enc,Enc.dec_enc]
   show if (!YC (dec (enc l[i]:PV)) (dec (enc v:PV)))=true then _ else _
   rw[e]
   refine Wn (fun hb=> ?_) fun hb=> ?_
   ·rw[UL (fun f=> !YC f v) l i hlt hno hb]
    rfl
   ·rw[next (by omega)]
    refine ih (i+1) (by omega) fun j hj hji=> ?_
    by_cases e:j=i
    ·subst e;exact hb
    ·exact hno j hj (by omega)
theorem b7q: ∀ args os,Wv 239 args os=true->Zc Bq os.length (Zj os.length Js fun r=>r=Ct args os) JY [] (YH c4j args os):=by
 intro args os h
 unfold Wv at h
 split at h
 ·rename_i l g v
  simp only[Bool.and_eq_true,beq_iff_eq,decide_eq_true_eq]at h
  obtain⟨⟨⟨⟨rfl,hl⟩,hv⟩,h1⟩,h2⟩:=h
  obtain⟨l,rfl⟩:=Ym hl
  obtain⟨v,rfl⟩:=Ym hv
  rw[Enc.dec_enc]at h1 h2
  refine c8h l v ?_
  rw[List.length_map]
  exact b6z l v h1 h2 _ (by simp only[Ct,Enc.dec_enc]) l.length 0 (by omega) (fun j hj h=>by omega)
 ·cases h
theorem c1r: ∀ args os,Wv 239 args os=true->Zc b5s os.length (Zj os.length ET fun r=>r=Cm args os) EK [] (YH c3f args os):=by
 intro args os h
 have h':=h
 unfold Wv at h
 split at h
 ·rename_i l g v
  simp only[Bool.and_eq_true,beq_iff_eq,decide_eq_true_eq]at h
  obtain⟨⟨⟨⟨rfl,hl⟩,hv⟩,h1⟩,h2⟩:=h
  obtain⟨l,rfl⟩:=Ym hl
  obtain⟨v,rfl⟩:=Ym hv
  refine c9h l v ⟨h',?_⟩
  simp only[Cm,Enc.dec_enc,XI]
  rfl
 ·cases h
theorem FW: ∀ a:List Fact×List Coef×Unit,(Zo a.1&&decide (a.2.1.length<=9223372036854775807))=true->Zc Bw 0 (Za GX (Zl (a.1.all fun f=>YC f a.2.1))) Db [] (YD a6a (encL a)):=by
 rintro⟨l,v,⟨⟩⟩ h
 refine b4x l v ⟨?_,?_⟩
 ·show Wv _ [.pv (enc l),_] [.box [.pv (enc v)]]=true
  simpa [Wv]using h
 ·rw[Enc.dec_enc,Enc.dec_enc]
  exact ZF (a3a l _)
end Go.Pl

namespace Go.Pl
open Go.RowKit
open Enc (enc dec is)
open EncL (encL decL isL)
set_option maxRecDepth 100000
end Go.Pl

namespace Go.Pl
open Go.RowKit
open Enc (enc dec is)
open EncL (encL decL isL)
end Go.Pl

namespace Go.Pl
open Go.RowKit
open Enc (enc dec is)
open EncL (encL decL isL)
mutual
def F6:Cert->Int->Bool
 | .mk _ m l ks,n=> !decide ((m.length:Int)>60)&&(QV l 8&&(!decide (n<1)&&(!decide ((ks.length:Int)>n)&&Cq ks n)))
def Cq:List Cert->Int->Bool
 | [],_=>true
 | c::cs,n=>F6 c (YV (n - 1))&&Cq cs (YV (n - BS c))
end
end Go.Pl

namespace Go.Pl
open Go.RowKit
open Enc (enc dec is)
open EncL (encL decL isL)
set_option maxRecDepth 100000
end Go.Pl

namespace Go.Pl
open Go.RowKit
open Enc (enc dec is)
open EncL (encL decL isL)
set_option maxRecDepth 100000
def Pf:IC:=(.seq (.reg [⟨(some 2),(.mv (.c (.bool false))),0,none⟩] none) (.seq (.reg [⟨(some 3),(.mv (.t 0)),0,none⟩,⟨(some 4),(.bin .num .geq (.t 3) (.c (.int .u8 48))),0,none⟩,⟨(some 5),(.mv (.t 4)),0,none⟩,⟨(some 6),(.mv (.t 0)),0,(some (5,true))⟩,⟨(some 7),(.bin .num .leq (.t 6) (.c (.int .u8 57))),0,(some (5,true))⟩,⟨(some 8),(.pick (.t 5) (.t 7) (.c (.bool false))),0,none⟩,⟨(some 2),(.mv (.t 8)),0,none⟩] none) .ret))
def Na:List IRes:=[(.tmp 2)]
abbrev c0q:Nat:=9
def EW:ZC:=Xn []
theorem c7n{G:PV->Prop}(c:UInt8)(h:if (decide ((↑(UInt8.toNat c):Int) ≥ 48))=true then G ((.bool (decide ((↑(UInt8.toNat c):Int)<=57))))else(G ((.bool false)))):Zc EW 0 (Za Na G) Pf [] (YD 9 [enc c]):=Zc.tp (.lit (.ask (.lit (.lit (.lit (.nil)))) (.lit (.lit (.nil))))) h (by kernel_rfl)
def R4:IC:=(.seq (.reg [⟨(some 2),(.mv (.c (.bool false))),0,none⟩] none) (.seq (.reg [⟨(some 3),(.mv (.t 0)),0,none⟩,⟨(some 4),(.bin .num .geq (.t 3) (.c (.int .u8 97))),0,none⟩,⟨(some 5),(.mv (.t 4)),0,none⟩,⟨(some 6),(.mv (.t 0)),0,(some (5,true))⟩,⟨(some 7),(.bin .num .leq (.t 6) (.c (.int .u8 122))),0,(some (5,true))⟩,⟨(some 8),(.pick (.t 5) (.t 7) (.c (.bool false))),0,none⟩,⟨(some 2),(.mv (.t 8)),0,none⟩] none) .ret))
def R5:List IRes:=[(.tmp 2)]
abbrev b9v:Nat:=9
def FO:ZC:=Xn []
theorem c7d{G:PV->Prop}(c:UInt8)(h:if (decide ((↑(UInt8.toNat c):Int) ≥ 97))=true then G ((.bool (decide ((↑(UInt8.toNat c):Int)<=122))))else(G ((.bool false)))):Zc FO 0 (Za R5 G) R4 [] (YD 9 [enc c]):=Zc.tp (.lit (.ask (.lit (.lit (.lit (.nil)))) (.lit (.lit (.nil))))) h (by kernel_rfl)
def KM:IC:=(.seq (.reg [⟨(some 2),(.mv (.c (.bool false))),0,none⟩] none) (.seq (.reg [⟨(some 3),(.mv (.t 0)),0,none⟩,⟨(some 4),(.bin .num .geq (.t 3) (.c (.int .i64 (-1000000)))),0,none⟩,⟨(some 5),(.mv (.t 4)),0,none⟩,⟨(some 6),(.mv (.t 0)),0,(some (5,true))⟩,⟨(some 7),(.bin .num .leq (.t 6) (.c (.int .i64 1000000))),0,(some (5,true))⟩,⟨(some 8),(.pick (.t 5) (.t 7) (.c (.bool false))),0,none⟩,⟨(some 2),(.mv (.t 8)),0,none⟩] none) .ret))
def GH:List IRes:=[(.tmp 2)]
abbrev a4t:Nat:=9
def Bn:ZC:=Xn []
theorem b4w{G:PV->Prop}(n:Int)(h:if (decide (n ≥ (-1000000:Int)))=true then G ((.bool (decide (n<=1000000))))else(G ((.bool false)))):Zc Bn 0 (Za GH G) KM [] (YD 9 [enc n]):=Zc.tp (.lit (.ask (.lit (.lit (.lit (.nil)))) (.lit (.lit (.nil))))) h (by kernel_rfl)
def OM:IC:=KM
def EX:List IRes:=[(.tmp 2)]
abbrev c4i:Nat:=9
def a9a:ZC:=Xn []
theorem c9e{G:PV->Prop}(n:Int)(h:if (decide (n ≥ (-1000000:Int)))=true then G ((.bool (decide (n<=1000000))))else(G ((.bool false)))):Zc a9a 0 (Za EX G) OM [] (YD 9 [enc n]):=Zc.tp (.lit (.ask (.lit (.lit (.lit (.nil)))) (.lit (.lit (.nil))))) h (by kernel_rfl)
def XB:IC:=(.seq (.reg [⟨(some 2),(.mv (.c (.bool false))),0,none⟩] none) (.seq (.seq (.reg [⟨(some 5),(.mv (.t 0)),0,none⟩,⟨(some 6),(.len 0 (.t 5)),0,none⟩,⟨(some 7),(.bin .num .eql (.t 6) (.c (.int .i64 0))),0,none⟩,⟨(some 8),(.mv (.t 7)),0,none⟩,⟨(some 9),(.mv (.t 0)),0,(some (8,false))⟩,⟨(some 10),(.len 0 (.t 9)),0,(some (8,false))⟩,⟨(some 11),(.bin .num .gtr (.t 10) (.c (.int .i64 30))),0,(some (8,false))⟩,⟨(some 12),(.pick (.t 8) (.c (.bool true)) (.t 11)),0,none⟩] none) (.cond (.t 12) (.seq (.reg [⟨(some 2),(.mv (.c (.bool false))),0,none⟩] none) .ret) .skip)) (.seq (.seq (.reg [⟨(some 13),(.mv (.t 0)),0,none⟩,⟨(some 14),(.index (.t 13) (.c (.int .i64 0))),0,none⟩,⟨(some 15),(.bin .num .eql (.t 14) (.c (.int .u8 95))),0,none⟩] none) (.cond (.t 15) (.seq (.seq (.reg [⟨(some 16),(.mv (.t 0)),0,none⟩,⟨(some 17),(.len 0 (.t 16)),0,none⟩,⟨(some 18),(.bin .num .lss (.t 17) (.c (.int .i64 2))),0,none⟩,⟨(some 19),(.mv (.t 18)),0,none⟩,⟨(some 20),(.mv (.t 0)),0,(some (19,false))⟩,⟨(some 21),(.len 0 (.t 20)),0,(some (19,false))⟩,⟨(some 22),(.bin .num .gtr (.t 21) (.c (.int .i64 10))),0,(some (19,false))⟩,⟨(some 23),(.pick (.t 19) (.c (.bool true)) (.t 22)),0,none⟩,⟨(some 24),(.mv (.t 23)),0,none⟩,⟨(some 25),(.mv (.t 0)),0,(some (24,false))⟩,⟨(some 26),(.index (.t 25) (.c (.int .i64 1))),0,(some (24,false))⟩,⟨(some 27),(.bin .num .eql (.t 26) (.c (.int .u8 48))),0,(some (24,false))⟩,⟨(some 28),(.pick (.t 24) (.c (.bool true)) (.t 27)),0,none⟩] none) (.cond (.t 28) (.seq (.reg [⟨(some 2),(.mv (.c (.bool false))),0,none⟩] none) .ret) .skip)) (.seq (.seq (.reg [⟨(some 3),(.mv (.c (.int .i64 1))),0,none⟩] none) (.block 0 (.loop [3,0] (.seq (.seq (.reg [⟨(some 29),(.mv (.t 3)),0,none⟩,⟨(some 30),(.mv (.t 0)),0,none⟩,⟨(some 31),(.len 0 (.t 30)),0,none⟩,⟨(some 32),(.bin .num .lss (.t 29) (.t 31)),0,none⟩] none) (.cond (.t 32) .skip (.exit 0))) (.seq (.block 1 (.seq (.reg [⟨(some 35),(.mv (.t 0)),0,none⟩,⟨(some 36),(.mv (.t 3)),0,none⟩,⟨(some 37),(.index (.t 35) (.t 36)),0,none⟩,⟨(some 38),(.call (.c (.fn 155)) [(.t 37)]),0,none⟩,⟨(some 39),(.un .not (.t 38)),2,none⟩] none) (.cond (.t 39) (.seq (.reg [⟨(some 2),(.mv (.c (.bool false))),0,none⟩] none) .ret) .skip))) (.reg [⟨(some 33),(.mv (.t 3)),0,none⟩,⟨(some 34),(.bin .num .add (.t 33) (.c (.int .i64 1))),0,none⟩,⟨(some 3),(.mv (.t 34)),0,none⟩] none)))))) (.seq (.reg [⟨(some 2),(.mv (.c (.bool true))),0,none⟩] none) .ret))) .skip)) (.seq (.seq (.reg [⟨(some 4),(.mv (.c (.int .i64 0))),0,none⟩] none) (.block 2 (.loop [4,0] (.seq (.seq (.reg [⟨(some 40),(.mv (.t 4)),0,none⟩,⟨(some 41),(.mv (.t 0)),0,none⟩,⟨(some 42),(.len 0 (.t 41)),0,none⟩,⟨(some 43),(.bin .num .lss (.t 40) (.t 42)),0,none⟩] none) (.cond (.t 43) .skip (.exit 2))) (.seq (.block 3 (.seq (.reg [⟨(some 46),(.mv (.t 0)),0,none⟩,⟨(some 47),(.mv (.t 4)),0,none⟩,⟨(some 48),(.index (.t 46) (.t 47)),0,none⟩,⟨(some 49),(.call (.c (.fn 156)) [(.t 48)]),0,none⟩,⟨(some 50),(.un .not (.t 49)),2,none⟩,⟨(some 51),(.mv (.t 50)),2,none⟩,⟨(some 52),(.mv (.t 4)),2,(some (51,true))⟩,⟨(some 53),(.bin .num .eql (.t 52) (.c (.int .i64 0))),2,(some (51,true))⟩,⟨(some 54),(.mv (.t 53)),2,(some (51,true))⟩,⟨(some 55),(.mv (.t 0)),2,(some (54,false))⟩,⟨(some 56),(.mv (.t 4)),2,(some (54,false))⟩,⟨(some 57),(.index (.t 55) (.t 56)),2,(some (54,false))⟩,⟨(some 58),(.call (.c (.fn 155)) [(.t 57)]),2,(some (54,false))⟩,⟨(some 59),(.un .not (.t 58)),4,(some (54,false))⟩,⟨(some 60),(.pick (.t 54) (.c (.bool true)) (.t 59)),4,(some (51,true))⟩,⟨(some 61),(.pick (.t 51) (.t 60) (.c (.bool false))),4,none⟩] none) (.cond (.t 61) (.seq (.reg [⟨(some 2),(.mv (.c (.bool false))),0,none⟩] none) .ret) .skip))) (.reg [⟨(some 44),(.mv (.t 4)),0,none⟩,⟨(some 45),(.bin .num .add (.t 44) (.c (.int .i64 1))),0,none⟩,⟨(some 4),(.mv (.t 45)),0,none⟩] none)))))) (.seq (.reg [⟨(some 2),(.mv (.c (.bool true))),0,none⟩] none) .ret)))))
def XF:List IRes:=[(.tmp 2)]
abbrev a9j:Nat:=62
def WC:ZC:=Xn [(155,.pure (preT (fun _:UInt8×Unit=>true)) (Zg (fun x:UInt8×Unit=>We x.1))),(156,.pure (preT (fun _:UInt8×Unit=>true)) (Zg (fun x:UInt8×Unit=>Wq x.1)))]
theorem c0i{G:PV->Prop}(s:List UInt8)(h:if ((↑(List.length s):Int)==0)=true then G ((.bool false))else(if (decide ((↑(List.length s):Int)>30))=true then G ((.bool false))else((decide (0<=0)&&decide (Int.toNat 0<List.length s))=true∧(if ((↑(UInt8.toNat (List.getD s (Int.toNat 0) (0:UInt8))):Int)==95)=true then if (decide ((↑(List.length s):Int)<2))=true then G ((.bool false))else(if (decide ((↑(List.length s):Int)>10))=true then G ((.bool false))else((decide (0<=1)&&decide (Int.toNat 1<List.length s))=true∧(if ((↑(UInt8.toNat (List.getD s (Int.toNat 1) (0:UInt8))):Int)==48)=true then G ((.bool false))else(At WC 0 (Za XF G) XB 0 62 [(0,(.pv (.str s))),(3,(.pv (.int .i64 1)))] []))))else(At WC 0 (Za XF G) XB 1 62 [(0,(.pv (.str s))),(4,(.pv (.int .i64 0)))] []))))):Zc WC 0 (Za XF G) XB [] (YD 62 [.str s]):=Zc.tp (.lit (.ask (.lit (.lit (.lit (.lit (.nil))))) (.lit (.lit (.lit (.lit (.ask (.nil) (.req (.lit (.ask (.lit (.ask (.lit (.lit (.lit (.lit (.lit (.lit (.lit (.lit (.nil))))))))) (.lit (.lit (.lit (.lit (.ask (.lit (.lit (.lit (.lit (.nil))))) (.lit (.req (.lit (.lit (.lit (.ask (.nil) (.nil)))))))))))))) (.nil))))))))))) h (by kernel_rfl)
theorem Lt{G:PV->Prop}(s:List UInt8)(i:Int)(h:if (decide (i<(↑(List.length s):Int)))=true then(decide (0<=i)&&decide (Int.toNat i<List.length s))=true∧((Go.Pl.preT (fun(x:UInt8×Unit)=>true) [(.int IntKind.u8 (↑(UInt8.toNat (List.getD s (Int.toNat i) (0:UInt8))):Int))])=true∧(∃ y0:Bool,AV.pv (Zg (fun(x:UInt8×Unit)=>We x.1) [(.int IntKind.u8 (↑(UInt8.toNat (List.getD s (Int.toNat i) (0:UInt8))):Int))])=AV.pv (enc y0)∧(if (!y0)=true then G ((.bool false))else(At WC 0 (Za XF G) XB 0 62 [(0,(.pv (.str s))),(3,(.pv (.int .i64 (IntKind.wrap IntKind.i64 (i+1)))))] []))))else(G ((.bool true)))):At WC 0 (Za XF G) XB 0 62 [(0,.pv (.str s)),(3,.pv (.int .i64 i))] []:=At.tp (.lit (.ask (.req (.req (.abs (Bool) (fun YY=>AV.pv (enc YY)) (.ask (.nil) (.lit (.nil)))))) (.nil))) h (by kernel_rfl)
theorem Aq{G:PV->Prop}(s:List UInt8)(i:Int)(h:if (decide (i<(↑(List.length s):Int)))=true then(decide (0<=i)&&decide (Int.toNat i<List.length s))=true∧((Go.Pl.preT (fun(x:UInt8×Unit)=>true) [(.int IntKind.u8 (↑(UInt8.toNat (List.getD s (Int.toNat i) (0:UInt8))):Int))])=true∧(∃ y0:Bool,AV.pv (Zg (fun(x:UInt8×Unit)=>Wq x.1) [(.int IntKind.u8 (↑(UInt8.toNat (List.getD s (Int.toNat i) (0:UInt8))):Int))])=AV.pv (enc y0)∧(if (!y0)=true then if (i==0)=true then G ((.bool false))else((decide (0<=i)&&decide (Int.toNat i<List.length s))=true∧((Go.Pl.preT (fun(x:UInt8×Unit)=>true) [(.int IntKind.u8 (↑(UInt8.toNat (List.getD s (Int.toNat i) (0:UInt8))):Int))])=true∧(∃ y1:Bool,AV.pv (Zg (fun(x:UInt8×Unit)=>We x.1) [(.int IntKind.u8 (↑(UInt8.toNat (List.getD s (Int.toNat i) (0:UInt8))):Int))])=AV.pv (enc y1)∧(if (!y1)=true then G ((.bool false))else(At WC 0 (Za XF G) XB 1 62 [(0,(.pv (.str s))),(4,(.pv (.int .i64 (IntKind.wrap IntKind.i64 (i+1)))))] [])))))else(At WC 0 (Za XF G) XB 1 62 [(0,(.pv (.str s))),(4,(.pv (.int .i64 (IntKind.wrap IntKind.i64 (i+1)))))] []))))else(G ((.bool true)))):At WC 0 (Za XF G) XB 1 62 [(0,.pv (.str s)),(4,.pv (.int .i64 i))] []:=At.tp (.lit (.ask (.req (.req (.abs (Bool) (fun YY=>AV.pv (enc YY)) (.ask (.lit (.lit (.lit (.ask (.lit (.lit (.lit (.lit (.lit (.lit (.lit (.lit (.nil))))))))) (.lit (.lit (.req (.lit (.req (.abs (Bool) (fun YY=>AV.pv (enc YY)) (.lit (.lit (.lit (.lit (.ask (.nil) (.lit (.nil))))))))))))))))) (.lit (.lit (.lit (.lit (.lit (.lit (.nil))))))))))) (.nil))) h (by kernel_rfl)
def X7:IC:=(.seq (.reg [⟨(some 1),(.box 2 (.t 0)),0,none⟩,⟨(some 2),(.mv (.c (.bool false))),1,none⟩] none) (.seq (.seq (.reg [⟨(some 5),(.faddr 0 (.t 1)),0,none⟩,⟨(some 6),(.load false [(.int .i64)] (.t 5)),0,none⟩,⟨(some 7),(.call (.c (.fn 83)) [(.t 6)]),0,none⟩,⟨(some 8),(.un .not (.t 7)),2,none⟩,⟨(some 9),(.mv (.t 8)),2,none⟩,⟨(some 10),(.faddr 1 (.t 1)),2,(some (9,false))⟩,⟨(some 11),(.load false [(.sl 2)] (.t 10)),2,(some (9,false))⟩,⟨(some 12),(.len 1 (.t 11)),2,(some (9,false))⟩,⟨(some 13),(.bin .num .gtr (.t 12) (.c (.int .i64 12))),2,(some (9,false))⟩,⟨(some 14),(.pick (.t 9) (.c (.bool true)) (.t 13)),2,none⟩] none) (.cond (.t 14) (.seq (.reg [⟨(some 2),(.mv (.c (.bool false))),0,none⟩] none) .ret) .skip)) (.seq (.seq (.reg [⟨(some 3),(.mv (.c (.int .i64 0))),0,none⟩] none) (.block 0 (.loop [3,1] (.seq (.seq (.reg [⟨(some 15),(.mv (.t 3)),0,none⟩,⟨(some 16),(.faddr 1 (.t 1)),0,none⟩,⟨(some 17),(.load false [(.sl 2)] (.t 16)),0,none⟩,⟨(some 18),(.len 1 (.t 17)),0,none⟩,⟨(some 19),(.bin .num .lss (.t 15) (.t 18)),0,none⟩] none) (.cond (.t 19) .skip (.exit 0))) (.seq (.block 1 (.seq (.reg [⟨(some 22),(.faddr 1 (.t 1)),0,none⟩,⟨(some 23),(.load false [(.sl 2)] (.t 22)),0,none⟩,⟨(some 24),(.mv (.t 3)),0,none⟩,⟨(some 25),(.iaddr 2 (.t 23) (.t 24)),0,none⟩,⟨(some 26),(.load true [.str,(.int .i64)] (.t 25)),0,none⟩,⟨(some 4),(.alloc (.agg [(.str []),(.int .i64 0)])),0,none⟩,⟨none,(.store 2 (.t 4) (.t 26)),1,none⟩] none) (.seq (.reg [⟨(some 27),(.faddr 0 (.t 4)),0,none⟩,⟨(some 28),(.load false [.str] (.t 27)),0,none⟩,⟨(some 29),(.call (.c (.fn 84)) [(.t 28)]),0,none⟩,⟨(some 30),(.un .not (.t 29)),2,none⟩,⟨(some 31),(.mv (.t 30)),2,none⟩,⟨(some 32),(.faddr 1 (.t 4)),2,(some (31,false))⟩,⟨(some 33),(.load false [(.int .i64)] (.t 32)),2,(some (31,false))⟩,⟨(some 34),(.bin .num .eql (.t 33) (.c (.int .i64 0))),2,(some (31,false))⟩,⟨(some 35),(.pick (.t 31) (.c (.bool true)) (.t 34)),2,none⟩,⟨(some 36),(.mv (.t 35)),2,none⟩,⟨(some 37),(.faddr 1 (.t 4)),2,(some (36,false))⟩,⟨(some 38),(.load false [(.int .i64)] (.t 37)),2,(some (36,false))⟩,⟨(some 39),(.call (.c (.fn 83)) [(.t 38)]),2,(some (36,false))⟩,⟨(some 40),(.un .not (.t 39)),4,(some (36,false))⟩,⟨(some 41),(.pick (.t 36) (.c (.bool true)) (.t 40)),4,none⟩,⟨(some 42),(.mv (.t 41)),4,none⟩,⟨(some 43),(.mv (.t 3)),4,(some (42,false))⟩,⟨(some 44),(.bin .num .gtr (.t 43) (.c (.int .i64 0))),4,(some (42,false))⟩,⟨(some 45),(.mv (.t 44)),4,(some (42,false))⟩,⟨(some 46),(.faddr 1 (.t 1)),4,(some (45,true))⟩,⟨(some 47),(.load false [(.sl 2)] (.t 46)),4,(some (45,true))⟩,⟨(some 48),(.mv (.t 3)),4,(some (45,true))⟩,⟨(some 49),(.bin .num .sub (.t 48) (.c (.int .i64 1))),4,(some (45,true))⟩,⟨(some 50),(.iaddr 2 (.t 47) (.t 49)),4,(some (45,true))⟩,⟨(some 51),(.faddr 0 (.t 50)),4,(some (45,true))⟩,⟨(some 52),(.load false [.str] (.t 51)),4,(some (45,true))⟩,⟨(some 53),(.faddr 0 (.t 4)),4,(some (45,true))⟩,⟨(some 54),(.load false [.str] (.t 53)),4,(some (45,true))⟩,⟨(some 55),(.bin .num .geq (.t 52) (.t 54)),4,(some (45,true))⟩,⟨(some 56),(.pick (.t 45) (.t 55) (.c (.bool false))),4,(some (42,false))⟩,⟨(some 57),(.pick (.t 42) (.c (.bool true)) (.t 56)),4,none⟩] (some [[],[0],[1,0],[2,1,0],[3,2,1,0],[4,3,2,1,0],[5,4,3,2,1,0],[6,4,5,3,2,1,0],[4,7,3,2,1,0,6,5],[8,4,7,3,2,1,0,6,5],[9,8,4,7,3,2,1,0,6,5],[10,9,8,4,7,3,2,1,0,6,5],[11,9,10,8,4,7,3,2,1,0,6,5],[12,9,11,10,8,4,7,3,2,1,0,6,5],[9,13,8,4,7,3,2,1,0,6,5,12,11,10],[14,12,9,13,8,4,7,3,2,1,0,6,5,11,10],[15,14,12,9,13,8,4,7,3,2,1,0,6,5,11,10],[16,15,14,12,9,13,8,4,7,3,2,1,0,6,5,11,10],[17,15,16,14,12,9,13,8,4,7,3,2,1,0,6,5,11,10],[18,17,15,16,14,12,9,13,8,4,7,3,2,1,0,6,5,11,10],[19,18,17,15,16,14,12,9,13,8,4,7,3,2,1,0,6,5,11,10],[18,17,15,16,14,12,9,13,8,4,7,3,2,1,0,6,5,11,10],[21,18,17,15,16,14,12,9,13,8,4,7,3,2,1,0,6,5,11,10],[20,22,18,19,17,15,16,14,12,9,13,8,4,7,3,2,1,0,6,5,11,10,21],[23,18,20,22,19,17,15,16,14,12,9,13,8,4,7,3,2,1,0,6,5,11,10,21],[24,18,23,20,22,19,17,15,16,14,12,9,13,8,4,7,3,2,1,0,6,5,11,10,21],[18,17,15,16,14,12,9,13,8,4,7,3,2,1,0,6,5,11,10],[26,18,17,15,16,14,12,9,13,8,4,7,3,2,1,0,6,5,11,10],[25,27,18,24,23,20,22,19,17,15,16,14,12,9,13,8,4,7,3,2,1,0,6,5,11,10,21,26],[18,28,15,17,16,14,12,9,13,8,4,7,3,2,1,0,6,5,11,10,25,27,24,23,20,22,19,21,26],[15,29,14,12,9,13,8,4,7,3,2,1,0,6,5,11,10,18,28,17,16,25,27,24,23,20,22,19,21,26]])) (.cond (.t 57) (.seq (.reg [⟨(some 2),(.mv (.c (.bool false))),0,none⟩] none) .ret) .skip)))) (.reg [⟨(some 20),(.mv (.t 3)),0,none⟩,⟨(some 21),(.bin .num .add (.t 20) (.c (.int .i64 1))),0,none⟩,⟨(some 3),(.mv (.t 21)),0,none⟩] none)))))) (.seq (.reg [⟨(some 2),(.mv (.c (.bool true))),0,none⟩] none) .ret))))
def X8:List IRes:=[(.tmp 2)]
abbrev a3s:Nat:=58
def WY:ZC:=Xn [(83,.pure (preT (fun _:Int×Unit=>true)) (Zg (fun x:Int×Unit=>Z7 x.1))),(84,.pure (preT (fun _:Str×Unit=>true)) (Zg (fun x:Str×Unit=>Zw x.1)))]
theorem b0t{G:PV->Prop}(l:Lin)(h : ∃ y0:Bool,AV.pv (Zg (fun(x:Int×Unit)=>Z7 x.1) [(.int .i64 l.k)])=AV.pv (enc y0)∧(if (!y0)=true then G ((.bool false))else(if (decide ((↑(List.length (List.map enc l.t)):Int)>12))=true then G ((.bool false))else(At WY 0 (Za X8 G) X7 0 58 [(1,(.ptr 0 0)),(3,(.pv (.int .i64 0)))] [(.obj (.box [(.pv (.int .i64 l.k)),(.pv (.sl 2 false (List.map enc l.t)))]))])))):Zc WY 0 (Za X8 G) X7 [] (YD 58 [enc l]):=Zc.tp (.lit (.abs (Bool) (fun YY=>AV.pv (enc YY)) (.ask (.lit (.lit (.lit (.lit (.lit (.nil)))))) (.lit (.lit (.lit (.lit (.lit (.ask (.nil) (.nil)))))))))) h (by kernel_rfl)
theorem Tp{G:PV->Prop}(l:Lin)(i:Int)(h:if (decide (i<(↑(List.length (List.map enc l.t)):Int)))=true then(decide (0<=i)&&decide (Int.toNat i<List.length (List.map enc l.t))&&Enc.sz Coef==2)=true∧(∃ y0:Coef,AV.pv (PV.rptr (PV.cells (List.getD (List.map enc l.t) (Int.toNat i) default)))=AV.pv (PV.rptr (PV.cells ((enc) y0)))∧(∃ y1:Bool,AV.pv (Zg (fun(x:Str×Unit)=>Zw x.1) [(.str (PV.asStr (List.getD (PV.cells (enc y0)) 0 default)))])=AV.pv (enc y1)∧(if (!y1)=true then G ((.bool false))else(if (PV.asInt (List.getD (PV.cells (enc y0)) (0+1) default)==0)=true then G ((.bool false))else(∃ y2:Bool,AV.pv (Zg (fun(x:Int×Unit)=>Z7 x.1) [(.int .i64 (PV.asInt (List.getD (PV.cells (enc y0)) (0+1) default)))])=AV.pv (enc y2)∧(if (!y2)=true then G ((.bool false))else(if (decide (i>0))=true then(decide (0<=IntKind.wrap IntKind.i64 (i - 1))&&decide (Int.toNat (IntKind.wrap IntKind.i64 (i - 1))<List.length (List.map enc l.t))&&Enc.sz Coef==2)=true∧(∃ y3:Coef,AV.pv (PV.rptr (PV.cells (List.getD (List.map enc l.t) (Int.toNat (IntKind.wrap IntKind.i64 (i - 1))) default)))=AV.pv (PV.rptr (PV.cells ((enc) y3)))∧(if (!Op.bytesLess (PV.asStr (List.getD (List.drop 0 (PV.cells (enc y3))) 0 default)) (PV.asStr (List.getD (PV.cells (enc y0)) 0 default)))=true then G ((.bool false))else(At WY 0 (Za X8 G) X7 0 58 [(1,(.ptr 0 0)),(3,(.pv (.int .i64 (IntKind.wrap IntKind.i64 (i+1)))))] [(.obj (.box [(.pv (.int .i64 l.k)),(.pv (.sl 2 false (List.map enc l.t)))]))])))else(At WY 0 (Za X8 G) X7 0 58 [(1,(.ptr 0 0)),(3,(.pv (.int .i64 (IntKind.wrap IntKind.i64 (i+1)))))] [(.obj (.box [(.pv (.int .i64 l.k)),(.pv (.sl 2 false (List.map enc l.t)))]))]))))))))else(G ((.bool true)))):At WY 0 (Za X8 G) X7 0 58 [(1,.ptr 0 0),(3,.pv (.int .i64 i))] [.obj (.box [.pv (.int .i64 l.k),.pv (enc l.t)])]:=At.tp (.lit (.ask (.req (.abs (Coef) (fun YY=>AV.pv (PV.rptr (PV.cells ((enc) YY)))) (.lit (.lit (.abs (Bool) (fun YY=>AV.pv (enc YY)) (.ask (.lit (.lit (.lit (.lit (.lit (.lit (.lit (.lit (.lit (.lit (.lit (.lit (.lit (.lit (.nil))))))))))))))) (.lit (.lit (.lit (.lit (.ask (.lit (.lit (.lit (.lit (.lit (.lit (.lit (.lit (.lit (.lit (.nil))))))))))) (.lit (.lit (.lit (.abs (Bool) (fun YY=>AV.pv (enc YY)) (.lit (.lit (.ask (.lit (.lit (.lit (.lit (.lit (.nil)))))) (.lit (.lit (.lit (.ask (.lit (.lit (.lit (.lit (.lit (.req (.abs (Coef) (fun YY=>AV.pv (PV.rptr (PV.cells ((enc) YY)))) (.lit (.lit (.lit (.lit (.lit (.lit (.lit (.lit (.lit (.lit (.ask (.nil) (.lit (.nil)))))))))))))))))))) (.lit (.lit (.lit (.lit (.lit (.lit (.lit (.lit (.lit (.lit (.lit (.lit (.lit (.lit (.nil))))))))))))))))))))))))))))))))))))) (.nil))) h (by kernel_rfl)
def QK:IC:=(.seq (.reg [⟨(some 2),(.box 2 (.t 0)),0,none⟩,⟨(some 4),(.mv (.c (.bool false))),1,none⟩] none) (.seq (.seq (.reg [⟨(some 5),(.mv (.c (.int .i64 0))),0,none⟩] none) (.block 0 (.loop [5,2,1] (.seq (.seq (.reg [⟨(some 6),(.mv (.t 5)),0,none⟩,⟨(some 7),(.faddr 1 (.t 2)),0,none⟩,⟨(some 8),(.load false [(.sl 2)] (.t 7)),0,none⟩,⟨(some 9),(.len 1 (.t 8)),0,none⟩,⟨(some 10),(.bin .num .lss (.t 6) (.t 9)),0,none⟩] none) (.cond (.t 10) .skip (.exit 0))) (.seq (.block 1 (.seq (.reg [⟨(some 13),(.faddr 1 (.t 2)),0,none⟩,⟨(some 14),(.load false [(.sl 2)] (.t 13)),0,none⟩,⟨(some 15),(.mv (.t 5)),0,none⟩,⟨(some 16),(.iaddr 2 (.t 14) (.t 15)),0,none⟩,⟨(some 17),(.faddr 0 (.t 16)),0,none⟩,⟨(some 18),(.load false [.str] (.t 17)),0,none⟩,⟨(some 19),(.len 0 (.t 18)),0,none⟩,⟨(some 20),(.bin .num .gtr (.t 19) (.c (.int .i64 40))),0,none⟩] none) (.cond (.t 20) (.seq (.reg [⟨(some 4),(.mv (.c (.bool false))),0,none⟩] none) .ret) .skip))) (.reg [⟨(some 11),(.mv (.t 5)),0,none⟩,⟨(some 12),(.bin .num .add (.t 11) (.c (.int .i64 1))),0,none⟩,⟨(some 5),(.mv (.t 12)),0,none⟩] none)))))) (.seq (.reg [⟨(some 21),(.faddr 1 (.t 2)),0,none⟩,⟨(some 22),(.load false [(.sl 2)] (.t 21)),0,none⟩,⟨(some 23),(.len 1 (.t 22)),0,none⟩,⟨(some 24),(.mv (.t 1)),0,none⟩,⟨(some 25),(.bin .num .leq (.t 23) (.t 24)),0,none⟩,⟨(some 4),(.mv (.t 25)),0,none⟩] none) .ret)))
def QC:List IRes:=[(.tmp 4)]
abbrev c1z:Nat:=26
def Jt:ZC:=Xn []
theorem c6a{G:PV->Prop}(l:Lin)(n:Int)(h:At Jt 0 (Za QC G) QK 0 26 [(1,(.pv (.int .i64 n))),(2,(.ptr 0 0)),(5,(.pv (.int .i64 0)))] [(.obj (.box [(.pv (.int .i64 l.k)),(.pv (.sl 2 false (List.map enc l.t)))]))]):Zc Jt 0 (Za QC G) QK [] (YD 26 [enc l,enc n]):=Zc.tp (.nil) h (by kernel_rfl)
theorem a0q{G:PV->Prop}(l:Lin)(n:Int)(i:Int)(h:if (decide (i<(↑(List.length (List.map enc l.t)):Int)))=true then(decide (0<=i)&&decide (Int.toNat i<List.length (List.map enc l.t))&&Enc.sz Coef==2)=true∧(∃ y0:Coef,AV.pv (PV.rptr (PV.cells (List.getD (List.map enc l.t) (Int.toNat i) default)))=AV.pv (PV.rptr (PV.cells ((enc) y0)))∧(if (decide ((↑(List.length (PV.asStr (List.getD (List.drop 0 (PV.cells (enc y0))) 0 default))):Int)>40))=true then G ((.bool false))else(At Jt 0 (Za QC G) QK 0 26 [(1,(.pv (.int .i64 n))),(2,(.ptr 0 0)),(5,(.pv (.int .i64 (IntKind.wrap IntKind.i64 (i+1)))))] [(.obj (.box [(.pv (.int .i64 l.k)),(.pv (.sl 2 false (List.map enc l.t)))]))])))else(G ((.bool (decide ((↑(List.length (List.map enc l.t)):Int)<=n)))))):At Jt 0 (Za QC G) QK 0 26 [(1,.pv (.int .i64 n)),(2,.ptr 0 0),(5,.pv (.int .i64 i))] [.obj (.box [.pv (.int .i64 l.k),.pv (enc l.t)])]:=At.tp (.lit (.ask (.req (.abs (Coef) (fun YY=>AV.pv (PV.rptr (PV.cells ((enc) YY)))) (.lit (.lit (.ask (.nil) (.lit (.nil))))))) (.lit (.nil)))) h (by kernel_rfl)
def Uv:IC:=(.seq (.reg [⟨(some 4),(.mv (.c (.bool false))),0,none⟩] none) (.seq (.seq (.reg [⟨(some 5),(.mv (.c (.int .i64 0))),0,none⟩] none) (.block 0 (.loop [5,0,1] (.seq (.seq (.reg [⟨(some 6),(.mv (.t 5)),0,none⟩,⟨(some 7),(.mv (.t 0)),0,none⟩,⟨(some 8),(.len 1 (.t 7)),0,none⟩,⟨(some 9),(.bin .num .lss (.t 6) (.t 8)),0,none⟩] none) (.cond (.t 9) .skip (.exit 0))) (.seq (.block 1 (.seq (.reg [⟨(some 12),(.mv (.t 0)),0,none⟩,⟨(some 13),(.mv (.t 5)),0,none⟩,⟨(some 14),(.iaddr 3 (.t 12) (.t 13)),0,none⟩,⟨(some 15),(.faddr 1 (.t 14)),0,none⟩,⟨(some 16),(.load true [(.int .i64),(.sl 2)] (.t 15)),0,none⟩,⟨(some 17),(.call (.c (.fn 16)) [(.t 16),(.c (.int .i64 8))]),0,none⟩,⟨(some 18),(.un .not (.t 17)),2,none⟩] none) (.cond (.t 18) (.seq (.reg [⟨(some 4),(.mv (.c (.bool false))),0,none⟩] none) .ret) .skip))) (.reg [⟨(some 10),(.mv (.t 5)),0,none⟩,⟨(some 11),(.bin .num .add (.t 10) (.c (.int .i64 1))),0,none⟩,⟨(some 5),(.mv (.t 11)),0,none⟩] none)))))) (.seq (.reg [⟨(some 19),(.mv (.t 0)),0,none⟩,⟨(some 20),(.len 1 (.t 19)),0,none⟩,⟨(some 21),(.mv (.t 1)),0,none⟩,⟨(some 22),(.bin .num .leq (.t 20) (.t 21)),0,none⟩,⟨(some 4),(.mv (.t 22)),0,none⟩] none) .ret)))
def Ut:List IRes:=[(.tmp 4)]
abbrev b4g:Nat:=23
def QP:ZC:=Xn [(16,.pure (preT (fun x:Lin×Int×Unit=>Y4 x.1)) (Zg (fun x:Lin×Int×Unit=>QV x.1 x.2.1)))]
theorem c1f{G:PV->Prop}(l:List Fact)(n:Int)(h:At QP 0 (Za Ut G) Uv 0 23 [(0,(.pv (.sl 3 false (List.map enc l)))),(1,(.pv (.int .i64 n))),(5,(.pv (.int .i64 0)))] []):Zc QP 0 (Za Ut G) Uv [] (YD 23 [enc l,enc n]):=Zc.tp (.nil) h (by kernel_rfl)
theorem LW{G:PV->Prop}(l:List Fact)(n:Int)(i:Int)(h:if (decide (i<(↑(List.length (List.map enc l)):Int)))=true then(decide (0<=i)&&decide (Int.toNat i<List.length (List.map enc l))&&Enc.sz Fact==3)=true∧(∃ y0:Fact,AV.pv (PV.rptr (PV.cells (List.getD (List.map enc l) (Int.toNat i) default)))=AV.pv (PV.rptr (PV.cells ((enc) y0)))∧((Go.Pl.preT (fun(x:Lin×Int×Unit)=>Y4 x.1) [(.agg [(.int .i64 (PV.asInt (List.getD (List.drop 1 (PV.cells (enc y0))) 0 default))),(.sl 2 false (PV.asXs (List.getD (List.drop 1 (PV.cells (enc y0))) (0+1) default)))]),(.int .i64 8)])=true∧(∃ y1:Bool,AV.pv (Zg (fun(x:Lin×Int×Unit)=>QV x.1 x.2.1) [(.agg [(.int .i64 (PV.asInt (List.getD (List.drop 1 (PV.cells (enc y0))) 0 default))),(.sl 2 false (PV.asXs (List.getD (List.drop 1 (PV.cells (enc y0))) (0+1) default)))]),(.int .i64 8)])=AV.pv (enc y1)∧(if (!y1)=true then G ((.bool false))else(At QP 0 (Za Ut G) Uv 0 23 [(0,(.pv (.sl 3 false (List.map enc l)))),(1,(.pv (.int .i64 n))),(5,(.pv (.int .i64 (IntKind.wrap IntKind.i64 (i+1)))))] [])))))else(G ((.bool (decide ((↑(List.length (List.map enc l)):Int)<=n)))))):At QP 0 (Za Ut G) Uv 0 23 [(0,.pv (enc l)),(1,.pv (.int .i64 n)),(5,.pv (.int .i64 i))] []:=At.tp (.lit (.ask (.req (.abs (Fact) (fun YY=>AV.pv (PV.rptr (PV.cells ((enc) YY)))) (.lit (.req (.abs (Bool) (fun YY=>AV.pv (enc YY)) (.ask (.nil) (.lit (.nil)))))))) (.lit (.nil)))) h (by kernel_rfl)
-- IMPOSSIBLE
def Ez:IC:=(.seq (.reg [⟨(some 2),(.alloc (.agg [(.int .i64 0),(.sl 0 true [])])),0,none⟩] none) (.seq (.reg [⟨(some 3),(.mv (.t 0)),0,none⟩,⟨(some 4),(.build [(.int .i64 0),(.sl 0 true [])] [(0,(1,(.t 3)))]),0,none⟩,⟨none,(.store 2 (.t 2) (.t 4)),0,none⟩] none) .ret))
def O0:List IRes:=[(.cell true 2 2)]
abbrev c3o:Nat:=5
def a9o:ZC:=Xn []
theorem c7z{G:PV->Prop}(n:Int)(h:G ((.agg [(.int .i64 n),(.sl 0 true [])]))):Zc a9o 0 (Za O0 G) Ez [] (YD 5 [enc n]):=Zc.tp (.nil) h (by kernel_rfl)
end Go.Pl

namespace Go.Pl
open Go.RowKit
open Enc (enc dec is)
open EncL (encL decL isL)
theorem c6u(c:UInt8):We c=(decide ((c.toNat:Int) ≥ 48)&&decide ((c.toNat:Int)<=57)):=by
 simp only[We,UInt8.le_iff_toNat_le,ge_iff_le]
 have e1:(48:UInt8).toNat=48:=rfl
 have e2:(57:UInt8).toNat=57:=rfl
 rw[e1,e2]
 congr 1 <;> exact decide_eq_decide.2 (by omega)
theorem c6h(c:UInt8):Wq c=(decide ((c.toNat:Int) ≥ 97)&&decide ((c.toNat:Int)<=122)):=by
 simp only[Wq,UInt8.le_iff_toNat_le,ge_iff_le]
 have e1:(97:UInt8).toNat=97:=rfl
 have e2:(122:UInt8).toNat=122:=rfl
 rw[e1,e2]
 congr 1 <;> exact decide_eq_decide.2 (by omega)
theorem P6{a b:Bool}{G:PV->Prop}(h:G (.bool (a&&b))):if a=true then G (.bool b)else G (.bool false):=by cases a <;> simpa using h
theorem b5y: ∀ a:UInt8×Unit,true=true->Zc EW 0 (Za Na (Zl (We a.1))) Pf [] (YD c0q (encL a)):=by
 rintro⟨c,⟨⟩⟩ -
 exact c7n c (P6 (ZF (c6u c).symm))
theorem b6n: ∀ a:UInt8×Unit,true=true->Zc FO 0 (Za R5 (Zl (Wq a.1))) R4 [] (YD b9v (encL a)):=by
 rintro⟨c,⟨⟩⟩ -
 exact c7d c (P6 (ZF (c6h c).symm))
theorem EP: ∀ a:Int×Unit,true=true->Zc Bn 0 (Za GH (Zl (Z7 a.1))) KM [] (YD a4t (encL a)):=by
 rintro⟨n,⟨⟩⟩ -
 exact b4w n (P6 (ZF rfl))
theorem b9f: ∀ a:Int×Unit,true=true->Zc a9a 0 (Za EX (Zl (Z7 a.1))) OM [] (YD c4i (encL a)):=by
 rintro⟨n,⟨⟩⟩ -
 exact c9e n (P6 (ZF rfl))
theorem a8j(s:List UInt8)(hs:s.length<=30): ∀ (j i:Nat),j+i=s.length->At WC 0 (Za XF (Zl ((s.drop i).all We))) XB 0 62 [(0,.pv (.str s)),(3,.pv (.int .i64 i))] []:=by
 intro j
 induction j with
 | zero=>
  intro i hi
  refine Lt s i ?_
  rw[if_neg (Yc (by omega))]
  exact ZF (by rw[List.drop_of_length_le (by omega)];rfl)
 | succ j ih=>
  intro i hi
  have hlt:i<s.length:=by omega
  refine Lt s i ?_
  rw[if_pos (Z4 hlt)]
  have eg:List.getD s (Int.toNat (i:Int)) 0=s[i]:=by simp[List.getD,hlt]
  rw[eg,next (by omega)]
  refine⟨by simp[hlt],Zh (s[i],()) rfl rfl,Ze (s[i],()) rfl ?_⟩
  rw[List.drop_eq_getElem_cons hlt,List.all_cons]
  show if (!We s[i])=true then _ else _
  cases hd:We s[i]
  ·exact ZF rfl
  ·rw[if_neg (by simp)]
   simpa using ih (i+1) (by omega)
theorem b4q(s:List UInt8)(hs:s.length<=30): ∀ (j i:Nat),j+i=s.length->0<i->At WC 0 (Za XF (Zl ((s.drop i).all fun c=>Wq c||We c))) XB 1 62 [(0,.pv (.str s)),(4,.pv (.int .i64 i))] []:=by
 intro j
 induction j with
 | zero=>
  intro i hi _
  refine Aq s i ?_
  rw[if_neg (Yc (by omega))]
  exact ZF (by rw[List.drop_of_length_le (by omega)];rfl)
 | succ j ih=>
  intro i hi h0
  have hlt:i<s.length:=by omega
  refine Aq s i ?_
  rw[if_pos (Z4 hlt)]
  have eg:List.getD s (Int.toNat (i:Int)) 0=s[i]:=by simp[List.getD,hlt]
  rw[eg,next (by omega)]
  refine⟨by simp[hlt],Zh (s[i],()) rfl rfl,Ze (s[i],()) rfl ?_⟩
  rw[List.drop_eq_getElem_cons hlt,List.all_cons]
  show if (!Wq s[i])=true then _ else _
  cases hd:Wq s[i]
  ·rw[c2o,if_neg (by simp;omega)]
   refine⟨by simp[hlt],Zh (s[i],()) rfl rfl,Ze (s[i],()) rfl ?_⟩
   show if (!We s[i])=true then _ else _
   cases hd:We s[i]
   ·exact ZF rfl
   ·rw[if_neg (by simp)]
    simpa using ih (i+1) (by omega) (by omega)
  ·rw[if_neg (by simp)]
   simpa using ih (i+1) (by omega) (by omega)
theorem a5s: ∀ a:Str×Unit,true=true->Zc WC 0 (Za XF (Zl (Zw a.1))) XB [] (YD a9j (encL a)):=by
 rintro⟨⟨s⟩,⟨⟩⟩ -
 refine c0i s ?_
 cases s with
 | nil=>exact ZF rfl
 | cons c r=>
  rw[if_neg (by simp;omega)]
  by_cases h30:((c::r).length:Int)>30
  ·rw[if_pos (by simpa using h30)]
   refine ZF ?_
   have : ¬ r.length<=29:=by simp at h30;omega
   have h9 : ¬ r.length<=9:=by omega
   simp[Zw,this,h9]
  ·rw[if_neg (by simpa using h30)]
   have hl:(c::r).length<=30:=by omega
   refine⟨by simp,?_⟩
   show if ((c.toNat:Int)==95)=true then _ else _
   by_cases hc:c=95
   ·subst hc
    rw[if_pos (by rfl)]
    simp only[Zw,if_true]
    cases r with
    | nil=>exact ZF rfl
    | cons d r=>
     rw[if_neg (by simp;omega)]
     by_cases h10:((95::d::r:List UInt8).length:Int)>10
     ·rw[if_pos (by simpa using h10)]
      refine ZF ?_
      have:decide ((d::r).length<=9)=false:=decide_eq_false (by simp at h10 ⊢;omega)
      rw[this,Bool.and_false]
     ·rw[if_neg (by simpa using h10)]
      refine⟨by simp,?_⟩
      show if ((d.toNat:Int)==48)=true then _ else _
      by_cases hd:d=48
      ·subst hd
       rw[if_pos (by rfl)]
       exact ZF (by simp)
      ·rw[if_neg (by exact c2p 48 hd (by omega))]
       have h:=a8j (95::d::r) hl (d::r).length 1 (by simp)
       have e:(d::r).length<=9:=by simp at h10 ⊢;omega
       have e2:((d::r).all We&& !(d::r).isEmpty&&decide ((d::r).head? ≠ some 48)&&decide ((d::r).length<=9))=(d::r).all We:=by rw[decide_eq_true e,show decide ((d::r).head? ≠ some (48:UInt8))=true by simpa using hd];simp
       rw[e2]
       exact h
   ·rw[if_neg (by exact c2p 95 hc (by omega))]
    refine Aq (c::r) 0 ?_
    rw[if_pos (by simp)]
    refine⟨by simp,Zh (c,()) rfl rfl,Ze (c,()) rfl ?_⟩
    show if (!Wq c)=true then _ else _
    have en:Zw ⟨c::r⟩=(Wq c&&r.all (fun c=>Wq c||We c)):=by
     have:r.length<=29:=by simp at hl;omega
     simp[Zw,hc,this]
    rw[en]
    cases hlow:Wq c
    ·rw[c2o,if_pos (by rfl)]
     exact ZF rfl
    ·rw[if_neg (by simp)]
     exact b4q (c::r) hl r.length 1 (by simp) (by omega)
end Go.Pl

namespace Go.Pl
open Go.RowKit
open Enc (enc dec is)
open EncL (encL decL isL)
def AU(prev:Option (List UInt8)):List Coef->Bool
 | []=>true
 | t::r=>Zw t.v&&decide (t.c≠0)&&Z7 t.c&&(match prev with|none=>true|some p=>decide (p<t.v.s))&&AU (some t.v.s) r
theorem Ha(p:Option (List UInt8))(t:Coef)(r:List Coef):AU p (t::r)=(Zw t.v&&decide (t.c≠0)&&Z7 t.c&&(match p with|none=>true|some p=>decide (p<t.v.s))&&AU (some t.v.s) r):=by cases p <;> rfl
theorem FD: ∀ (l:List Coef) (p:List UInt8),AU (some p) l=(l.all (fun t=>Zw t.v&&decide (t.c≠0)&&Z7 t.c)&&(match l with|[]=>true|t::_=>decide (p<t.v.s))&&Q5 l)
 | [],p=>by simp[AU,Q5]
 | t::r,p=>by
  rw[Ha,FD r]
  cases r with
  | nil=>simp[Q5]
  | cons u r=>
   simp only[List.all_cons,Q5]
   ac_rfl
theorem b1x(l:List Coef):AU none l=(l.all (fun t=>Zw t.v&&decide (t.c≠0)&&Z7 t.c)&&Q5 l):=by
 cases l with
 | nil=>simp[AU,Q5]
 | cons t r=>
  rw[Ha,FD r]
  cases r with
  | nil=>simp[Q5]
  | cons u r=>
   simp only[List.all_cons,Q5,Bool.and_true]
   ac_rfl
theorem NI(l:Lin):Zd l=(Z7 l.k&&decide (l.t.length<=12)&&AU none l.t):=by
 rw[b1x,Zd]
 ac_rfl
def pvS(ts:List Coef):Nat->Option (List UInt8)
 | 0=>none
 | i+1=>(ts[i]?).map (·.v.s)
theorem a0g{k:Nat}(h:k<9223372036854775807):IntKind.i64.wrap (((k+1:Nat):Int) - 1)=(k:Int):=by rw[Wo (by omega) (by omega)];omega
theorem M5(l:Lin)(hl:l.t.length<=9223372036854775807): ∀ (j i:Nat),j+i=l.t.length->At WY 0 (Za X8 (Zl (AU (pvS l.t i) (l.t.drop i)))) X7 0 58 [(1,.ptr 0 0),(3,.pv (.int .i64 i))] [.obj (.box [.pv (.int .i64 l.k),.pv (enc l.t)])]:=by
 intro j
 induction j with
 | zero=>
  intro i hi
  refine Tp l i ?_
  rw[if_neg (Gh (by omega))]
  exact ZF (by rw[List.drop_of_length_le (by omega)];rfl)
 | succ j ih=>
  intro i hi
  have hlt:i<l.t.length:=by omega
  have h:=ih (i+1) (by omega)
  refine Tp l i ?_
  simp only[co1,co2,co3,co4]
  refine Ya (H6 hlt) ⟨ZG hlt rfl,Z0 hlt (Ze (l.t[i].v,()) rfl (Vj (fun hn=> ?_) fun hn=>Gj (fun hc=> ?_) fun hc=>Ze (l.t[i].c,()) rfl (Vj (fun hk=> ?_) fun hk=> ?_)))⟩
  all_goals rw[List.drop_eq_getElem_cons hlt,Ha]
  ·have hn:Zw l.t[i].v=false:=hn
   exact ZF (by simp[hn])
  ·exact ZF (by simp[hc])
  ·have hk:Z7 l.t[i].c=false:=hk
   exact ZF (by simp[hk])
  have hn:Zw l.t[i].v=true:=hn
  have hk:Z7 l.t[i].c=true:=hk
  rw[next (by omega),hn,hk,decide_eq_true hc]
  have ep:pvS l.t (i+1)=some l.t[i].v.s:=by simp[pvS,hlt]
  rw[ep]at h
  cases i with
  | zero=>exact Z8 (by simp) h
  | succ i=>
   refine Ya (by simp) ?_
   rw[a0g (by omega)]
   refine⟨ZG (by omega) rfl,Z0 (by omega) ?_⟩
   have e2:pvS l.t (i+1)=some l.t[i].v.s:=by simp[pvS,show i<l.t.length by omega]
   rw[e2]
   refine Vj (fun hb=> ?_) fun hb=> ?_
   all_goals
    have hb':=(YT l.t[i].v.s l.t[i+1].v.s).symm.trans hb
    simp only[hb',Bool.and_true,Bool.true_and,Bool.and_false,Bool.false_and]
   ·exact ZF rfl
   ·exact h
theorem Ec: ∀ a:Lin×Unit,Y4 a.1=true->Zc WY 0 (Za X8 (Zl (Zd a.1))) X7 [] (YD a3s (encL a)):=by
 rintro⟨l,⟨⟩⟩ hl
 have hl:l.t.length<=9223372036854775807:=by simpa [Y4]using hl
 refine b0t l (Ze (l.k,()) rfl ?_)
 show if (!Z7 l.k)=true then _ else _
 show if (!Z7 l.k)=true then Zl (Zd l) _ else if _ then Zl (Zd l) _ else At WY 0 (Za X8 (Zl (Zd l))) X7 0 58 _ _
 rw[NI]
 cases hk:Z7 l.k
 ·exact ZF rfl
 rw[c9l]
 by_cases h12:l.t.length<=12
 ·rw[if_neg (by simp;omega)]
  have h:=M5 l hl l.t.length 0 (by omega)
  simp only[h12,decide_true,Bool.true_and]
  exact h
 ·rw[if_pos (by simp;omega)]
  exact ZF (by simp[h12])
theorem a7p(l:Lin)(n:Int)(hl:l.t.length<=9223372036854775807): ∀ (j i:Nat),j+i=l.t.length->At Jt 0 (Za QC (Zl ((l.t.drop i).all (fun t=>decide (t.v.s.length<=40))&&decide ((l.t.length:Int)<=n)))) QK 0 26 [(1,.pv (.int .i64 n)),(2,.ptr 0 0),(5,.pv (.int .i64 i))] [.obj (.box [.pv (.int .i64 l.k),.pv (enc l.t)])]:=by
 intro j
 induction j with
 | zero=>
  intro i hi
  exact a0q l n i (Z8 (Gh (by omega)) (ZF (by rw[List.drop_of_length_le (by omega),List.length_map];rfl)))
 | succ j ih=>
  intro i hi
  have hlt:i<l.t.length:=by omega
  have h:=ih (i+1) (by omega)
  refine a0q l n i (Ya (H6 hlt) ⟨ZG hlt rfl,Z0 hlt ?_⟩)
  rw[List.drop_eq_getElem_cons hlt,List.all_cons,next (by omega)]
  refine WI (fun h40=> ?_) fun h40=> ?_
  ·have h40:(l.t[i].v.s.length:Int)>40:=h40
   exact ZF (by rw[decide_eq_false (show ¬ l.t[i].v.s.length<=40 by omega)];rfl)
  ·have h40 : ¬ (l.t[i].v.s.length:Int)>40:=h40
   rw[decide_eq_true (show l.t[i].v.s.length<=40 by omega),Bool.true_and]
   exact h
theorem b2x: ∀ a:Lin×Int×Unit,Y4 a.1=true->Zc Jt 0 (Za QC (Zl (QV a.1 a.2.1))) QK [] (YD c1z (encL a)):=by
 rintro⟨l,n,⟨⟩⟩ hl
 exact c6a l n (a7p l n (by simpa [Y4]using hl) l.t.length 0 (by omega))
theorem O5(l:List Fact)(n:Int)(hl:l.length<=9223372036854775807)(hk:l.all (fun f=>Y4 f.l)=true): ∀ (j i:Nat),j+i=l.length->At QP 0 (Za Ut (Zl ((l.drop i).all (fun f=>QV f.l 8)&&decide ((l.length:Int)<=n)))) Uv 0 23 [(0,.pv (enc l)),(1,.pv (.int .i64 n)),(5,.pv (.int .i64 i))] []:=by
 intro j
 induction j with
 | zero=>
  intro i hi
  exact LW l n i (Z8 (Gh (by omega)) (ZF (by rw[List.drop_of_length_le (by omega),List.length_map];rfl)))
 | succ j ih=>
  intro i hi
  have hlt:i<l.length:=by omega
  have h:=ih (i+1) (by omega)
  have ho:Y4 l[i].l=true:=by rw[List.all_eq_true]at hk;exact hk _ (List.getElem_mem hlt)
  refine LW l n i (Ya (H6 hlt) ⟨ZG hlt rfl,Z0 hlt ⟨Zh (l[i].l,8,()) rfl ho,Ze (l[i].l,8,()) rfl ?_⟩⟩)
  rw[List.drop_eq_getElem_cons hlt,List.all_cons,next (by omega)]
  refine Vj (fun hf=> ?_) fun hf=> ?_
  ·have hf:QV l[i].l 8=false:=hf
   exact ZF (by rw[hf];rfl)
  ·have hf:QV l[i].l 8=true:=hf
   rw[hf,Bool.true_and]
   exact h
def D9(l:List Fact)(n:Int):Bool:=l.all (fun f=>QV f.l 8)&&decide ((l.length:Int)<=n)
def YQ(l:List Fact):Bool:=decide (l.length<=9223372036854775807)&&l.all fun f=>Y4 f.l
theorem a3e: ∀ a:List Fact×Int×Unit,YQ a.1=true->Zc QP 0 (Za Ut (Zl (D9 a.1 a.2.1))) Uv [] (YD b4g (encL a)):=by
 rintro⟨l,n,⟨⟩⟩ hl
 simp only[YQ,Bool.and_eq_true,decide_eq_true_eq]at hl
 exact c1f l n (O5 l n hl.1 hl.2 l.length 0 (by omega))
end Go.Pl

namespace Go.Pl
open Go.RowKit
open Enc (enc dec is)
open EncL (encL decL isL)
end Go.Pl

namespace Go.Pl
open Go.RowKit
open Enc (enc dec is)
open EncL (encL decL isL)
end Go.Pl

namespace Go.Pl
open Go.RowKit
open Enc (enc dec is)
open EncL (encL decL isL)
end Go.Pl

namespace Go.Pl
open Go.RowKit
open Enc (enc dec is)
open EncL (encL decL isL)
theorem a9n(ts:List Coef)(j:Nat)(x y:Coef):List.set (List.map enc ts) j (PV.withCells (enc y) (splice (PV.cells (enc y)) 0 (PV.cells (PV.agg (Qt (PV.cells (enc x)) 0 [Sh.str,Sh.int .i64])))))=List.map enc (ts.set j x):=by
 rw[List.map_set]
 rfl
theorem b0e{α:Type}(f:α->PV){l:List α}{k:Nat}(h:k<l.length):(l.map f).getD (0+(k:Int).toNat) default=f l[k]:=by rw[Nat.zero_add];exact Hq f h
theorem tri{x y:List UInt8}(h1 : ¬ x<y)(h2:x≠y):y<x:=Decidable.byContradiction fun h=>h2 (List.le_antisymm (List.not_lt.1 h) (List.not_lt.1 h1))
theorem a1j(s:Str)(c:Int)(t:Coef)(r:List Coef):Xt s c true (t::r)=(if t.v=s then⟨t.v,YV (t.c+c)⟩else t)::Xt s c true r:=by
 rw[Xt];simp only[Bool.not_true,Bool.false_and,Bool.false_eq_true,if_false,Bool.true_or,List.nil_append];split <;> rfl
theorem Jj(s:Str)(c:Int)(t:Coef)(r:List Coef):Xt s c false (t::r)=if s.s<t.v.s then⟨s,c⟩::t::Xt s c true r else if t.v=s then⟨t.v,YV (t.c+c)⟩::Xt s c true r else t::Xt s c false r:=by
 rw[Xt]
 by_cases h:s.s<t.v.s
 ·have : ¬ t.v=s:=fun e=>by rw[e]at h;exact List.lt_irrefl _ h
  simp[h,this]
 ·simp[h]
theorem Ty(s:Str)(c:Int): ∀ (l:List Coef),(Xt s c true l).length=l.length
 | []=>by simp[Xt]
 | t::l=>by rw[a1j];simp[Ty s c l]
theorem GA(s:Str)(c:Int): ∀ (l:List Coef),(Xt s c false l).length<=l.length+1
 | []=>by simp[Xt]
 | t::l=>by
  have h1:=Ty s c l
  have h2:=GA s c l
  rw[Jj]
  split
  ·simp[h1]
  ·split <;> simp[h1] <;> omega
theorem L9(l:Lin)(s:Str)(c:Int):(Xy l s c).t.length<=l.t.length+1:=Nat.le_trans (List.length_filter_le _ _) (GA s c l.t)
theorem KO{a b:Str}:a=b ↔ a.s=b.s:=⟨fun h=>by rw[h],fun h=>by cases a;cases b;cases h;rfl⟩
theorem b8z: ∀ a:Int×Unit,true=true->Zc a9o 0 (Za O0 (Zl (⟨a.1,[]⟩:Lin))) Ez [] (YD c3o (encL a)):=by
 rintro⟨n,⟨⟩⟩ -
 exact c7z n ⟨by simp,by simp⟩
end Go.Pl

namespace Go.Pl
open Go.RowKit
open Enc (enc dec is)
open EncL (encL decL isL)
set_option maxRecDepth 100000
end Go.Pl

namespace Go.Pl
open Go.RowKit
open Enc (enc dec is)
open EncL (encL decL isL)
end Go.Pl

namespace Go.Pl
open Go.RowKit
open Enc (enc dec is)
open EncL (encL decL isL)
set_option maxRecDepth 100000
def Xp:IC:=(.seq (.reg [⟨(some 2),(.mv (.c (.bool false))),0,none⟩] none) (.seq (.seq (.reg [⟨(some 7),(.mv (.t 0)),0,none⟩,⟨(some 8),(.call (.c (.fn 152)) [(.t 7),(.c (.str [95]))]),0,none⟩] none) (.cond (.t 8) (.seq (.reg [⟨(some 10),(.mv (.t 0)),0,none⟩,⟨(some 11),(.strslc (.t 10) (some (.c (.int .i64 1))) none),0,none⟩,⟨(some 12),(.call (.c (.fn 182)) [(.t 11)]),0,none⟩,⟨(some 9),(.mv (.t 12)),2,none⟩,⟨(some 13),(.extract (.t 9) 0),2,none⟩,⟨(some 14),(.extract (.t 9) 1),2,none⟩,⟨(some 3),(.mv (.t 13)),2,none⟩,⟨(some 4),(.mv (.t 14)),2,none⟩] none) (.seq (.reg [⟨(some 15),(.mv (.t 4)),0,none⟩,⟨(some 16),(.bin .ifc .eql (.t 15) (.c .nili)),0,none⟩,⟨(some 17),(.mv (.t 16)),0,none⟩,⟨(some 18),(.mv (.t 3)),0,(some (17,true))⟩,⟨(some 19),(.bin .num .gtr (.t 18) (.c (.int .i64 0))),0,(some (17,true))⟩,⟨(some 20),(.pick (.t 17) (.t 19) (.c (.bool false))),0,none⟩,⟨(some 21),(.mv (.t 20)),0,none⟩,⟨(some 22),(.mv (.t 0)),0,(some (21,true))⟩,⟨(some 23),(.len 0 (.t 22)),0,(some (21,true))⟩,⟨(some 24),(.bin .num .leq (.t 23) (.c (.int .i64 10))),0,(some (21,true))⟩,⟨(some 25),(.pick (.t 21) (.t 24) (.c (.bool false))),0,none⟩,⟨(some 26),(.mv (.t 25)),0,none⟩,⟨(some 27),(.mv (.t 3)),0,(some (26,true))⟩,⟨(some 28),(.call (.c (.fn 76)) [(.t 27)]),0,(some (26,true))⟩,⟨(some 29),(.mv (.t 0)),2,(some (26,true))⟩,⟨(some 30),(.strslc (.t 29) (some (.c (.int .i64 1))) none),2,(some (26,true))⟩,⟨(some 31),(.bin .num .eql (.t 28) (.t 30)),2,(some (26,true))⟩,⟨(some 32),(.pick (.t 26) (.t 31) (.c (.bool false))),2,none⟩,⟨(some 2),(.mv (.t 32)),2,none⟩] (some [[],[0],[1,0],[2,1,0],[3,2,1,0],[2,4,1,0,3],[5,2,4,1,0,3],[6,5,2,4,1,0,3],[7,6,5,2,4,1,0,3],[8,6,7,5,2,4,1,0,3],[6,9,5,2,4,1,0,3,8,7],[10,6,9,5,2,4,1,0,3,8,7],[11,10,6,9,5,2,4,1,0,3,8,7],[12,11,10,6,9,5,2,4,1,0,3,8,7],[11,10,6,9,5,2,4,1,0,3,8,7],[14,11,10,6,9,5,2,4,1,0,3,8,7],[13,15,11,12,10,6,9,5,2,4,1,0,3,8,7,14],[11,16,10,6,9,5,2,4,1,0,3,8,7,13,15,12,14],[17,13,0,1,2,3,4,5,6,7,8,9,10,11,12,14,15,16]])) .ret)) .skip)) (.seq (.seq (.reg [⟨(some 33),(.mv (.t 0)),0,none⟩,⟨(some 34),(.sbytes (.t 33)),0,none⟩,⟨(some 35),(.len 1 (.t 34)),0,none⟩,⟨(some 36),(.mv (.c (.int .i64 0))),0,none⟩] none) (.block 0 (.loop [36,35,34,0] (.seq (.reg [⟨(some 37),(.bin .num .lss (.t 36) (.t 35)),0,none⟩] none) (.seq (.cond (.t 37) .skip (.exit 0)) (.seq (.block 1 (.seq (.reg [⟨(some 38),(.mv (.t 36)),0,none⟩,⟨(some 39),(.iaddr 1 (.t 34) (.t 36)),0,none⟩,⟨(some 40),(.load false [(.int .u8)] (.t 39)),0,none⟩,⟨(some 5),(.mv (.t 38)),0,none⟩,⟨(some 6),(.mv (.t 40)),0,none⟩] none) (.seq (.reg [⟨(some 41),(.mv (.t 6)),0,none⟩,⟨(some 42),(.bin .num .lss (.t 41) (.c (.int .u8 97))),0,none⟩,⟨(some 43),(.mv (.t 42)),0,none⟩,⟨(some 44),(.mv (.t 6)),0,(some (43,false))⟩,⟨(some 45),(.bin .num .gtr (.t 44) (.c (.int .u8 122))),0,(some (43,false))⟩,⟨(some 46),(.pick (.t 43) (.c (.bool true)) (.t 45)),0,none⟩,⟨(some 47),(.mv (.t 46)),0,none⟩,⟨(some 48),(.mv (.t 5)),0,(some (47,true))⟩,⟨(some 49),(.bin .num .eql (.t 48) (.c (.int .i64 0))),0,(some (47,true))⟩,⟨(some 50),(.mv (.t 49)),0,(some (47,true))⟩,⟨(some 51),(.mv (.t 6)),0,(some (50,false))⟩,⟨(some 52),(.bin .num .lss (.t 51) (.c (.int .u8 48))),0,(some (50,false))⟩,⟨(some 53),(.pick (.t 50) (.c (.bool true)) (.t 52)),0,(some (47,true))⟩,⟨(some 54),(.mv (.t 53)),0,(some (47,true))⟩,⟨(some 55),(.mv (.t 6)),0,(some (54,false))⟩,⟨(some 56),(.bin .num .gtr (.t 55) (.c (.int .u8 57))),0,(some (54,false))⟩,⟨(some 57),(.pick (.t 54) (.c (.bool true)) (.t 56)),0,(some (47,true))⟩,⟨(some 58),(.pick (.t 47) (.t 57) (.c (.bool false))),0,none⟩] none) (.cond (.t 58) (.seq (.reg [⟨(some 2),(.mv (.c (.bool false))),0,none⟩] none) .ret) .skip)))) (.reg [⟨(some 59),(.bin .num .add (.t 36) (.c (.int .i64 1))),0,none⟩,⟨(some 36),(.mv (.t 59)),0,none⟩] none))))))) (.seq (.reg [⟨(some 60),(.mv (.t 0)),0,none⟩,⟨(some 61),(.bin .num .neq (.t 60) (.c (.str []))),0,none⟩,⟨(some 62),(.mv (.t 61)),0,none⟩,⟨(some 63),(.mv (.t 0)),0,(some (62,true))⟩,⟨(some 64),(.len 0 (.t 63)),0,(some (62,true))⟩,⟨(some 65),(.bin .num .leq (.t 64) (.c (.int .i64 30))),0,(some (62,true))⟩,⟨(some 66),(.pick (.t 62) (.t 65) (.c (.bool false))),0,none⟩,⟨(some 2),(.mv (.t 66)),0,none⟩] none) .ret))))
def XA:List IRes:=[(.tmp 2)]
abbrev a9p:Nat:=67
def WE:ZC:=Xn [(152,.pure (preT (fun _:Str×Str×Unit=>true)) (Zg (fun x:Str×Str×Unit=>x.2.1.s.isPrefixOf x.1.s))),(182,.pure (preT (fun x:Str×Unit=>decide (x.1.s.length<=1000000))) (Zg (fun x:Str×Unit=>Yr x.1))),(76,.pure (preT (fun x:Int×Unit=>decide (-9223372036854775808<=x.1)&&decide (x.1<=9223372036854775807))) (Zg (fun x:Int×Unit=>NR x.1)))]
theorem b9n{G:PV->Prop}(s:List UInt8)(h : ∃ y0:Bool,AV.pv (Zg (fun(x:Str×Str×Unit)=>List.isPrefixOf (Str.s x.2.1) (Str.s x.1)) [(.str s),(.str [(95:UInt8)])])=AV.pv (enc y0)∧(if (y0)=true then(decide (0<=1)&&true&&decide (Int.toNat 1<=List.length s)&&decide (List.length s<=List.length s))=true∧((Go.Pl.preT (fun(x:Str×Unit)=>decide (List.length (Str.s x.1)<=1000000)) [(.str (List.drop (Int.toNat 1) (List.take (List.length s) s)))])=true∧(∃ y1:Int×Er,AV.pv (Zg (fun(x:Str×Unit)=>Yr x.1) [(.str (List.drop (Int.toNat 1) (List.take (List.length s) s)))])=AV.pv (enc y1)∧((Al (enc y1.2)&&Prod.fst (true,PV.bool (Uo (enc y1.2))))=true∧(if (Uo (enc y1.2))=true then if (decide (y1.1>0))=true then if (decide ((↑(List.length s):Int)<=10))=true then(Go.Pl.preT (fun(x:Int×Unit)=>decide ((-9223372036854775808:Int)<=x.1)&&decide (x.1<=9223372036854775807)) [(.int .i64 y1.1)])=true∧(∃ y2:Str,AV.pv (Zg (fun(x:Int×Unit)=>NR x.1) [(.int .i64 y1.1)])=AV.pv (enc y2)∧((decide (0<=1)&&true&&decide (Int.toNat 1<=List.length s)&&decide (List.length s<=List.length s))=true∧(G ((.bool (Str.s y2==List.drop (Int.toNat 1) (List.take (List.length s) s)))))))else(G ((.bool false)))else(G ((.bool false)))else(G ((.bool false)))))))else(At WE 0 (Za XA G) Xp 0 67 [(0,(.pv (.str s))),(34,(.pv (.sl 1 false (Zu s)))),(35,(.pv (.int .i64 (↑(List.length (Zu s)):Int)))),(36,(.pv (.int .i64 0)))] []))):Zc WE 0 (Za XA G) Xp [] (YD 67 [.str s]):=Zc.tp (.lit (.abs (Bool) (fun YY=>AV.pv (enc YY)) (.ask (.req (.req (.abs (Int×Er) (fun YY=>AV.pv (enc YY)) (.req (.ask (.lit (.lit (.lit (.ask (.lit (.lit (.lit (.lit (.ask (.lit (.req (.abs (Str) (fun YY=>AV.pv (enc YY)) (.lit (.lit (.req (.lit (.lit (.lit (.nil)))))))))) (.lit (.lit (.lit (.lit (.lit (.nil))))))))))) (.lit (.lit (.lit (.lit (.lit (.lit (.lit (.lit (.lit (.nil)))))))))))))) (.lit (.lit (.lit (.lit (.lit (.lit (.lit (.lit (.lit (.lit (.lit (.lit (.nil)))))))))))))))))) (.nil)))) h (by kernel_rfl)
theorem Lb{G:PV->Prop}(s:List UInt8)(i:Int)(h:if (decide (i<(↑(List.length (Zu s)):Int)))=true then(decide (0<=i)&&decide (Int.toNat i<List.length (Zu s))&&1==1)=true∧((decide (0+List.length [Sh.int IntKind.u8]<=List.length (PV.cells (List.getD (Zu s) (Int.toNat i) default)))&&XL (PV.cells (List.getD (Zu s) (Int.toNat i) default)) 0 [Sh.int IntKind.u8])=true∧(if (decide (PV.asInt (List.getD (PV.cells (List.getD (Zu s) (Int.toNat i) default)) 0 default)<97))=true then if (i==0)=true then G ((.bool false))else(if (decide (PV.asInt (List.getD (PV.cells (List.getD (Zu s) (Int.toNat i) default)) 0 default)<48))=true then G ((.bool false))else(if (decide (PV.asInt (List.getD (PV.cells (List.getD (Zu s) (Int.toNat i) default)) 0 default)>57))=true then G ((.bool false))else(At WE 0 (Za XA G) Xp 0 67 [(0,(.pv (.str s))),(34,(.pv (.sl 1 false (Zu s)))),(35,(.pv (.int .i64 (↑(List.length (Zu s)):Int)))),(36,(.pv (.int .i64 (IntKind.wrap IntKind.i64 (i+1)))))] [])))else(if (decide (PV.asInt (List.getD (PV.cells (List.getD (Zu s) (Int.toNat i) default)) 0 default)>122))=true then if (i==0)=true then G ((.bool false))else(if (decide (PV.asInt (List.getD (PV.cells (List.getD (Zu s) (Int.toNat i) default)) 0 default)<48))=true then G ((.bool false))else(if (decide (PV.asInt (List.getD (PV.cells (List.getD (Zu s) (Int.toNat i) default)) 0 default)>57))=true then G ((.bool false))else(At WE 0 (Za XA G) Xp 0 67 [(0,(.pv (.str s))),(34,(.pv (.sl 1 false (Zu s)))),(35,(.pv (.int .i64 (↑(List.length (Zu s)):Int)))),(36,(.pv (.int .i64 (IntKind.wrap IntKind.i64 (i+1)))))] [])))else(At WE 0 (Za XA G) Xp 0 67 [(0,(.pv (.str s))),(34,(.pv (.sl 1 false (Zu s)))),(35,(.pv (.int .i64 (↑(List.length (Zu s)):Int)))),(36,(.pv (.int .i64 (IntKind.wrap IntKind.i64 (i+1)))))] []))))else(if (!s==[])=true then G ((.bool (decide ((↑(List.length s):Int)<=30))))else(G ((.bool false))))):At WE 0 (Za XA G) Xp 0 67 [(0,.pv (.str s)),(34,.pv (.sl 1 false (Zu s))),(35,.pv (.int .i64 (Zu s).length)),(36,.pv (.int .i64 i))] []:=At.tp (.lit (.ask (.req (.keep (.req (.lit (.ask (.lit (.lit (.lit (.lit (.lit (.lit (.ask (.lit (.lit (.lit (.lit (.lit (.lit (.lit (.lit (.lit (.lit (.nil))))))))))) (.lit (.lit (.lit (.lit (.lit (.ask (.lit (.lit (.lit (.lit (.lit (.nil)))))) (.lit (.lit (.lit (.lit (.lit (.ask (.nil) (.lit (.nil))))))))))))))))))))) (.lit (.lit (.lit (.ask (.lit (.lit (.lit (.ask (.lit (.lit (.lit (.lit (.lit (.lit (.lit (.lit (.lit (.lit (.nil))))))))))) (.lit (.lit (.lit (.lit (.lit (.ask (.lit (.lit (.lit (.lit (.lit (.nil)))))) (.lit (.lit (.lit (.lit (.lit (.ask (.nil) (.lit (.nil)))))))))))))))))) (.lit (.lit (.lit (.lit (.lit (.lit (.lit (.lit (.nil)))))))))))))))))) (.lit (.ask (.lit (.lit (.lit (.lit (.nil))))) (.lit (.lit (.lit (.nil)))))))) h (by kernel_rfl)
def Wd:IC:=(.seq (.reg [⟨(some 1),(.box 2 (.t 0)),0,none⟩,⟨(some 2),(.mv (.c (.bool false))),1,none⟩] none) (.seq (.seq (.reg [⟨(some 5),(.faddr 1 (.t 1)),0,none⟩,⟨(some 6),(.load false [(.sl 2)] (.t 5)),0,none⟩,⟨(some 7),(.len 1 (.t 6)),0,none⟩,⟨(some 8),(.mv (.c (.int .i64 0))),0,none⟩] none) (.block 0 (.loop [8,7,6,1] (.seq (.reg [⟨(some 9),(.bin .num .lss (.t 8) (.t 7)),0,none⟩] none) (.seq (.cond (.t 9) .skip (.exit 0)) (.seq (.block 1 (.seq (.reg [⟨(some 10),(.mv (.t 8)),0,none⟩,⟨(some 11),(.iaddr 2 (.t 6) (.t 8)),0,none⟩,⟨(some 12),(.load true [.str,(.int .i64)] (.t 11)),0,none⟩,⟨(some 4),(.alloc (.agg [(.str []),(.int .i64 0)])),0,none⟩,⟨(some 3),(.mv (.t 10)),1,none⟩,⟨none,(.store 2 (.t 4) (.t 12)),1,none⟩] none) (.seq (.reg [⟨(some 13),(.faddr 0 (.t 4)),0,none⟩,⟨(some 14),(.load false [.str] (.t 13)),0,none⟩,⟨(some 15),(.call (.c (.fn 119)) [(.t 14)]),0,none⟩,⟨(some 16),(.un .not (.t 15)),2,none⟩,⟨(some 17),(.mv (.t 16)),2,none⟩,⟨(some 18),(.faddr 1 (.t 4)),2,(some (17,false))⟩,⟨(some 19),(.load false [(.int .i64)] (.t 18)),2,(some (17,false))⟩,⟨(some 20),(.bin .num .eql (.t 19) (.c (.int .i64 0))),2,(some (17,false))⟩,⟨(some 21),(.pick (.t 17) (.c (.bool true)) (.t 20)),2,none⟩,⟨(some 22),(.mv (.t 21)),2,none⟩,⟨(some 23),(.faddr 1 (.t 4)),2,(some (22,false))⟩,⟨(some 24),(.load false [(.int .i64)] (.t 23)),2,(some (22,false))⟩,⟨(some 25),(.call (.c (.fn 144)) [(.t 24)]),2,(some (22,false))⟩,⟨(some 26),(.un .not (.t 25)),4,(some (22,false))⟩,⟨(some 27),(.pick (.t 22) (.c (.bool true)) (.t 26)),4,none⟩,⟨(some 28),(.mv (.t 27)),4,none⟩,⟨(some 29),(.mv (.t 3)),4,(some (28,false))⟩,⟨(some 30),(.bin .num .gtr (.t 29) (.c (.int .i64 0))),4,(some (28,false))⟩,⟨(some 31),(.mv (.t 30)),4,(some (28,false))⟩,⟨(some 32),(.faddr 1 (.t 1)),4,(some (31,true))⟩,⟨(some 33),(.load false [(.sl 2)] (.t 32)),4,(some (31,true))⟩,⟨(some 34),(.mv (.t 3)),4,(some (31,true))⟩,⟨(some 35),(.bin .num .sub (.t 34) (.c (.int .i64 1))),4,(some (31,true))⟩,⟨(some 36),(.iaddr 2 (.t 33) (.t 35)),4,(some (31,true))⟩,⟨(some 37),(.faddr 0 (.t 36)),4,(some (31,true))⟩,⟨(some 38),(.load false [.str] (.t 37)),4,(some (31,true))⟩,⟨(some 39),(.faddr 0 (.t 4)),4,(some (31,true))⟩,⟨(some 40),(.load false [.str] (.t 39)),4,(some (31,true))⟩,⟨(some 41),(.bin .num .geq (.t 38) (.t 40)),4,(some (31,true))⟩,⟨(some 42),(.pick (.t 31) (.t 41) (.c (.bool false))),4,(some (28,false))⟩,⟨(some 43),(.pick (.t 28) (.c (.bool true)) (.t 42)),4,none⟩] (some [[],[0],[1,0],[2,1,0],[3,2,1,0],[4,3,2,1,0],[5,4,3,2,1,0],[6,4,5,3,2,1,0],[4,7,3,2,1,0,6,5],[8,4,7,3,2,1,0,6,5],[9,8,4,7,3,2,1,0,6,5],[10,9,8,4,7,3,2,1,0,6,5],[11,9,10,8,4,7,3,2,1,0,6,5],[12,9,11,10,8,4,7,3,2,1,0,6,5],[9,13,8,4,7,3,2,1,0,6,5,12,11,10],[14,12,9,13,8,4,7,3,2,1,0,6,5,11,10],[15,14,12,9,13,8,4,7,3,2,1,0,6,5,11,10],[16,15,14,12,9,13,8,4,7,3,2,1,0,6,5,11,10],[17,15,16,14,12,9,13,8,4,7,3,2,1,0,6,5,11,10],[18,17,15,16,14,12,9,13,8,4,7,3,2,1,0,6,5,11,10],[19,18,17,15,16,14,12,9,13,8,4,7,3,2,1,0,6,5,11,10],[18,17,15,16,14,12,9,13,8,4,7,3,2,1,0,6,5,11,10],[21,18,17,15,16,14,12,9,13,8,4,7,3,2,1,0,6,5,11,10],[20,22,18,19,17,15,16,14,12,9,13,8,4,7,3,2,1,0,6,5,11,10,21],[23,18,20,22,19,17,15,16,14,12,9,13,8,4,7,3,2,1,0,6,5,11,10,21],[24,18,23,20,22,19,17,15,16,14,12,9,13,8,4,7,3,2,1,0,6,5,11,10,21],[18,17,15,16,14,12,9,13,8,4,7,3,2,1,0,6,5,11,10],[26,18,17,15,16,14,12,9,13,8,4,7,3,2,1,0,6,5,11,10],[25,27,18,24,23,20,22,19,17,15,16,14,12,9,13,8,4,7,3,2,1,0,6,5,11,10,21,26],[18,28,15,17,16,14,12,9,13,8,4,7,3,2,1,0,6,5,11,10,25,27,24,23,20,22,19,21,26],[15,29,14,12,9,13,8,4,7,3,2,1,0,6,5,11,10,18,28,17,16,25,27,24,23,20,22,19,21,26]])) (.cond (.t 43) (.seq (.reg [⟨(some 2),(.mv (.c (.bool false))),0,none⟩] none) .ret) .skip)))) (.reg [⟨(some 44),(.bin .num .add (.t 8) (.c (.int .i64 1))),0,none⟩,⟨(some 8),(.mv (.t 44)),0,none⟩] none))))))) (.seq (.reg [⟨(some 45),(.faddr 0 (.t 1)),0,none⟩,⟨(some 46),(.load false [(.int .i64)] (.t 45)),0,none⟩,⟨(some 47),(.call (.c (.fn 144)) [(.t 46)]),0,none⟩,⟨(some 48),(.mv (.t 47)),2,none⟩,⟨(some 49),(.faddr 1 (.t 1)),2,(some (48,true))⟩,⟨(some 50),(.load false [(.sl 2)] (.t 49)),2,(some (48,true))⟩,⟨(some 51),(.len 1 (.t 50)),2,(some (48,true))⟩,⟨(some 52),(.bin .num .leq (.t 51) (.c (.int .i64 12))),2,(some (48,true))⟩,⟨(some 53),(.pick (.t 48) (.t 52) (.c (.bool false))),2,none⟩,⟨(some 2),(.mv (.t 53)),2,none⟩] none) .ret)))
def X0:List IRes:=[(.tmp 2)]
abbrev a5z:Nat:=54
def Vb:ZC:=Xn [(144,.pure (preT (fun _:Int×Unit=>true)) (Zg (fun x:Int×Unit=>Z7 x.1))),(119,.pure (preT (fun x:Str×Unit=>decide (x.1.s.length<=1000000))) (Zg (fun x:Str×Unit=>Zw x.1)))]
theorem b2g{G:PV->Prop}(l:Lin)(h:At Vb 0 (Za X0 G) Wd 0 54 [(1,(.ptr 0 0)),(6,(.pv (.sl 2 false (List.map enc l.t)))),(7,(.pv (.int .i64 (↑(List.length (List.map enc l.t)):Int)))),(8,(.pv (.int .i64 0)))] [(.obj (.box [(.pv (.int .i64 l.k)),(.pv (.sl 2 false (List.map enc l.t)))]))]):Zc Vb 0 (Za X0 G) Wd [] (YD 54 [enc l]):=Zc.tp (.nil) h (by kernel_rfl)
theorem Tw{G:PV->Prop}(l:Lin)(i:Int)(h:if (decide (i<(↑(List.length l.t):Int)))=true then(decide (0<=i)&&decide (Int.toNat i<List.length (List.map enc l.t))&&Enc.sz Coef==2)=true∧(∃ y0:Coef,AV.pv (PV.rptr (PV.cells (List.getD (List.map enc l.t) (Int.toNat i) default)))=AV.pv (PV.rptr (PV.cells ((enc) y0)))∧((Go.Pl.preT (fun(x:Str×Unit)=>decide (List.length (Str.s x.1)<=1000000)) [(.str (PV.asStr (List.getD (PV.cells (enc y0)) 0 default)))])=true∧(∃ y1:Bool,AV.pv (Zg (fun(x:Str×Unit)=>Zw x.1) [(.str (PV.asStr (List.getD (PV.cells (enc y0)) 0 default)))])=AV.pv (enc y1)∧(if (!y1)=true then G ((.bool false))else(if (PV.asInt (List.getD (PV.cells (enc y0)) (0+1) default)==0)=true then G ((.bool false))else(∃ y2:Bool,AV.pv (Zg (fun(x:Int×Unit)=>Z7 x.1) [(.int .i64 (PV.asInt (List.getD (PV.cells (enc y0)) (0+1) default)))])=AV.pv (enc y2)∧(if (!y2)=true then G ((.bool false))else(if (decide (i>0))=true then(decide (0<=IntKind.wrap IntKind.i64 (i - 1))&&decide (Int.toNat (IntKind.wrap IntKind.i64 (i - 1))<List.length (List.map enc l.t))&&Enc.sz Coef==2)=true∧(∃ y3:Coef,AV.pv (PV.rptr (PV.cells (List.getD (List.map enc l.t) (Int.toNat (IntKind.wrap IntKind.i64 (i - 1))) default)))=AV.pv (PV.rptr (PV.cells ((enc) y3)))∧(if (!Op.bytesLess (PV.asStr (List.getD (List.drop 0 (PV.cells (enc y3))) 0 default)) (PV.asStr (List.getD (PV.cells (enc y0)) 0 default)))=true then G ((.bool false))else(At Vb 0 (Za X0 G) Wd 0 54 [(1,(.ptr 0 0)),(6,(.pv (.sl 2 false (List.map enc l.t)))),(7,(.pv (.int .i64 (↑(List.length l.t):Int)))),(8,(.pv (.int .i64 (IntKind.wrap IntKind.i64 (i+1)))))] [(.obj (.box [(.pv (.int .i64 l.k)),(.pv (.sl 2 false (List.map enc l.t)))]))])))else(At Vb 0 (Za X0 G) Wd 0 54 [(1,(.ptr 0 0)),(6,(.pv (.sl 2 false (List.map enc l.t)))),(7,(.pv (.int .i64 (↑(List.length l.t):Int)))),(8,(.pv (.int .i64 (IntKind.wrap IntKind.i64 (i+1)))))] [(.obj (.box [(.pv (.int .i64 l.k)),(.pv (.sl 2 false (List.map enc l.t)))]))])))))))))else(∃ y4:Bool,AV.pv (Zg (fun(x:Int×Unit)=>Z7 x.1) [(.int .i64 l.k)])=AV.pv (enc y4)∧(if (y4)=true then G ((.bool (decide ((↑(List.length (List.map enc l.t)):Int)<=12))))else(G ((.bool false)))))):At Vb 0 (Za X0 G) Wd 0 54 [(1,.ptr 0 0),(6,.pv (enc l.t)),(7,.pv (.int .i64 l.t.length)),(8,.pv (.int .i64 i))] [.obj (.box [.pv (.int .i64 l.k),.pv (enc l.t)])]:=At.tp (.lit (.ask (.req (.abs (Coef) (fun YY=>AV.pv (PV.rptr (PV.cells ((enc) YY)))) (.lit (.req (.abs (Bool) (fun YY=>AV.pv (enc YY)) (.ask (.lit (.lit (.lit (.lit (.lit (.lit (.lit (.lit (.lit (.lit (.lit (.lit (.lit (.lit (.nil))))))))))))))) (.lit (.lit (.lit (.lit (.ask (.lit (.lit (.lit (.lit (.lit (.lit (.lit (.lit (.lit (.lit (.nil))))))))))) (.lit (.lit (.lit (.abs (Bool) (fun YY=>AV.pv (enc YY)) (.lit (.lit (.ask (.lit (.lit (.lit (.lit (.lit (.nil)))))) (.lit (.lit (.lit (.ask (.lit (.lit (.lit (.lit (.lit (.req (.abs (Coef) (fun YY=>AV.pv (PV.rptr (PV.cells ((enc) YY)))) (.lit (.lit (.lit (.lit (.lit (.lit (.lit (.lit (.lit (.lit (.ask (.nil) (.lit (.nil)))))))))))))))))))) (.lit (.lit (.lit (.lit (.lit (.lit (.lit (.lit (.lit (.lit (.lit (.lit (.lit (.lit (.nil))))))))))))))))))))))))))))))))))))) (.lit (.abs (Bool) (fun YY=>AV.pv (enc YY)) (.ask (.lit (.lit (.lit (.lit (.lit (.nil)))))) (.lit (.lit (.lit (.lit (.nil)))))))))) h (by kernel_rfl)
end Go.Pl

namespace Go.Pl
open Go.RowKit
open Enc (enc dec is)
open EncL (encL decL isL)
theorem LY{s:List UInt8}{i:Nat}(h:i<s.length):List.getD (Zu s) (Int.toNat (i:Int)) default = .int .u8 (s[i].toNat:Int):=by
 simp[Zu,List.getD,h]
theorem Ue(s:List UInt8):(Zu s).length=s.length:=by simp[Zu]
def LQ(c:UInt8):Bool:=Wq c||We c
theorem RQ{c:UInt8}:Wq c=true ↔ 97<=c.toNat∧c.toNat<=122:=by
 simp only[Wq,Bool.and_eq_true,decide_eq_true_eq,UInt8.le_iff_toNat_le]
 have e1:(97:UInt8).toNat=97:=rfl
 have e2:(122:UInt8).toNat=122:=rfl
 rw[e1,e2]
theorem K8{c:UInt8}(h : ¬ (97<=c.toNat∧c.toNat<=122)):Wq c=false:=by
 cases e:Wq c
 ·rfl
 ·exact absurd (RQ.1 e) h
theorem KJ{c:UInt8}(h : ¬ (48<=c.toNat∧c.toNat<=57)):We c=false:=by
 cases e:We c
 ·rfl
 ·exact absurd (Vh.1 e) h
def Xk(s:List UInt8)(i:Nat):Bool:=(match i with|0=>(match s with|[]=>true|c::r=>Wq c&&r.all LQ)|i+1=>(s.drop (i+1)).all LQ)&&(!(s==[]))&&decide (s.length<=30)
theorem Ri{s:List UInt8}{i:Nat}(h:i<s.length)(hb:Wq s[i]=true∨(i≠0∧We s[i]=true)):Xk s i=Xk s (i+1):=by
 cases i with
 | zero=>
  cases s with
  | nil=>simp at h
  | cons c r=>
   rcases hb with hb|hb
   ·have hb:Wq c=true:=hb
    simp[Xk,hb]
   ·exact absurd rfl hb.1
 | succ i=>
  unfold Xk
  simp only
  rw[List.drop_eq_getElem_cons h,List.all_cons]
  have:LQ s[i+1]=true:=by
   rcases hb with hb|hb
   ·simp[LQ,hb]
   ·simp[LQ,hb.2]
  rw[this,Bool.true_and]
theorem Rh{s:List UInt8}{i:Nat}(h:i<s.length)(hb:Wq s[i]=false∧(i=0∨We s[i]=false)):Xk s i=false:=by
 cases i with
 | zero=>
  cases s with
  | nil=>simp at h
  | cons c r=>
   have hb:Wq c=false:=hb.1
   simp[Xk,hb]
 | succ i=>
  unfold Xk
  simp only
  rw[List.drop_eq_getElem_cons h,List.all_cons]
  have:LQ s[i+1]=false:=by
   rcases hb.2 with h0|h0
   ·cases h0
   ·simp[LQ,hb.1,h0]
  rw[this];simp
theorem OC(s:List UInt8)(hs:s.length<=1000000): ∀ (m i:Nat),m+i=s.length->At WE 0 (Za XA (Zl (Xk s i))) Xp 0 67 [(0,.pv (.str s)),(34,.pv (.sl 1 false (Zu s))),(35,.pv (.int .i64 (Zu s).length)),(36,.pv (.int .i64 i))] []:=by
 intro m
 induction m with
 | zero=>
  intro i hi
  have e:Xk s i=(!(s==[])&&decide (s.length<=30)):=by
   unfold Xk
   cases i with
   | zero=>cases s with
    | nil=>rfl
    | cons c r=>simp at hi
   | succ i=>simp only;rw[List.drop_of_length_le (show s.length<=i+1 by omega)];simp
  rw[e]
  refine Lb s i (Z8 (Yc (by rw[Ue];omega)) (Wn (fun h=>ZF ?_) fun h=>ZF ?_))
  ·rw[h,Bool.true_and];exact decide_eq_decide.2 (by omega)
  ·rw[h,Bool.false_and]
 | succ m ih=>
  intro i hi
  have hlt:i<s.length:=by omega
  have h:=ih (i+1) (by omega)
  refine Lb s i ?_
  rw[LY hlt,next (by omega)]
  have stop:(Wq s[i]=false∧(i=0∨We s[i]=false))->Zl (Xk s i) (.bool false):=fun hb=>ZF (Rh hlt hb).symm
  have go:(Wq s[i]=true∨(i≠0∧We s[i]=true))->At WE 0 (Za XA (Zl (Xk s i))) Xp 0 67 [(0,.pv (.str s)),(34,.pv (.sl 1 false (Zu s))),(35,.pv (.int .i64 (Zu s).length)),(36,.pv (.int .i64 ((i+1:Nat):Int)))] []:=fun hb=>by rw[Ri hlt hb];exact h
  have rest:Wq s[i]=false->(if ((i:Int)==0)=true then Zl (Xk s i) (.bool false)else if decide ((s[i].toNat:Int)<48)=true then Zl (Xk s i) (.bool false)else if decide ((s[i].toNat:Int)>57)=true then Zl (Xk s i) (.bool false)else At WE 0 (Za XA (Zl (Xk s i))) Xp 0 67 [(0,.pv (.str s)),(34,.pv (.sl 1 false (Zu s))),(35,.pv (.int .i64 (Zu s).length)),(36,.pv (.int .i64 ((i+1:Nat):Int)))] []):=by
   intro hl
   refine Gj (fun h0=>stop ⟨hl,.inl (by omega)⟩) fun h0=>WI (fun h1=>stop ⟨hl,.inr (KJ (by omega))⟩) fun h1=>WI (fun h2=>stop ⟨hl,.inr (KJ (by omega))⟩) fun h2=>go (.inr ⟨by omega,Vh.2 (by omega)⟩)
  refine Ya (Z4 (by rw[Ue];exact hlt)) ⟨by rw[Ue];simp[hlt],by rfl,?_⟩
  refine WI (fun h1=>rest (K8 ?_)) fun h1=>WI (fun h2=>rest (K8 ?_)) fun h2=>go (.inl (RQ.2 ?_))
  ·have h1:(s[i].toNat:Int)<97:=h1
   omega
  ·have h2:(s[i].toNat:Int)>122:=h2
   omega
  ·have h1 : ¬ (s[i].toNat:Int)<97:=h1
   have h2 : ¬ (s[i].toNat:Int)>122:=h2
   omega
theorem TU{s:List UInt8}(h:[95].isPrefixOf s=false):Zw ⟨s⟩=Xk s 0:=by
 cases s with
 | nil=>rfl
 | cons c r=>
  have hc : ¬ c=95:=by intro e;subst e;simp at h
  have e:decide ((c::r).length<=30)=decide (r.length<=29):=decide_eq_decide.2 (by simp)
  unfold Xk
  rw[e]
  simp only[Zw,if_neg hc]
  show _=(Wq c&&r.all LQ&& !((c::r)==[])&&_)
  have e2:((c::r)==[])=false:=rfl
  rw[e2]
  simp only[Bool.not_false,Bool.and_true]
  rfl
theorem C9(s:Str): -9223372036854775808<=(Yr s).1∧((Yr s).1<=9223372036854775807):=by
 unfold Yr
 split
 ·rename_i v hv;exact Lib.atoiAll_bounds hv
 ·have:=Lib.atoiSat_bounds s.s
  exact⟨by show _<=Lib.atoiSat s.s;omega,by show Lib.atoiSat s.s<=_;omega⟩
 ·exact⟨by show(-9223372036854775808:Int)<=0;omega,by show(0:Int)<=_;omega⟩
theorem a6e: ∀ a:Str×Unit,decide (a.1.s.length<=1000000)=true->Zc WE 0 (Za XA (Zl (Zw a.1))) Xp [] (YD a9p (encL a)):=by
 rintro⟨⟨s⟩,⟨⟩⟩ hl
 have hl:s.length<=1000000:=by simpa using hl
 refine b9n s (Ze (⟨s⟩,⟨[95]⟩,()) rfl (Wn (fun h=> ?_) fun h=> ?_))
 ·have h:[95].isPrefixOf s=true:=h
  obtain⟨r,rfl⟩ : ∃ r,s=95::r:=by
   cases s with
   | nil=>simp at h
   | cons c r=>
    have:95=c:=by simpa using h
    exact⟨r,by rw[this]⟩
  have e1:List.drop (Int.toNat 1) (List.take (List.length (95::r)) (95::r))=r:=by rw[List.take_of_length_le (Nat.le_refl _)];rfl
  simp only[e1]
  refine⟨by simp,Zh (⟨r⟩,()) rfl (by simp at hl ⊢;omega),Ze (⟨r⟩,()) rfl ⟨by show(Al (enc (Yr ⟨r⟩).2)&&true)=true;rw[c2t];rfl,?_⟩⟩
  show if Uo (enc (Yr ⟨r⟩).2)=true then(if decide ((Yr ⟨r⟩).1>0)=true then(if _ then _ else Zl (Zw ⟨95::r⟩) _)else Zl (Zw ⟨95::r⟩) _)else Zl (Zw ⟨95::r⟩) _
  rw[M4]
  by_cases h9:r.length<=9
  ·rw[<- a0u r h9,decide_eq_true h9,Bool.and_true]
   refine Wn (fun h1=>Wn (fun h2=>Ya (by simp;omega) ⟨Zh ((Yr ⟨r⟩).1,()) rfl (by have:=C9 ⟨r⟩;simp;omega),Ze ((Yr ⟨r⟩).1,()) rfl ⟨by simp,ZF ?_⟩⟩) fun h2=>ZF ?_) fun h1=>ZF ?_
   ·rw[h1,h2];simp only[Bool.true_and,Bool.and_true];rfl
   ·rw[h2];simp
   ·rw[h1];simp
  ·rw[decide_eq_false h9,Bool.and_false]
   refine Wn (fun h1=>Wn (fun h2=>Z8 (by simp;omega) (ZF rfl)) fun h2=>ZF rfl) fun h1=>ZF rfl
 ·have h:[95].isPrefixOf s=false:=h
  show At WE 0 (Za XA (Zl (Zw ⟨s⟩))) Xp 0 67 _ _
  rw[TU h]
  exact OC s hl s.length 0 (by omega)
theorem Fy(l:Lin)(hl:l.t.length<=9223372036854775807)(hs:l.t.all (fun t=>decide (t.v.s.length<=1000000))=true): ∀ (j i:Nat),j+i=l.t.length->At Vb 0 (Za X0 (Zl (AU (pvS l.t i) (l.t.drop i)&&(Z7 l.k&&decide (l.t.length<=12))))) Wd 0 54 [(1,.ptr 0 0),(6,.pv (enc l.t)),(7,.pv (.int .i64 l.t.length)),(8,.pv (.int .i64 i))] [.obj (.box [.pv (.int .i64 l.k),.pv (enc l.t)])]:=by
 intro j
 induction j with
 | zero=>
  intro i hi
  refine Tw l i (Z8 (Yc (by omega)) (Ze (l.k,()) rfl ?_))
  rw[List.drop_of_length_le (show l.t.length<=i by omega)]
  refine Wn (fun h=>ZF ?_) fun h=>ZF ?_
  ·have h:Z7 l.k=true:=h
   rw[h]
   show _=(true&&(true&&_))
   rw[Bool.true_and,Bool.true_and]
   exact decide_eq_decide.2 (by simp;omega)
  ·have h:Z7 l.k=false:=h
   rw[h];simp
 | succ j ih=>
  intro i hi
  have hlt:i<l.t.length:=by omega
  have h:=ih (i+1) (by omega)
  have hsi:l.t[i].v.s.length<=1000000:=by rw[List.all_eq_true]at hs;simpa using hs _ (List.getElem_mem hlt)
  refine Tw l i ?_
  refine Ya (Z4 hlt) ⟨ZG hlt rfl,Z0 hlt ⟨Zh (l.t[i].v,()) rfl (by simpa using hsi),Ze (l.t[i].v,()) rfl (Vj (fun hn=> ?_) fun hn=>Gj (fun hc=> ?_) fun hc=>Ze (l.t[i].c,()) rfl (Vj (fun hk=> ?_) fun hk=> ?_))⟩⟩
  all_goals rw[List.drop_eq_getElem_cons hlt,Ha]
  ·have hn:Zw l.t[i].v=false:=hn
   exact ZF (by simp[hn])
  ·have hc:l.t[i].c=0:=hc
   exact ZF (by simp[hc])
  ·have hk:Z7 l.t[i].c=false:=hk
   exact ZF (by simp[hk])
  have hn:Zw l.t[i].v=true:=hn
  have hk:Z7 l.t[i].c=true:=hk
  have hc:l.t[i].c≠0:=hc
  rw[next (by omega),hn,hk,decide_eq_true hc]
  have ep:pvS l.t (i+1)=some l.t[i].v.s:=by simp[pvS,hlt]
  rw[ep]at h
  cases i with
  | zero=>exact Z8 (by simp) h
  | succ i=>
   refine Ya (by simp) ?_
   rw[a0g (by omega)]
   refine⟨ZG (by omega) rfl,Z0 (by omega) ?_⟩
   have e2:pvS l.t (i+1)=some l.t[i].v.s:=by simp[pvS,show i<l.t.length by omega]
   rw[e2]
   refine Vj (fun hb=> ?_) fun hb=> ?_
   all_goals
    have hb':=(YT l.t[i].v.s l.t[i+1].v.s).symm.trans hb
    simp only[hb',Bool.and_true,Bool.true_and,Bool.and_false,Bool.false_and]
   ·exact ZF rfl
   ·exact h
theorem Ea: ∀ a:Lin×Unit,ZW a.1=true->Zc Vb 0 (Za X0 (Zl (Zd a.1))) Wd [] (YD a5z (encL a)):=by
 rintro⟨l,⟨⟩⟩ hl
 simp only[ZW,Y4,Bool.and_eq_true,decide_eq_true_eq]at hl
 refine b2g l ?_
 show At Vb 0 (Za X0 (Zl (Zd l))) Wd 0 54 _ _
 have e:Zd l=(AU (pvS l.t 0) (l.t.drop 0)&&(Z7 l.k&&decide (l.t.length<=12))):=by rw[NI,Bool.and_comm];rfl
 rw[e,List.length_map]
 exact Fy l hl.1 hl.2 l.t.length 0 (by omega)
end Go.Pl

namespace Go.Pl
open Go.RowKit
open Enc (enc dec is)
open EncL (encL decL isL)
structure LR where
 k:Int
 w:Nat
 ts:List Coef
def LR.view(r:LR):Lin:=⟨r.k,r.ts.take r.w⟩
def LR.av(r:LR)(l:Nat):AV:=.agg [.pv (.int .i64 r.k),.row l r.ts.length 0 r.w]
def LR.ob(r:LR):AObj:=.row false 61 2 (r.ts.map enc)
def V6:Nat->Nat->Nat->List Coef->List Coef×Nat
 | 0,_,j,ts=>(ts,j)
 | m+1,i,j,ts=>if (ts.getD i ⟨⟨[]⟩,0⟩).c=0 then V6 m (i+1) j ts else V6 m (i+1) (j+1) (ts.set j (ts.getD i ⟨⟨[]⟩,0⟩))
def Kh(k:Int)(o:List Coef):LR:=⟨k,(V6 o.length 0 0 o).2,(V6 o.length 0 0 o).1⟩
def Xz(l:Lin)(s:Str)(c:Int):LR:=Kh l.k (Xt s c false l.t)
def QF(l x:Lin)(k:Int):LR:=x.t.foldl (fun o t=>Xz o.view t.v (YV (k*t.c))) ⟨YV (l.k+YV (k*x.k)),l.t.length,l.t⟩
theorem Af: ∀ (m i j:Nat) (ts:List Coef),(V6 m i j ts).1.length=ts.length
 | 0,_,_,_=>rfl
 | m+1,i,j,ts=>by
  rw[V6]
  split
  ·exact Af m _ _ _
  ·rw[Af m];simp
theorem Eb: ∀ (m i j:Nat) (ts:List Coef),m+i=ts.length->j<=i->(V6 m i j ts).2<=ts.length
 | 0,i,j,ts,h,hj=>by rw[V6];show j<=_;omega
 | m+1,i,j,ts,h,hj=>by
  rw[V6]
  split
  ·exact Eb m _ _ _ (by omega) (by omega)
  ·have:=Eb m (i+1) (j+1) (ts.set j (ts.getD i ⟨⟨[]⟩,0⟩)) (by simp;omega) (by omega)
   simpa using this
theorem a8r(k:Int)(o:List Coef):(Kh k o).ts.length=o.length:=Af _ _ _ _
theorem c6t(k:Int)(o:List Coef):(Kh k o).w<=o.length:=Eb _ _ _ _ (by omega) (by omega)
theorem Dh(o:List Coef): ∀ (m i j:Nat) (ts:List Coef),m+i=o.length->ts.length=o.length->j<=i->ts.take j=(o.take i).filter (fun t=>decide (t.c≠0))->ts.drop i=o.drop i->(V6 m i j ts).1.take (V6 m i j ts).2=o.filter fun t=>decide (t.c≠0)
 | 0,i,j,ts,hm,hts,hji,h1,h2=>by
  rw[V6]
  show ts.take j=_
  rw[h1,List.take_of_length_le (by omega)]
 | m+1,i,j,ts,hm,hts,hji,h1,h2=>by
  have hlt:i<o.length:=by omega
  have hi':i<ts.length:=by omega
  have hj':j<ts.length:=by omega
  have ei:ts[i]=o[i]:=by
   have:(ts.drop i)[0]? = (o.drop i)[0]? :=by rw[h2]
   simpa [hi',hlt]using this
  have htk:(o.take (i+1))=o.take i++[o[i]]:=by rw[List.take_add_one,List.getElem?_eq_getElem hlt];rfl
  have eg:ts.getD i ⟨⟨[]⟩,0⟩=ts[i]:=by simp[List.getD,hi']
  rw[V6,eg]
  split
  ·rename_i hz
   refine Dh o m (i+1) j ts (by omega) hts (by omega) ?_ ?_
   ·rw[h1,htk,List.filter_append]
    have:o[i].c=0:=by rw[<- ei];exact hz
    simp[this]
   ·have:=congrArg (List.drop 1) h2
    simpa [List.drop_drop,Nat.add_comm]using this
  ·rename_i hz
   refine Dh o m (i+1) (j+1) (ts.set j ts[i]) (by omega) (by simp[hts]) (by omega) ?_ ?_
   ·rw[htk,List.filter_append,<- h1]
    have:decide (o[i].c≠0)=true:=by rw[<- ei];exact decide_eq_true hz
    simp only[List.filter_cons,this,if_true,List.filter_nil]
    rw[List.take_add_one,List.getElem?_set_self hj',List.take_set_of_le (Nat.le_refl j),ei]
    rfl
   ·rw[List.drop_set_of_lt (by omega)]
    have:=congrArg (List.drop 1) h2
    simpa [List.drop_drop,Nat.add_comm]using this
theorem Aa(l:Lin)(s:Str)(c:Int):(Xz l s c).view=Xy l s c:=by
 show(⟨_,_⟩:Lin)=⟨_,_⟩
 congr 1
 exact Dh _ _ 0 0 _ (by omega) rfl (by omega) (by simp) rfl
theorem Ay(k:Int): ∀ (x:List Coef) (r:LR),(x.foldl (fun o t=>Xz o.view t.v (YV (k*t.c))) r).view=x.foldl (fun o t=>Xy o t.v (YV (k*t.c))) r.view
 | [],r=>rfl
 | t::x,r=>by rw[List.foldl_cons,List.foldl_cons,Ay k x,Aa]
theorem Fu(l x:Lin)(k:Int):(QF l x k).view=Z5 l x k:=by
 have:=Ay k x.t ⟨YV (l.k+YV (k*x.k)),l.t.length,l.t⟩
 have e:LR.view ⟨YV (l.k+YV (k*x.k)),l.t.length,l.t⟩=⟨YV (l.k+YV (k*x.k)),l.t⟩:=by
  show(⟨_,l.t.take l.t.length⟩:Lin)=_
  rw[List.take_length]
 rw[e]at this
 exact this
def Ui:List AV->List AObj->Bool
 | [.pv l,.pv (.str s),.pv (.int .i64 c)],[]=>Wz Lin l&&decide ((dec l:Lin).t.length<=1000000)
 | _,_=>false
def V3(r:LR)(l:Nat)(os:List AObj):AV×List AObj×List AObj:=(r.av l,os,[r.ob])
def Uf:List AV->List AObj->AV×List AObj×List AObj
 | [.pv l,.pv (.str s),.pv (.int .i64 c)],_=>V3 (Xz (dec l) ⟨s⟩ c) 0 []
 | _,_=>Wu
def Fg(k:Int)(w:Nat)(xs:List PV):Lin:=⟨k,((dec (PV.sl 2 false xs):List Coef)).take w⟩
def Qi:List AV->List AObj->Bool
 | [.agg [.pv (.int .i64 k),.row 0 q 0 w],.pv (.str s),.pv (.int .i64 c)],[.row fz ty 2 xs]=>Wz (List Coef) (.sl 2 false xs)&&xs.length==q&&decide (w<=q)&&decide (w<=1000000)
 | _,_=>false
def KS:List AV->List AObj->AV×List AObj×List AObj
 | [.agg [.pv (.int .i64 k),.row 0 q 0 w],.pv (.str s),.pv (.int .i64 c)],[.row fz ty 2 xs]=>V3 (Xz (Fg k w xs) ⟨s⟩ c) 1 [.row true ty 2 xs]
 | _,_=>Wu
def QO:List AV->List AObj->Bool
 | [.pv l,.pv x,.pv (.int .i64 k)],[]=>Wz Lin l&&Wz Lin x&&decide ((dec l:Lin).t.length<=500000)&&decide ((dec x:Lin).t.length<=500000)
 | _,_=>false
def Ja:List AV->List AObj->AV×List AObj×List AObj
 | [.pv l,.pv x,.pv (.int .i64 k)],[]=>V3 (QF (dec l) (dec x) k) 0 []
 | [.agg [.pv (.int .i64 c),.row 0 q 0 w],.pv x,.pv (.int .i64 k)],[.row fz ty 2 xs]=>V3 (QF (Fg c w xs) (dec x) k) 1 [.row true ty 2 xs]
 | _,_=>Wu
def c9i:PV:=.agg [.int .i64 0,.sl 0 true []]
end Go.Pl

namespace Go.Pl
open Go.RowKit
open Enc (enc dec is)
open EncL (encL decL isL)
set_option maxRecDepth 100000
def ZJ:IC:=(.seq (.reg [⟨(some 3),(.box 2 (.t 0)),0,none⟩,⟨(some 6),(.alloc (.agg [(.int .i64 0),(.sl 0 true [])])),1,none⟩] none) (.seq (.reg [⟨(some 13),(.faddr 0 (.t 3)),0,none⟩,⟨(some 14),(.load false [(.int .i64)] (.t 13)),0,none⟩,⟨(some 15),(.build [(.int .i64 0),(.sl 0 true [])] [(0,(1,(.t 14)))]),0,none⟩,⟨(some 7),(.alloc (.agg [(.int .i64 0),(.sl 0 true [])])),0,none⟩,⟨none,(.store 2 (.t 7) (.t 15)),1,none⟩] none) (.seq (.reg [⟨(some 8),(.mv (.c (.bool false))),0,none⟩] none) (.seq (.seq (.reg [⟨(some 9),(.mv (.c (.int .i64 0))),0,none⟩] none) (.block 0 (.loop [9,3,8,1,7,2,6] (.seq (.seq (.reg [⟨(some 16),(.mv (.t 9)),0,none⟩,⟨(some 17),(.faddr 1 (.t 3)),0,none⟩,⟨(some 18),(.load false [(.sl 2)] (.t 17)),0,none⟩,⟨(some 19),(.len 1 (.t 18)),0,none⟩,⟨(some 20),(.bin .num .lss (.t 16) (.t 19)),0,none⟩] none) (.cond (.t 20) .skip (.exit 0))) (.seq (.block 1 (.seq (.reg [⟨(some 23),(.faddr 1 (.t 3)),0,none⟩,⟨(some 24),(.load false [(.sl 2)] (.t 23)),0,none⟩,⟨(some 25),(.mv (.t 9)),0,none⟩,⟨(some 26),(.iaddr 2 (.t 24) (.t 25)),0,none⟩,⟨(some 27),(.load true [.str,(.int .i64)] (.t 26)),0,none⟩,⟨(some 10),(.alloc (.agg [(.str []),(.int .i64 0)])),0,none⟩,⟨none,(.store 2 (.t 10) (.t 27)),1,none⟩] none) (.seq (.seq (.reg [⟨(some 28),(.mv (.t 8)),0,none⟩,⟨(some 29),(.un .not (.t 28)),0,none⟩,⟨(some 30),(.mv (.t 29)),0,none⟩,⟨(some 31),(.faddr 0 (.t 10)),0,(some (30,true))⟩,⟨(some 32),(.load false [.str] (.t 31)),0,(some (30,true))⟩,⟨(some 33),(.mv (.t 1)),0,(some (30,true))⟩,⟨(some 34),(.bin .num .gtr (.t 32) (.t 33)),0,(some (30,true))⟩,⟨(some 35),(.pick (.t 30) (.t 34) (.c (.bool false))),0,none⟩] none) (.cond (.t 35) (.seq (.reg [⟨(some 36),(.faddr 1 (.t 7)),0,none⟩,⟨(some 37),(.load false [(.sl 2)] (.t 36)),0,none⟩,⟨(some 38),(.mv (.t 1)),0,none⟩,⟨(some 39),(.mv (.t 2)),0,none⟩,⟨(some 40),(.build [(.str []),(.int .i64 0)] [(0,(1,(.t 38))),(1,(1,(.t 39)))]),0,none⟩,⟨(some 41),(.bslice 61 2 1 (.agg [(.str []),(.int .i64 0)]) [(0,(.t 40))]),0,none⟩,⟨(some 42),(.append 61 2 24 (.t 37) (.t 41)),1,none⟩,⟨(some 43),(.faddr 1 (.t 7)),2,none⟩,⟨none,(.store 1 (.t 43) (.t 42)),2,none⟩] none) (.reg [⟨(some 8),(.mv (.c (.bool true))),0,none⟩] none)) .skip)) (.seq (.seq (.reg [⟨(some 44),(.faddr 0 (.t 10)),0,none⟩,⟨(some 45),(.load false [.str] (.t 44)),0,none⟩,⟨(some 46),(.mv (.t 1)),0,none⟩,⟨(some 47),(.bin .num .eql (.t 45) (.t 46)),0,none⟩] none) (.cond (.t 47) (.seq (.reg [⟨(some 48),(.faddr 1 (.t 10)),0,none⟩,⟨(some 49),(.load false [(.int .i64)] (.t 48)),0,none⟩,⟨(some 50),(.mv (.t 2)),0,none⟩,⟨(some 51),(.bin .num .add (.t 49) (.t 50)),0,none⟩,⟨(some 52),(.faddr 1 (.t 10)),0,none⟩,⟨none,(.store 1 (.t 52) (.t 51)),0,none⟩] none) (.reg [⟨(some 8),(.mv (.c (.bool true))),0,none⟩] none)) .skip)) (.reg [⟨(some 53),(.faddr 1 (.t 7)),0,none⟩,⟨(some 54),(.load false [(.sl 2)] (.t 53)),0,none⟩,⟨(some 55),(.load true [.str,(.int .i64)] (.t 10)),0,none⟩,⟨(some 56),(.bslice 61 2 1 (.agg [(.str []),(.int .i64 0)]) [(0,(.t 55))]),0,none⟩,⟨(some 57),(.append 61 2 24 (.t 54) (.t 56)),1,none⟩,⟨(some 58),(.faddr 1 (.t 7)),2,none⟩,⟨none,(.store 1 (.t 58) (.t 57)),2,none⟩] none))))) (.reg [⟨(some 21),(.mv (.t 9)),0,none⟩,⟨(some 22),(.bin .num .add (.t 21) (.c (.int .i64 1))),0,none⟩,⟨(some 9),(.mv (.t 22)),0,none⟩] none)))))) (.seq (.seq (.reg [⟨(some 59),(.mv (.t 8)),0,none⟩,⟨(some 60),(.un .not (.t 59)),0,none⟩] none) (.cond (.t 60) (.reg [⟨(some 61),(.faddr 1 (.t 7)),0,none⟩,⟨(some 62),(.load false [(.sl 2)] (.t 61)),0,none⟩,⟨(some 63),(.mv (.t 1)),0,none⟩,⟨(some 64),(.mv (.t 2)),0,none⟩,⟨(some 65),(.build [(.str []),(.int .i64 0)] [(0,(1,(.t 63))),(1,(1,(.t 64)))]),0,none⟩,⟨(some 66),(.bslice 61 2 1 (.agg [(.str []),(.int .i64 0)]) [(0,(.t 65))]),0,none⟩,⟨(some 67),(.append 61 2 24 (.t 62) (.t 66)),1,none⟩,⟨(some 68),(.faddr 1 (.t 7)),2,none⟩,⟨none,(.store 1 (.t 68) (.t 67)),2,none⟩] none) .skip)) (.seq (.reg [⟨(some 11),(.mv (.c (.int .i64 0))),0,none⟩] none) (.seq (.seq (.reg [⟨(some 12),(.mv (.c (.int .i64 0))),0,none⟩] none) (.block 2 (.loop [12,7,11,6] (.seq (.seq (.reg [⟨(some 69),(.mv (.t 12)),0,none⟩,⟨(some 70),(.faddr 1 (.t 7)),0,none⟩,⟨(some 71),(.load false [(.sl 2)] (.t 70)),0,none⟩,⟨(some 72),(.len 1 (.t 71)),0,none⟩,⟨(some 73),(.bin .num .lss (.t 69) (.t 72)),0,none⟩] none) (.cond (.t 73) .skip (.exit 2))) (.seq (.block 3 (.seq (.reg [⟨(some 76),(.faddr 1 (.t 7)),0,none⟩,⟨(some 77),(.load false [(.sl 2)] (.t 76)),0,none⟩,⟨(some 78),(.mv (.t 12)),0,none⟩,⟨(some 79),(.iaddr 2 (.t 77) (.t 78)),0,none⟩,⟨(some 80),(.faddr 1 (.t 79)),0,none⟩,⟨(some 81),(.load false [(.int .i64)] (.t 80)),0,none⟩,⟨(some 82),(.bin .num .neq (.t 81) (.c (.int .i64 0))),0,none⟩] none) (.cond (.t 82) (.seq (.reg [⟨(some 83),(.faddr 1 (.t 7)),0,none⟩,⟨(some 84),(.load false [(.sl 2)] (.t 83)),0,none⟩,⟨(some 85),(.mv (.t 11)),0,none⟩,⟨(some 86),(.faddr 1 (.t 7)),0,none⟩,⟨(some 87),(.load false [(.sl 2)] (.t 86)),0,none⟩,⟨(some 88),(.mv (.t 12)),0,none⟩,⟨(some 89),(.iaddr 2 (.t 87) (.t 88)),0,none⟩,⟨(some 90),(.load true [.str,(.int .i64)] (.t 89)),0,none⟩,⟨(some 91),(.iaddr 2 (.t 84) (.t 85)),0,none⟩,⟨none,(.store 2 (.t 91) (.t 90)),0,none⟩] (some [[],[0],[],[],[3],[],[4,5,3],[6,4,5,3],[1,2,0,3,4,5,6,7],[8,7,0,1,2,3,4,5,6]])) (.reg [⟨(some 92),(.mv (.t 11)),0,none⟩,⟨(some 93),(.bin .num .add (.t 92) (.c (.int .i64 1))),0,none⟩,⟨(some 11),(.mv (.t 93)),0,none⟩] none)) .skip))) (.reg [⟨(some 74),(.mv (.t 12)),0,none⟩,⟨(some 75),(.bin .num .add (.t 74) (.c (.int .i64 1))),0,none⟩,⟨(some 12),(.mv (.t 75)),0,none⟩] none)))))) (.seq (.reg [⟨(some 94),(.faddr 1 (.t 7)),0,none⟩,⟨(some 95),(.load false [(.sl 2)] (.t 94)),0,none⟩,⟨(some 96),(.mv (.t 11)),0,none⟩,⟨(some 97),(.slc 2 (.t 95) none (some (.t 96)) none),0,none⟩,⟨(some 98),(.faddr 1 (.t 7)),0,none⟩,⟨none,(.store 1 (.t 98) (.t 97)),0,none⟩] none) (.seq (.reg [⟨(some 99),(.load true [(.int .i64),(.sl 2)] (.t 7)),0,none⟩,⟨none,(.store 2 (.t 6) (.t 99)),0,none⟩] none) .ret)))))))))
def ZI:List IRes:=[(.cell true 2 6)]
abbrev NH:Nat:=100
def ZX:ZC:=Xn []
theorem b9e{G:AV×List AObj×List AObj->Prop}(l:Lin)(s:List UInt8)(c:Int)(h:At ZX 0 (Zj 0 ZI G) ZJ 0 100 [(1,(.pv (.str s))),(2,(.pv (.int .i64 c))),(3,(.ptr 0 0)),(6,(.ptr 1 0)),(7,(.ptr 2 0)),(8,(.pv (.bool false))),(9,(.pv (.int .i64 0)))] [(.obj (.box [(.pv (.int .i64 l.k)),(.pv (.sl 2 false (List.map enc l.t)))])),(.obj (.box [(.pv (.int .i64 0)),(.pv (.sl 0 true []))])),(.obj (.box [(.pv (.int .i64 l.k)),(.pv (.sl 0 true []))]))]):Zc ZX 0 (Zj 0 ZI G) ZJ [] (YH 100 [.pv (enc l),.pv (.str s),.pv (enc c)] []):=Zc.to (.nil) h (by kernel_rfl)
theorem a3x{G:AV×List AObj×List AObj->Prop}(l:Lin)(s:List UInt8)(c:Int)(p:Bool)(i:Int)(h:if (decide (i<(↑(List.length (List.map enc l.t)):Int)))=true then(decide (0<=i)&&decide (Int.toNat i<List.length (List.map enc l.t))&&Enc.sz Coef==2)=true∧(∃ y0:Coef,AV.pv (PV.rptr (PV.cells (List.getD (List.map enc l.t) (Int.toNat i) default)))=AV.pv (PV.rptr (PV.cells ((enc) y0)))∧(if (!p)=true then if (!(Op.bytesLess (PV.asStr (List.getD (PV.cells (enc y0)) 0 default)) s||PV.asStr (List.getD (PV.cells (enc y0)) 0 default)==s))=true then if (PV.asStr (List.getD (PV.cells (enc y0)) 0 default)==s)=true then At ZX 0 (Zj 0 ZI G) ZJ 0 100 [(1,(.pv (.str s))),(2,(.pv (.int .i64 c))),(3,(.ptr 0 0)),(6,(.ptr 1 0)),(7,(.ptr 2 0)),(8,(.pv (.bool true))),(9,(.pv (.int .i64 (IntKind.wrap IntKind.i64 (i+1)))))] [(.obj (.box [(.pv (.int .i64 l.k)),(.pv (.sl 2 false (List.map enc l.t)))])),(.obj (.box [(.pv (.int .i64 0)),(.pv (.sl 0 true []))])),(.obj (.box [(.pv (.int .i64 l.k)),(.row 3 2 0 2)])),(.obj (.row false 61 2 [(.agg [(.str s),(.int .i64 c)]),(.agg [(.str (PV.asStr (List.getD (PV.cells (enc y0)) 0 default))),(.int .i64 (IntKind.wrap IntKind.i64 (PV.asInt (List.getD (PV.cells (enc y0)) (0+1) default)+c)))])]))]else(At ZX 0 (Zj 0 ZI G) ZJ 0 100 [(1,(.pv (.str s))),(2,(.pv (.int .i64 c))),(3,(.ptr 0 0)),(6,(.ptr 1 0)),(7,(.ptr 2 0)),(8,(.pv (.bool true))),(9,(.pv (.int .i64 (IntKind.wrap IntKind.i64 (i+1)))))] [(.obj (.box [(.pv (.int .i64 l.k)),(.pv (.sl 2 false (List.map enc l.t)))])),(.obj (.box [(.pv (.int .i64 0)),(.pv (.sl 0 true []))])),(.obj (.box [(.pv (.int .i64 l.k)),(.row 3 2 0 2)])),(.obj (.row false 61 2 [(.agg [(.str s),(.int .i64 c)]),(.agg [(.str (PV.asStr (List.getD (PV.cells (enc y0)) 0 default))),(.int .i64 (PV.asInt (List.getD (PV.cells (enc y0)) (0+1) default)))])]))])else(if (PV.asStr (List.getD (PV.cells (enc y0)) 0 default)==s)=true then At ZX 0 (Zj 0 ZI G) ZJ 0 100 [(1,(.pv (.str s))),(2,(.pv (.int .i64 c))),(3,(.ptr 0 0)),(6,(.ptr 1 0)),(7,(.ptr 2 0)),(8,(.pv (.bool true))),(9,(.pv (.int .i64 (IntKind.wrap IntKind.i64 (i+1)))))] [(.obj (.box [(.pv (.int .i64 l.k)),(.pv (.sl 2 false (List.map enc l.t)))])),(.obj (.box [(.pv (.int .i64 0)),(.pv (.sl 0 true []))])),(.obj (.box [(.pv (.int .i64 l.k)),(.row 3 1 0 1)])),(.obj (.row false 61 2 [(.agg [(.str (PV.asStr (List.getD (PV.cells (enc y0)) 0 default))),(.int .i64 (IntKind.wrap IntKind.i64 (PV.asInt (List.getD (PV.cells (enc y0)) (0+1) default)+c)))])]))]else(At ZX 0 (Zj 0 ZI G) ZJ 0 100 [(1,(.pv (.str s))),(2,(.pv (.int .i64 c))),(3,(.ptr 0 0)),(6,(.ptr 1 0)),(7,(.ptr 2 0)),(8,(.pv (.bool p))),(9,(.pv (.int .i64 (IntKind.wrap IntKind.i64 (i+1)))))] [(.obj (.box [(.pv (.int .i64 l.k)),(.pv (.sl 2 false (List.map enc l.t)))])),(.obj (.box [(.pv (.int .i64 0)),(.pv (.sl 0 true []))])),(.obj (.box [(.pv (.int .i64 l.k)),(.row 3 1 0 1)])),(.obj (.row false 61 2 [(.agg [(.str (PV.asStr (List.getD (PV.cells (enc y0)) 0 default))),(.int .i64 (PV.asInt (List.getD (PV.cells (enc y0)) (0+1) default)))])]))]))else(if (PV.asStr (List.getD (PV.cells (enc y0)) 0 default)==s)=true then At ZX 0 (Zj 0 ZI G) ZJ 0 100 [(1,(.pv (.str s))),(2,(.pv (.int .i64 c))),(3,(.ptr 0 0)),(6,(.ptr 1 0)),(7,(.ptr 2 0)),(8,(.pv (.bool true))),(9,(.pv (.int .i64 (IntKind.wrap IntKind.i64 (i+1)))))] [(.obj (.box [(.pv (.int .i64 l.k)),(.pv (.sl 2 false (List.map enc l.t)))])),(.obj (.box [(.pv (.int .i64 0)),(.pv (.sl 0 true []))])),(.obj (.box [(.pv (.int .i64 l.k)),(.row 3 1 0 1)])),(.obj (.row false 61 2 [(.agg [(.str (PV.asStr (List.getD (PV.cells (enc y0)) 0 default))),(.int .i64 (IntKind.wrap IntKind.i64 (PV.asInt (List.getD (PV.cells (enc y0)) (0+1) default)+c)))])]))]else(At ZX 0 (Zj 0 ZI G) ZJ 0 100 [(1,(.pv (.str s))),(2,(.pv (.int .i64 c))),(3,(.ptr 0 0)),(6,(.ptr 1 0)),(7,(.ptr 2 0)),(8,(.pv (.bool p))),(9,(.pv (.int .i64 (IntKind.wrap IntKind.i64 (i+1)))))] [(.obj (.box [(.pv (.int .i64 l.k)),(.pv (.sl 2 false (List.map enc l.t)))])),(.obj (.box [(.pv (.int .i64 0)),(.pv (.sl 0 true []))])),(.obj (.box [(.pv (.int .i64 l.k)),(.row 3 1 0 1)])),(.obj (.row false 61 2 [(.agg [(.str (PV.asStr (List.getD (PV.cells (enc y0)) 0 default))),(.int .i64 (PV.asInt (List.getD (PV.cells (enc y0)) (0+1) default)))])]))]))))else(if (!p)=true then At ZX 0 (Zj 0 ZI G) ZJ 1 100 [(6,(.ptr 0 0)),(7,(.ptr 1 0)),(11,(.pv (.int .i64 0))),(12,(.pv (.int .i64 0)))] [(.obj (.box [(.pv (.int .i64 0)),(.pv (.sl 0 true []))])),(.obj (.box [(.pv (.int .i64 l.k)),(.row 2 1 0 1)])),(.obj (.row false 61 2 [(.agg [(.str s),(.int .i64 c)])]))]else(At ZX 0 (Zj 0 ZI G) ZJ 1 100 [(6,(.ptr 0 0)),(7,(.ptr 1 0)),(11,(.pv (.int .i64 0))),(12,(.pv (.int .i64 0)))] [(.obj (.box [(.pv (.int .i64 0)),(.pv (.sl 0 true []))])),(.obj (.box [(.pv (.int .i64 l.k)),(.pv (.sl 0 true []))]))]))):At ZX 0 (Zj 0 ZI G) ZJ 0 100 [(1,.pv (.str s)),(2,.pv (.int .i64 c)),(3,.ptr 0 0),(6,.ptr 1 0),(7,.ptr 2 0),(8,.pv (.bool p)),(9,.pv (.int .i64 i))] [.obj (.box [.pv (.int .i64 l.k),.pv (enc l.t)]),.obj (.box [.pv (.int .i64 0),.pv (.sl 0 true [])]),.obj (.box [.pv (.int .i64 l.k),.pv (.sl 0 true [])])]:=At.to (.lit (.ask (.req (.abs (Coef) (fun YY=>AV.pv (PV.rptr (PV.cells ((enc) YY)))) (.lit (.ask (.lit (.lit (.lit (.lit (.lit (.ask (.lit (.lit (.lit (.lit (.lit (.lit (.ask (.lit (.lit (.lit (.lit (.lit (.nil)))))) (.lit (.lit (.lit (.lit (.nil)))))))))))) (.lit (.ask (.lit (.lit (.lit (.lit (.lit (.lit (.lit (.nil)))))))) (.lit (.lit (.lit (.lit (.lit (.lit (.nil))))))))))))))) (.lit (.lit (.lit (.lit (.lit (.lit (.ask (.lit (.lit (.lit (.lit (.lit (.lit (.lit (.nil)))))))) (.lit (.lit (.lit (.lit (.lit (.lit (.nil)))))))))))))))))) (.ask (.lit (.lit (.lit (.lit (.lit (.nil)))))) (.nil)))) h (by kernel_rfl)
theorem Tx{G:AV×List AObj×List AObj->Prop}(l:Lin)(s:List UInt8)(c:Int)(j i:Int)(q:Nat)(ts:List Coef)(h:if (decide (i<(↑(q - 0):Int)))=true then(decide (0<=i)&&decide (0+Int.toNat i<q)&&List.length (List.map enc ts)==q)=true∧((List.length (List.map enc ts)==q&&decide (0+Int.toNat i<List.length (List.map enc ts)))=true∧((decide (0+1+List.length [Sh.int .i64]<=List.length (PV.cells (List.getD (List.map enc ts) (0+Int.toNat i) default)))&&XL (PV.cells (List.getD (List.map enc ts) (0+Int.toNat i) default)) (0+1) [Sh.int .i64])=true∧(if (PV.asInt (List.getD (PV.cells (List.getD (List.map enc ts) (0+Int.toNat i) default)) (0+1) default) != 0)=true then(decide (0<=i)&&decide (0+Int.toNat i<q)&&List.length (List.map enc ts)==q)=true∧((List.length (List.map enc ts)==q&&decide (0+Int.toNat i<List.length (List.map enc ts)))=true∧((decide (0+List.length [Sh.str,Sh.int .i64]<=List.length (PV.cells (List.getD (List.map enc ts) (0+Int.toNat i) default)))&&XL (PV.cells (List.getD (List.map enc ts) (0+Int.toNat i) default)) 0 [Sh.str,Sh.int .i64])=true∧((decide (0<=j)&&decide (0+Int.toNat j<q)&&List.length (List.map enc ts)==q)=true∧((List.length (List.map enc ts)==q&&decide (0+Int.toNat j<List.length (List.map enc ts))&&List.length (PV.cells (PV.agg (Qt (PV.cells (List.getD (List.map enc ts) (0+Int.toNat i) default)) 0 [Sh.str,Sh.int .i64])))==2&&decide (0+2<=List.length (PV.cells (List.getD (List.map enc ts) (0+Int.toNat j) default)))&&PV.cellsOk (PV.agg (Qt (PV.cells (List.getD (List.map enc ts) (0+Int.toNat i) default)) 0 [Sh.str,Sh.int .i64])))=true∧(At ZX 0 (Zj 0 ZI G) ZJ 1 100 [(6,(.ptr 0 0)),(7,(.ptr 1 0)),(11,(.pv (.int .i64 (IntKind.wrap IntKind.i64 (j+1))))),(12,(.pv (.int .i64 (IntKind.wrap IntKind.i64 (i+1)))))] [(.obj (.box [(.pv (.int .i64 0)),(.pv (.sl 0 true []))])),(.obj (.box [(.pv (.int .i64 l.k)),(.row 2 q 0 q)])),(.obj (.row false 61 2 (List.set (List.map enc ts) (0+Int.toNat j) (PV.withCells (List.getD (List.map enc ts) (0+Int.toNat j) default) (splice (PV.cells (List.getD (List.map enc ts) (0+Int.toNat j) default)) 0 (PV.cells (PV.agg (Qt (PV.cells (List.getD (List.map enc ts) (0+Int.toNat i) default)) 0 [Sh.str,Sh.int .i64]))))))))])))))else(At ZX 0 (Zj 0 ZI G) ZJ 1 100 [(6,(.ptr 0 0)),(7,(.ptr 1 0)),(11,(.pv (.int .i64 j))),(12,(.pv (.int .i64 (IntKind.wrap IntKind.i64 (i+1)))))] [(.obj (.box [(.pv (.int .i64 0)),(.pv (.sl 0 true []))])),(.obj (.box [(.pv (.int .i64 l.k)),(.row 2 q 0 q)])),(.obj (.row false 61 2 (List.map enc ts)))]))))else((true&&decide (0<=j)&&decide (0<=Int.toNat j)&&decide (0+Int.toNat j<=q)&&List.length (List.map enc ts)==q)=true∧(G (((.agg [(.pv (.int .i64 l.k)),(.row 0 q 0 (0+Int.toNat j))]),([],[(.row false 61 2 (List.map enc ts))])))))):At ZX 0 (Zj 0 ZI G) ZJ 1 100 [(6,.ptr 0 0),(7,.ptr 1 0),(11,.pv (.int .i64 j)),(12,.pv (.int .i64 i))] [.obj (.box [.pv (.int .i64 0),.pv (.sl 0 true [])]),.obj (.box [.pv (.int .i64 l.k),.row 2 q 0 q]),.obj (.row false 61 2 (ts.map enc))]:=At.to (.lit (.ask (.req (.keep (.req (.req (.lit (.ask (.req (.keep (.req (.req (.req (.keep (.req (.lit (.lit (.nil)))))))))) (.lit (.nil)))))))) (.req (.nil)))) h (by kernel_rfl)
theorem TN{G:AV×List AObj×List AObj->Prop}(l:Lin)(s:List UInt8)(c:Int)(p:Bool)(i:Int)(q:Nat)(ts:List Coef)(h:if (decide (i<(↑(List.length (List.map enc l.t)):Int)))=true then(decide (0<=i)&&decide (Int.toNat i<List.length (List.map enc l.t))&&Enc.sz Coef==2)=true∧(∃ y0:Coef,AV.pv (PV.rptr (PV.cells (List.getD (List.map enc l.t) (Int.toNat i) default)))=AV.pv (PV.rptr (PV.cells ((enc) y0)))∧(if (!p)=true then if (!(Op.bytesLess (PV.asStr (List.getD (PV.cells (enc y0)) 0 default)) s||PV.asStr (List.getD (PV.cells (enc y0)) 0 default)==s))=true then(List.length (List.map enc ts)==q&&q==q&&decide ((q+List.length (List.drop 0 (List.take 1 [PV.agg [PV.str s,PV.int .i64 c]])))*24<=1099511627776)&&decide (q+List.length (List.drop 0 (List.take 1 [PV.agg [PV.str s,PV.int .i64 c]]))<=1099511627776))=true∧(if (PV.asStr (List.getD (PV.cells (enc y0)) 0 default)==s)=true then(List.length (List.map enc ts++List.drop 0 (List.take 1 [PV.agg [PV.str s,PV.int .i64 c]]))==q+List.length (List.drop 0 (List.take 1 [PV.agg [PV.str s,PV.int .i64 c]]))&&q+List.length (List.drop 0 (List.take 1 [PV.agg [PV.str s,PV.int .i64 c]]))==q+List.length (List.drop 0 (List.take 1 [PV.agg [PV.str s,PV.int .i64 c]]))&&decide ((q+List.length (List.drop 0 (List.take 1 [PV.agg [PV.str s,PV.int .i64 c]]))+List.length (List.drop 0 (List.take 1 [PV.agg [Sh.co Sh.str (List.getD (PV.cells (enc y0)) 0 default),PV.int .i64 (IntKind.wrap IntKind.i64 (PV.asInt (List.getD (PV.cells (enc y0)) (0+1) default)+c))]])))*24<=1099511627776)&&decide (q+List.length (List.drop 0 (List.take 1 [PV.agg [PV.str s,PV.int .i64 c]]))+List.length (List.drop 0 (List.take 1 [PV.agg [Sh.co Sh.str (List.getD (PV.cells (enc y0)) 0 default),PV.int .i64 (IntKind.wrap IntKind.i64 (PV.asInt (List.getD (PV.cells (enc y0)) (0+1) default)+c))]]))<=1099511627776))=true∧(At ZX 0 (Zj 0 ZI G) ZJ 0 100 [(1,(.pv (.str s))),(2,(.pv (.int .i64 c))),(3,(.ptr 0 0)),(6,(.ptr 1 0)),(7,(.ptr 2 0)),(8,(.pv (.bool true))),(9,(.pv (.int .i64 (IntKind.wrap IntKind.i64 (i+1)))))] [(.obj (.box [(.pv (.int .i64 l.k)),(.pv (.sl 2 false (List.map enc l.t)))])),(.obj (.box [(.pv (.int .i64 0)),(.pv (.sl 0 true []))])),(.obj (.box [(.pv (.int .i64 l.k)),(.row 3 (q+List.length (List.drop 0 (List.take 1 [PV.agg [PV.str s,PV.int .i64 c]]))+List.length (List.drop 0 (List.take 1 [PV.agg [Sh.co Sh.str (List.getD (PV.cells (enc y0)) 0 default),PV.int .i64 (IntKind.wrap IntKind.i64 (PV.asInt (List.getD (PV.cells (enc y0)) (0+1) default)+c))]]))) 0 (q+List.length (List.drop 0 (List.take 1 [PV.agg [PV.str s,PV.int .i64 c]]))+List.length (List.drop 0 (List.take 1 [PV.agg [Sh.co Sh.str (List.getD (PV.cells (enc y0)) 0 default),PV.int .i64 (IntKind.wrap IntKind.i64 (PV.asInt (List.getD (PV.cells (enc y0)) (0+1) default)+c))]]))))])),(.obj (.row false 61 2 (List.map enc ts++List.drop 0 (List.take 1 [PV.agg [PV.str s,PV.int .i64 c]])++List.drop 0 (List.take 1 [PV.agg [Sh.co Sh.str (List.getD (PV.cells (enc y0)) 0 default),PV.int .i64 (IntKind.wrap IntKind.i64 (PV.asInt (List.getD (PV.cells (enc y0)) (0+1) default)+c))]]))))])else((List.length (List.map enc ts++List.drop 0 (List.take 1 [PV.agg [PV.str s,PV.int .i64 c]]))==q+List.length (List.drop 0 (List.take 1 [PV.agg [PV.str s,PV.int .i64 c]]))&&q+List.length (List.drop 0 (List.take 1 [PV.agg [PV.str s,PV.int .i64 c]]))==q+List.length (List.drop 0 (List.take 1 [PV.agg [PV.str s,PV.int .i64 c]]))&&decide ((q+List.length (List.drop 0 (List.take 1 [PV.agg [PV.str s,PV.int .i64 c]]))+List.length (List.drop 0 (List.take 1 [PV.agg [Sh.co Sh.str (List.getD (PV.cells (enc y0)) 0 default),Sh.co (Sh.int .i64) (List.getD (PV.cells (enc y0)) (0+1) default)]])))*24<=1099511627776)&&decide (q+List.length (List.drop 0 (List.take 1 [PV.agg [PV.str s,PV.int .i64 c]]))+List.length (List.drop 0 (List.take 1 [PV.agg [Sh.co Sh.str (List.getD (PV.cells (enc y0)) 0 default),Sh.co (Sh.int .i64) (List.getD (PV.cells (enc y0)) (0+1) default)]]))<=1099511627776))=true∧(At ZX 0 (Zj 0 ZI G) ZJ 0 100 [(1,(.pv (.str s))),(2,(.pv (.int .i64 c))),(3,(.ptr 0 0)),(6,(.ptr 1 0)),(7,(.ptr 2 0)),(8,(.pv (.bool true))),(9,(.pv (.int .i64 (IntKind.wrap IntKind.i64 (i+1)))))] [(.obj (.box [(.pv (.int .i64 l.k)),(.pv (.sl 2 false (List.map enc l.t)))])),(.obj (.box [(.pv (.int .i64 0)),(.pv (.sl 0 true []))])),(.obj (.box [(.pv (.int .i64 l.k)),(.row 3 (q+List.length (List.drop 0 (List.take 1 [PV.agg [PV.str s,PV.int .i64 c]]))+List.length (List.drop 0 (List.take 1 [PV.agg [Sh.co Sh.str (List.getD (PV.cells (enc y0)) 0 default),Sh.co (Sh.int .i64) (List.getD (PV.cells (enc y0)) (0+1) default)]]))) 0 (q+List.length (List.drop 0 (List.take 1 [PV.agg [PV.str s,PV.int .i64 c]]))+List.length (List.drop 0 (List.take 1 [PV.agg [Sh.co Sh.str (List.getD (PV.cells (enc y0)) 0 default),Sh.co (Sh.int .i64) (List.getD (PV.cells (enc y0)) (0+1) default)]]))))])),(.obj (.row false 61 2 (List.map enc ts++List.drop 0 (List.take 1 [PV.agg [PV.str s,PV.int .i64 c]])++List.drop 0 (List.take 1 [PV.agg [Sh.co Sh.str (List.getD (PV.cells (enc y0)) 0 default),Sh.co (Sh.int .i64) (List.getD (PV.cells (enc y0)) (0+1) default)]]))))])))else(if (PV.asStr (List.getD (PV.cells (enc y0)) 0 default)==s)=true then(List.length (List.map enc ts)==q&&q==q&&decide ((q+List.length (List.drop 0 (List.take 1 [PV.agg [Sh.co Sh.str (List.getD (PV.cells (enc y0)) 0 default),PV.int .i64 (IntKind.wrap IntKind.i64 (PV.asInt (List.getD (PV.cells (enc y0)) (0+1) default)+c))]])))*24<=1099511627776)&&decide (q+List.length (List.drop 0 (List.take 1 [PV.agg [Sh.co Sh.str (List.getD (PV.cells (enc y0)) 0 default),PV.int .i64 (IntKind.wrap IntKind.i64 (PV.asInt (List.getD (PV.cells (enc y0)) (0+1) default)+c))]]))<=1099511627776))=true∧(At ZX 0 (Zj 0 ZI G) ZJ 0 100 [(1,(.pv (.str s))),(2,(.pv (.int .i64 c))),(3,(.ptr 0 0)),(6,(.ptr 1 0)),(7,(.ptr 2 0)),(8,(.pv (.bool true))),(9,(.pv (.int .i64 (IntKind.wrap IntKind.i64 (i+1)))))] [(.obj (.box [(.pv (.int .i64 l.k)),(.pv (.sl 2 false (List.map enc l.t)))])),(.obj (.box [(.pv (.int .i64 0)),(.pv (.sl 0 true []))])),(.obj (.box [(.pv (.int .i64 l.k)),(.row 3 (q+List.length (List.drop 0 (List.take 1 [PV.agg [Sh.co Sh.str (List.getD (PV.cells (enc y0)) 0 default),PV.int .i64 (IntKind.wrap IntKind.i64 (PV.asInt (List.getD (PV.cells (enc y0)) (0+1) default)+c))]]))) 0 (q+List.length (List.drop 0 (List.take 1 [PV.agg [Sh.co Sh.str (List.getD (PV.cells (enc y0)) 0 default),PV.int .i64 (IntKind.wrap IntKind.i64 (PV.asInt (List.getD (PV.cells (enc y0)) (0+1) default)+c))]]))))])),(.obj (.row false 61 2 (List.map enc ts++List.drop 0 (List.take 1 [PV.agg [Sh.co Sh.str (List.getD (PV.cells (enc y0)) 0 default),PV.int .i64 (IntKind.wrap IntKind.i64 (PV.asInt (List.getD (PV.cells (enc y0)) (0+1) default)+c))]]))))])else((List.length (List.map enc ts)==q&&q==q&&decide ((q+List.length (List.drop 0 (List.take 1 [PV.agg [Sh.co Sh.str (List.getD (PV.cells (enc y0)) 0 default),Sh.co (Sh.int .i64) (List.getD (PV.cells (enc y0)) (0+1) default)]])))*24<=1099511627776)&&decide (q+List.length (List.drop 0 (List.take 1 [PV.agg [Sh.co Sh.str (List.getD (PV.cells (enc y0)) 0 default),Sh.co (Sh.int .i64) (List.getD (PV.cells (enc y0)) (0+1) default)]]))<=1099511627776))=true∧(At ZX 0 (Zj 0 ZI G) ZJ 0 100 [(1,(.pv (.str s))),(2,(.pv (.int .i64 c))),(3,(.ptr 0 0)),(6,(.ptr 1 0)),(7,(.ptr 2 0)),(8,(.pv (.bool p))),(9,(.pv (.int .i64 (IntKind.wrap IntKind.i64 (i+1)))))] [(.obj (.box [(.pv (.int .i64 l.k)),(.pv (.sl 2 false (List.map enc l.t)))])),(.obj (.box [(.pv (.int .i64 0)),(.pv (.sl 0 true []))])),(.obj (.box [(.pv (.int .i64 l.k)),(.row 3 (q+List.length (List.drop 0 (List.take 1 [PV.agg [Sh.co Sh.str (List.getD (PV.cells (enc y0)) 0 default),Sh.co (Sh.int .i64) (List.getD (PV.cells (enc y0)) (0+1) default)]]))) 0 (q+List.length (List.drop 0 (List.take 1 [PV.agg [Sh.co Sh.str (List.getD (PV.cells (enc y0)) 0 default),Sh.co (Sh.int .i64) (List.getD (PV.cells (enc y0)) (0+1) default)]]))))])),(.obj (.row false 61 2 (List.map enc ts++List.drop 0 (List.take 1 [PV.agg [Sh.co Sh.str (List.getD (PV.cells (enc y0)) 0 default),Sh.co (Sh.int .i64) (List.getD (PV.cells (enc y0)) (0+1) default)]]))))])))else(if (PV.asStr (List.getD (PV.cells (enc y0)) 0 default)==s)=true then(List.length (List.map enc ts)==q&&q==q&&decide ((q+List.length (List.drop 0 (List.take 1 [PV.agg [Sh.co Sh.str (List.getD (PV.cells (enc y0)) 0 default),PV.int .i64 (IntKind.wrap IntKind.i64 (PV.asInt (List.getD (PV.cells (enc y0)) (0+1) default)+c))]])))*24<=1099511627776)&&decide (q+List.length (List.drop 0 (List.take 1 [PV.agg [Sh.co Sh.str (List.getD (PV.cells (enc y0)) 0 default),PV.int .i64 (IntKind.wrap IntKind.i64 (PV.asInt (List.getD (PV.cells (enc y0)) (0+1) default)+c))]]))<=1099511627776))=true∧(At ZX 0 (Zj 0 ZI G) ZJ 0 100 [(1,(.pv (.str s))),(2,(.pv (.int .i64 c))),(3,(.ptr 0 0)),(6,(.ptr 1 0)),(7,(.ptr 2 0)),(8,(.pv (.bool true))),(9,(.pv (.int .i64 (IntKind.wrap IntKind.i64 (i+1)))))] [(.obj (.box [(.pv (.int .i64 l.k)),(.pv (.sl 2 false (List.map enc l.t)))])),(.obj (.box [(.pv (.int .i64 0)),(.pv (.sl 0 true []))])),(.obj (.box [(.pv (.int .i64 l.k)),(.row 3 (q+List.length (List.drop 0 (List.take 1 [PV.agg [Sh.co Sh.str (List.getD (PV.cells (enc y0)) 0 default),PV.int .i64 (IntKind.wrap IntKind.i64 (PV.asInt (List.getD (PV.cells (enc y0)) (0+1) default)+c))]]))) 0 (q+List.length (List.drop 0 (List.take 1 [PV.agg [Sh.co Sh.str (List.getD (PV.cells (enc y0)) 0 default),PV.int .i64 (IntKind.wrap IntKind.i64 (PV.asInt (List.getD (PV.cells (enc y0)) (0+1) default)+c))]]))))])),(.obj (.row false 61 2 (List.map enc ts++List.drop 0 (List.take 1 [PV.agg [Sh.co Sh.str (List.getD (PV.cells (enc y0)) 0 default),PV.int .i64 (IntKind.wrap IntKind.i64 (PV.asInt (List.getD (PV.cells (enc y0)) (0+1) default)+c))]]))))])else((List.length (List.map enc ts)==q&&q==q&&decide ((q+List.length (List.drop 0 (List.take 1 [PV.agg [Sh.co Sh.str (List.getD (PV.cells (enc y0)) 0 default),Sh.co (Sh.int .i64) (List.getD (PV.cells (enc y0)) (0+1) default)]])))*24<=1099511627776)&&decide (q+List.length (List.drop 0 (List.take 1 [PV.agg [Sh.co Sh.str (List.getD (PV.cells (enc y0)) 0 default),Sh.co (Sh.int .i64) (List.getD (PV.cells (enc y0)) (0+1) default)]]))<=1099511627776))=true∧(At ZX 0 (Zj 0 ZI G) ZJ 0 100 [(1,(.pv (.str s))),(2,(.pv (.int .i64 c))),(3,(.ptr 0 0)),(6,(.ptr 1 0)),(7,(.ptr 2 0)),(8,(.pv (.bool p))),(9,(.pv (.int .i64 (IntKind.wrap IntKind.i64 (i+1)))))] [(.obj (.box [(.pv (.int .i64 l.k)),(.pv (.sl 2 false (List.map enc l.t)))])),(.obj (.box [(.pv (.int .i64 0)),(.pv (.sl 0 true []))])),(.obj (.box [(.pv (.int .i64 l.k)),(.row 3 (q+List.length (List.drop 0 (List.take 1 [PV.agg [Sh.co Sh.str (List.getD (PV.cells (enc y0)) 0 default),Sh.co (Sh.int .i64) (List.getD (PV.cells (enc y0)) (0+1) default)]]))) 0 (q+List.length (List.drop 0 (List.take 1 [PV.agg [Sh.co Sh.str (List.getD (PV.cells (enc y0)) 0 default),Sh.co (Sh.int .i64) (List.getD (PV.cells (enc y0)) (0+1) default)]]))))])),(.obj (.row false 61 2 (List.map enc ts++List.drop 0 (List.take 1 [PV.agg [Sh.co Sh.str (List.getD (PV.cells (enc y0)) 0 default),Sh.co (Sh.int .i64) (List.getD (PV.cells (enc y0)) (0+1) default)]]))))])))))else(if (!p)=true then(List.length (List.map enc ts)==q&&q==q&&decide ((q+List.length (List.drop 0 (List.take 1 [PV.agg [PV.str s,PV.int .i64 c]])))*24<=1099511627776)&&decide (q+List.length (List.drop 0 (List.take 1 [PV.agg [PV.str s,PV.int .i64 c]]))<=1099511627776))=true∧(At ZX 0 (Zj 0 ZI G) ZJ 1 100 [(6,(.ptr 0 0)),(7,(.ptr 1 0)),(11,(.pv (.int .i64 0))),(12,(.pv (.int .i64 0)))] [(.obj (.box [(.pv (.int .i64 0)),(.pv (.sl 0 true []))])),(.obj (.box [(.pv (.int .i64 l.k)),(.row 2 (q+List.length (List.drop 0 (List.take 1 [PV.agg [PV.str s,PV.int .i64 c]]))) 0 (q+List.length (List.drop 0 (List.take 1 [PV.agg [PV.str s,PV.int .i64 c]]))))])),(.obj (.row false 61 2 (List.map enc ts++List.drop 0 (List.take 1 [PV.agg [PV.str s,PV.int .i64 c]]))))])else(At ZX 0 (Zj 0 ZI G) ZJ 1 100 [(6,(.ptr 0 0)),(7,(.ptr 1 0)),(11,(.pv (.int .i64 0))),(12,(.pv (.int .i64 0)))] [(.obj (.box [(.pv (.int .i64 0)),(.pv (.sl 0 true []))])),(.obj (.box [(.pv (.int .i64 l.k)),(.row 2 q 0 q)])),(.obj (.row false 61 2 (List.map enc ts)))]))):At ZX 0 (Zj 0 ZI G) ZJ 0 100 [(1,.pv (.str s)),(2,.pv (.int .i64 c)),(3,.ptr 0 0),(6,.ptr 1 0),(7,.ptr 2 0),(8,.pv (.bool p)),(9,.pv (.int .i64 i))] [.obj (.box [.pv (.int .i64 l.k),.pv (enc l.t)]),.obj (.box [.pv (.int .i64 0),.pv (.sl 0 true [])]),.obj (.box [.pv (.int .i64 l.k),.row 3 q 0 q]),.obj (.row false 61 2 (ts.map enc))]:=At.to (.lit (.ask (.req (.abs (Coef) (fun YY=>AV.pv (PV.rptr (PV.cells ((enc) YY)))) (.lit (.ask (.lit (.lit (.lit (.lit (.lit (.ask (.lit (.lit (.req (.lit (.ask (.lit (.lit (.lit (.req (.lit (.nil)))))) (.lit (.lit (.req (.lit (.nil)))))))))) (.lit (.ask (.lit (.lit (.lit (.req (.lit (.nil)))))) (.lit (.lit (.req (.lit (.nil))))))))))))) (.lit (.lit (.lit (.lit (.lit (.lit (.ask (.lit (.lit (.lit (.req (.lit (.nil)))))) (.lit (.lit (.req (.lit (.nil)))))))))))))))) (.ask (.lit (.lit (.req (.nil)))) (.nil)))) h (by kernel_rfl)
def WP:IC:=(.seq (.reg [⟨(some 3),(.box 2 (.t 0)),0,none⟩,⟨(some 4),(.box 2 (.t 1)),1,none⟩,⟨(some 6),(.alloc (.agg [(.int .i64 0),(.sl 0 true [])])),2,none⟩] none) (.seq (.reg [⟨(some 9),(.faddr 0 (.t 3)),0,none⟩,⟨(some 10),(.load false [(.int .i64)] (.t 9)),0,none⟩,⟨(some 11),(.mv (.t 2)),0,none⟩,⟨(some 12),(.faddr 0 (.t 4)),0,none⟩,⟨(some 13),(.load false [(.int .i64)] (.t 12)),0,none⟩,⟨(some 14),(.bin .num .mul (.t 11) (.t 13)),0,none⟩,⟨(some 15),(.bin .num .add (.t 10) (.t 14)),0,none⟩,⟨(some 16),(.bslice 61 2 0 (.agg [(.str []),(.int .i64 0)]) []),0,none⟩,⟨(some 17),(.faddr 1 (.t 3)),1,none⟩,⟨(some 18),(.load false [(.sl 2)] (.t 17)),1,none⟩,⟨(some 19),(.append 61 2 24 (.t 16) (.t 18)),1,none⟩,⟨(some 20),(.build [(.int .i64 0),(.sl 0 true [])] [(0,(1,(.t 15))),(1,(1,(.t 19)))]),2,none⟩,⟨(some 7),(.alloc (.agg [(.int .i64 0),(.sl 0 true [])])),2,none⟩,⟨none,(.store 2 (.t 7) (.t 20)),3,none⟩] (some [[],[0],[],[],[3],[2,4,3],[1,5,0,2,4,3],[],[],[8],[7,9,8],[6,10,1,5,0,2,4,3,7,9,8],[],[12,11,10,0,1,2,3,4,5,6,7,8,9]])) (.seq (.seq (.reg [⟨(some 8),(.mv (.c (.int .i64 0))),0,none⟩] none) (.block 0 (.loop [8,4,7,2,6] (.seq (.seq (.reg [⟨(some 21),(.mv (.t 8)),0,none⟩,⟨(some 22),(.faddr 1 (.t 4)),0,none⟩,⟨(some 23),(.load false [(.sl 2)] (.t 22)),0,none⟩,⟨(some 24),(.len 1 (.t 23)),0,none⟩,⟨(some 25),(.bin .num .lss (.t 21) (.t 24)),0,none⟩] none) (.cond (.t 25) .skip (.exit 0))) (.seq (.block 1 (.reg [⟨(some 28),(.load true [(.int .i64),(.sl 2)] (.t 7)),0,none⟩,⟨(some 29),(.faddr 1 (.t 4)),0,none⟩,⟨(some 30),(.load false [(.sl 2)] (.t 29)),0,none⟩,⟨(some 31),(.mv (.t 8)),0,none⟩,⟨(some 32),(.iaddr 2 (.t 30) (.t 31)),0,none⟩,⟨(some 33),(.faddr 0 (.t 32)),0,none⟩,⟨(some 34),(.load false [.str] (.t 33)),0,none⟩,⟨(some 35),(.mv (.t 2)),0,none⟩,⟨(some 36),(.faddr 1 (.t 4)),0,none⟩,⟨(some 37),(.load false [(.sl 2)] (.t 36)),0,none⟩,⟨(some 38),(.mv (.t 8)),0,none⟩,⟨(some 39),(.iaddr 2 (.t 37) (.t 38)),0,none⟩,⟨(some 40),(.faddr 1 (.t 39)),0,none⟩,⟨(some 41),(.load false [(.int .i64)] (.t 40)),0,none⟩,⟨(some 42),(.bin .num .mul (.t 35) (.t 41)),0,none⟩,⟨(some 43),(.call (.c (.fn 89)) [(.t 28),(.t 34),(.t 42)]),0,none⟩,⟨none,(.store 2 (.t 7) (.t 43)),2,none⟩] (some [[],[],[1],[],[2,3,1],[4,2,3,1],[5,4,2,3,1],[],[],[8],[],[9,10,8],[11,9,10,8],[12,11,9,10,8],[7,13,12,11,9,10,8],[0,6,14,5,4,2,3,1,7,13,12,11,9,10,8],[15,0,1,2,3,4,5,6,7,8,9,10,11,12,13,14]]))) (.reg [⟨(some 26),(.mv (.t 8)),0,none⟩,⟨(some 27),(.bin .num .add (.t 26) (.c (.int .i64 1))),0,none⟩,⟨(some 8),(.mv (.t 27)),0,none⟩] none)))))) (.seq (.reg [⟨(some 44),(.load true [(.int .i64),(.sl 2)] (.t 7)),0,none⟩,⟨none,(.store 2 (.t 6) (.t 44)),0,none⟩] none) .ret))))
def WO:List IRes:=[(.cell true 2 6)]
abbrev Tq:Nat:=45
def VU:ZC:=Xn [(89,.own Qi KS)]
theorem b5c{G:AV×List AObj×List AObj->Prop}(l x:Lin)(k:Int)(h:(List.isEmpty (List.map enc l.t)||Enc.sz Coef==2)=true∧((List.length ([]:List PV)==0&&0==0&&decide ((0+List.length (List.map enc l.t))*24<=1099511627776)&&decide (0+List.length (List.map enc l.t)<=1099511627776))=true∧(At VU 0 (Zj 0 WO G) WP 0 45 [(2,(.pv (.int .i64 k))),(4,(.ptr 0 0)),(6,(.ptr 1 0)),(7,(.ptr 2 0)),(8,(.pv (.int .i64 0)))] [(.obj (.box [(.pv (.int .i64 x.k)),(.pv (.sl 2 false (List.map enc x.t)))])),(.obj (.box [(.pv (.int .i64 0)),(.pv (.sl 0 true []))])),(.obj (.box [(.pv (.int .i64 (IntKind.wrap IntKind.i64 (l.k+IntKind.wrap IntKind.i64 (k*x.k))))),(.row 3 (0+List.length (List.map enc l.t)) 0 (0+List.length (List.map enc l.t)))])),(.obj (.row false 61 2 (([]:List PV)++List.map enc l.t)))]))):Zc VU 0 (Zj 0 WO G) WP [] (YH 45 [.pv (enc l),.pv (enc x),.pv (enc k)] []):=Zc.to (.lit (.lit (.lit (.req (.req (.nil)))))) h (by kernel_rfl)
theorem Sa{G:AV×List AObj×List AObj->Prop}(l x:Lin)(k:Int)(c:Int)(q w:Nat)(ts:List Coef)(i:Int)(h:if (decide (i<(↑(List.length (List.map enc x.t)):Int)))=true then(decide (0<=i)&&decide (Int.toNat i<List.length (List.map enc x.t))&&Enc.sz Coef==2)=true∧(∃ y0:Coef,AV.pv (PV.rptr (PV.cells (List.getD (List.map enc x.t) (Int.toNat i) default)))=AV.pv (PV.rptr (PV.cells ((enc) y0)))∧((decide (0<=i)&&decide (Int.toNat i<List.length (List.map enc x.t))&&Enc.sz Coef==2)=true∧(∃ y1:Coef,AV.pv (PV.rptr (PV.cells (List.getD (List.map enc x.t) (Int.toNat i) default)))=AV.pv (PV.rptr (PV.cells ((enc) y1)))∧((Qi [(.agg [(.pv (.int .i64 c)),(.row 0 q 0 w)]),(.pv (.str (PV.asStr (List.getD (List.drop 0 (PV.cells (enc y0))) 0 default)))),(.pv (.int .i64 (IntKind.wrap IntKind.i64 (k*PV.asInt (List.getD (List.drop 1 (PV.cells (enc y1))) 0 default)))))] [(.row false 61 2 (List.map enc ts))])=true∧(At VU 0 (Zj 0 WO G) WP 0 45 [(2,(.pv (.int .i64 k))),(4,(.ptr 0 0)),(6,(.ptr 1 0)),(7,(.ptr 2 0)),(8,(.pv (.int .i64 (IntKind.wrap IntKind.i64 (i+1)))))] [(.obj (.box [(.pv (.int .i64 x.k)),(.pv (.sl 2 false (List.map enc x.t)))])),(.obj (.box [(.pv (.int .i64 0)),(.pv (.sl 0 true []))])),(.obj (.box [(.pv (.int .i64 (LR.k (Xz (Fg c w (List.map enc ts)) (Str.mk (PV.asStr (List.getD (List.drop 0 (PV.cells (enc y0))) 0 default))) (IntKind.wrap IntKind.i64 (k*PV.asInt (List.getD (List.drop 1 (PV.cells (enc y1))) 0 default))))))),(.row 3 (List.length (LR.ts (Xz (Fg c w (List.map enc ts)) (Str.mk (PV.asStr (List.getD (List.drop 0 (PV.cells (enc y0))) 0 default))) (IntKind.wrap IntKind.i64 (k*PV.asInt (List.getD (List.drop 1 (PV.cells (enc y1))) 0 default)))))) 0 (LR.w (Xz (Fg c w (List.map enc ts)) (Str.mk (PV.asStr (List.getD (List.drop 0 (PV.cells (enc y0))) 0 default))) (IntKind.wrap IntKind.i64 (k*PV.asInt (List.getD (List.drop 1 (PV.cells (enc y1))) 0 default))))))])),(.obj (.row false 61 2 (List.map enc (LR.ts (Xz (Fg c w (List.map enc ts)) (Str.mk (PV.asStr (List.getD (List.drop 0 (PV.cells (enc y0))) 0 default))) (IntKind.wrap IntKind.i64 (k*PV.asInt (List.getD (List.drop 1 (PV.cells (enc y1))) 0 default))))))))])))))else(G (((.agg [(.pv (.int .i64 c)),(.row 0 q 0 w)]),([],[(.row false 61 2 (List.map enc ts))]))))):At VU 0 (Zj 0 WO G) WP 0 45 [(2,.pv (.int .i64 k)),(4,.ptr 0 0),(6,.ptr 1 0),(7,.ptr 2 0),(8,.pv (.int .i64 i))] [.obj (.box [.pv (.int .i64 x.k),.pv (enc x.t)]),.obj (.box [.pv (.int .i64 0),.pv (.sl 0 true [])]),.obj (.box [.pv (.int .i64 c),.row 3 q 0 w]),.obj (.row false 61 2 (ts.map enc))]:=At.to (.lit (.ask (.req (.abs (Coef) (fun YY=>AV.pv (PV.rptr (PV.cells ((enc) YY)))) (.lit (.req (.abs (Coef) (fun YY=>AV.pv (PV.rptr (PV.cells ((enc) YY)))) (.lit (.lit (.req (.keep (.lit (.nil))))))))))) (.nil))) h (by kernel_rfl)
end Go.Pl

namespace Go.Pl
open Go.RowKit
open Enc (enc dec is)
open EncL (encL decL isL)
theorem b8l{ts:List Coef}{i:Nat}(h:i<ts.length):ts.getD i ⟨⟨[]⟩,0⟩=ts[i]:=by simp[List.getD,h]
theorem b3m(l:Lin)(s:List UInt8)(c:Int)(q:Nat)(ho:q<=2000000): ∀ (m i j:Nat) (ts:List Coef),m+i=q->ts.length=q->j<=i ->
  At ZX 0 (Zj 0 ZI (fun r=>r=V3 ⟨l.k,(V6 m i j ts).2,(V6 m i j ts).1⟩ 0 [])) ZJ 1 100 [(6,.ptr 0 0),(7,.ptr 1 0),(11,.pv (.int .i64 j)),(12,.pv (.int .i64 i))] [.obj (.box [.pv (.int .i64 0),.pv (.sl 0 true [])]),.obj (.box [.pv (.int .i64 l.k),.row 2 q 0 q]),.obj (.row false 61 2 (ts.map enc))]:=by
 intro m
 induction m with
 | zero=>
  intro i j ts hm hts hji
  refine Tx l s c j i q ts (Z8 (by simp;omega) ?_)
  refine⟨by simp[hts];omega,?_⟩
  subst hts
  simp only[Int.toNat_natCast,Nat.zero_add]
  rfl
 | succ m ih=>
  intro i j ts hm hts hji
  have hi':i<ts.length:=by omega
  have hj':j<ts.length:=by omega
  refine Tx l s c j i q ts ?_
  simp only[b0e enc hi',b0e enc hj']
  refine Ya (by simp;omega) ⟨by simp;omega,by simp;omega,rfl,?_⟩
  rw[V6,b8l hi']
  by_cases hz:ts[i].c=0
  ·refine Z8 (by show ¬ (ts[i].c != 0)=true;simp[hz]) ?_
   rw[next (by omega),if_pos hz]
   exact ih (i+1) j ts (by omega) hts (by omega)
  ·refine Ya (by show(ts[i].c != 0)=true;simp[hz]) ⟨by simp;omega,by simp;omega,rfl,by simp;omega,?_,?_⟩
   ·simp only[List.length_map,hts,beq_self_eq_true,Bool.true_and,Nat.zero_add,Int.toNat_natCast,decide_eq_true (show j<q by omega)]
    rfl
   ·rw[Nat.zero_add,Int.toNat_natCast,a9n,next (by omega),next (by omega),if_neg hz]
    exact ih (i+1) (j+1) (ts.set j ts[i]) (by omega) (by simp[hts]) (by omega)
theorem GV(l:Lin)(s:List UInt8)(c:Int)(o:List Coef)(ho:o.length<=2000000):
  At ZX 0 (Zj 0 ZI (fun r=>r=V3 (Kh l.k o) 0 [])) ZJ 1 100 [(6,.ptr 0 0),(7,.ptr 1 0),(11,.pv (.int .i64 0)),(12,.pv (.int .i64 0))] [.obj (.box [.pv (.int .i64 0),.pv (.sl 0 true [])]),.obj (.box [.pv (.int .i64 l.k),.row 2 o.length 0 o.length]),.obj (.row false 61 2 (o.map enc))]:=
 b3m l s c o.length ho o.length 0 0 o (by omega) rfl (by omega)
theorem b2s(l:Lin)(s:List UInt8)(c:Int)(hl:l.t.length<=1000000): ∀ (m i:Nat) (p:Bool) (q:Nat) (ts:List Coef),m+i=l.t.length->q=ts.length->(p=false->ts.length<=i)->ts.length<=i+1 ->
  At ZX 0 (Zj 0 ZI (fun r=>r=V3 (Kh l.k (ts++Xt ⟨s⟩ c p (l.t.drop i))) 0 [])) ZJ 0 100 [(1,.pv (.str s)),(2,.pv (.int .i64 c)),(3,.ptr 0 0),(6,.ptr 1 0),(7,.ptr 2 0),(8,.pv (.bool p)),(9,.pv (.int .i64 i))]
   [.obj (.box [.pv (.int .i64 l.k),.pv (enc l.t)]),.obj (.box [.pv (.int .i64 0),.pv (.sl 0 true [])]),.obj (.box [.pv (.int .i64 l.k),.row 3 q 0 q]),.obj (.row false 61 2 (ts.map enc))]:=by
 intro m
 induction m with
 | zero=>
  intro i p q ts hm hq h1 h2
  refine TN l s c p i q ts (Z8 (Gh (by omega)) ?_)
  rw[List.drop_of_length_le (show l.t.length<=i by omega)]
  refine Vj (fun hp=> ?_) fun hp=> ?_
  ·subst hp
   refine⟨by simp[hq];omega,?_⟩
   have h:=GV l s c (ts++[⟨⟨s⟩,c⟩]) (by simp;omega)
   rw[List.map_append,List.length_append,<- hq]at h
   rw[Xt]
   exact h
  ·subst hp
   have h:=GV l s c ts (by omega)
   rw[<- hq]at h
   rw[Xt,if_pos rfl,List.append_nil]
   exact h
 | succ m ih=>
  intro i p q ts hm hq h1 h2
  have hlt:i<l.t.length:=by omega
  refine TN l s c p i q ts (Ya (H6 hlt) ⟨ZG hlt rfl,Z0 hlt ?_⟩)
  rw[List.drop_eq_getElem_cons hlt,next (by omega)]
  have key : ∀ (p':Bool) (add:List Coef),add.length<=2->(p'=false->(ts++add).length<=i+1)->(ts++add).length<=i+2->ts++Xt ⟨s⟩ c p (l.t[i]::l.t.drop (i+1))=(ts++add)++Xt ⟨s⟩ c p' (l.t.drop (i+1)) ->
    At ZX 0 (Zj 0 ZI (fun r=>r=V3 (Kh l.k (ts++Xt ⟨s⟩ c p (l.t[i]::l.t.drop (i+1)))) 0 [])) ZJ 0 100 [(1,.pv (.str s)),(2,.pv (.int .i64 c)),(3,.ptr 0 0),(6,.ptr 1 0),(7,.ptr 2 0),(8,.pv (.bool p')),(9,.pv (.int .i64 ((i+1:Nat):Int)))]
     [.obj (.box [.pv (.int .i64 l.k),.pv (enc l.t)]),.obj (.box [.pv (.int .i64 0),.pv (.sl 0 true [])]),.obj (.box [.pv (.int .i64 l.k),.row 3 (q+add.length) 0 (q+add.length)]),.obj (.row false 61 2 (ts.map enc++add.map enc))]:=by
   intro p' add h3 h4 h5 h6
   rw[h6,<- List.map_append]
   exact ih (i+1) p' (q+add.length) (ts++add) (by omega) (by simp[hq]) h4 h5
  generalize l.t[i]=y at key ⊢
  obtain⟨⟨yv⟩,yc⟩:=y
  subst hq
  refine Vj (fun hp=> ?_) fun hp=> ?_
  ·subst hp
   have hle:=h1 rfl
   refine Vj (fun hb=> ?_) fun hb=> ?_
   ·have hb:(Op.bytesLess yv s||yv==s)=false:=hb
    have hlt2:s<yv:=by
     simp only[YT,Bool.or_eq_false_iff,decide_eq_false_iff_not,beq_eq_false_iff_ne]at hb
     exact tri hb.1 hb.2
    have hne : ¬ yv=s:=fun e=>by rw[e]at hlt2;exact List.lt_irrefl _ hlt2
    refine⟨by simp;omega,Gj (fun h=>absurd h hne) fun _=>⟨by simp;omega,?_⟩⟩
    have:=key true [⟨⟨s⟩,c⟩,⟨⟨yv⟩,yc⟩] (by simp) (fun h=>by cases h) (by simp;omega) (by rw[Jj,if_pos hlt2];simp)
    rw[List.append_assoc]
    exact this
   ·have hb:(Op.bytesLess yv s||yv==s)=true:=hb
    have hnl : ¬ s<yv:=by
     simp only[YT,Bool.or_eq_true,decide_eq_true_eq,beq_iff_eq]at hb
     rcases hb with h|h
     ·exact List.lt_asymm h
     ·rw[h];exact List.lt_irrefl _
    refine Gj (fun h=> ?_) fun h=> ?_
    ·have h:yv=s:=h
     subst h
     refine⟨by simp;omega,?_⟩
     exact key true [⟨⟨yv⟩,YV (yc+c)⟩] (by simp) (fun h=>by cases h) (by simp;omega) (by rw[Jj,if_neg hnl,if_pos rfl];simp)
    ·have h:yv≠s:=h
     refine⟨by simp;omega,?_⟩
     exact key false [⟨⟨yv⟩,yc⟩] (by simp) (fun _=>by simp;omega) (by simp;omega) (by rw[Jj,if_neg hnl,if_neg (by rw[KO];exact h)];simp)
  ·subst hp
   refine Gj (fun h=> ?_) fun h=> ?_
   ·have h:yv=s:=h
    subst h
    refine⟨by simp;omega,?_⟩
    exact key true [⟨⟨yv⟩,YV (yc+c)⟩] (by simp) (fun h=>by cases h) (by simp;omega) (by rw[a1j,if_pos rfl];simp)
   ·have h:yv≠s:=h
    refine⟨by simp;omega,?_⟩
    exact key true [⟨⟨yv⟩,yc⟩] (by simp) (fun h=>by cases h) (by simp;omega) (by rw[a1j,if_neg (by rw[KO];exact h)];simp)
theorem a6o(l:Lin)(s:List UInt8)(c:Int)(hl:l.t.length<=1000000):Zc ZX 0 (Zj 0 ZI (fun r=>r=V3 (Xz l ⟨s⟩ c) 0 [])) ZJ [] (YH NH [.pv (enc l),.pv (.str s),.pv (enc c)] []):=by
 refine b9e l s c (a3x l s c false 0 ?_)
 show if _ then _ else(if _ then At ZX 0 (Zj 0 ZI (fun r=>r=V3 (Kh l.k (Xt ⟨s⟩ c false l.t)) 0 [])) _ _ _ _ _ else _)
 by_cases h0:l.t=[]
 ·refine Z8 (by simp[h0]) (Ya rfl ?_)
  have h:=GV l s c [⟨⟨s⟩,c⟩] (by simp)
  rw[h0,Xt]
  exact h
 ·have hlt:0<l.t.length:=List.length_pos_iff.2 h0
  refine Ya (by simp;omega) ⟨by simp[Enc.sz];omega,Z0 hlt ?_⟩
  have ed:l.t=l.t[0]::l.t.drop 1:=by
   have:=List.drop_eq_getElem_cons hlt
   rwa [List.drop_zero]at this
  have key : ∀ (p':Bool) (add:List Coef),add.length<=2->(p'=false->add.length<=1)->Xt ⟨s⟩ c false (l.t[0]::l.t.drop 1)=add++Xt ⟨s⟩ c p' (l.t.drop 1) ->
    At ZX 0 (Zj 0 ZI (fun r=>r=V3 (Kh l.k (Xt ⟨s⟩ c false l.t)) 0 [])) ZJ 0 100 [(1,.pv (.str s)),(2,.pv (.int .i64 c)),(3,.ptr 0 0),(6,.ptr 1 0),(7,.ptr 2 0),(8,.pv (.bool p')),(9,.pv (.int .i64 ((0+1:Nat):Int)))]
     [.obj (.box [.pv (.int .i64 l.k),.pv (enc l.t)]),.obj (.box [.pv (.int .i64 0),.pv (.sl 0 true [])]),.obj (.box [.pv (.int .i64 l.k),.row 3 add.length 0 add.length]),.obj (.row false 61 2 (add.map enc))]:=by
   intro p' add h3 h4 h6
   have h7:Xt ⟨s⟩ c false l.t=add++Xt ⟨s⟩ c p' (l.t.drop 1):=by rw[<- h6,<- ed]
   rw[h7]
   exact b2s l s c hl (l.t.length - 1) (0+1) p' add.length add (by omega) rfl (fun h=>h4 h) (by omega)
  rw[show IntKind.wrap IntKind.i64 (0+1)=((0+1:Nat):Int)from rfl]
  generalize l.t[0]=y at key ⊢
  obtain⟨⟨yv⟩,yc⟩:=y
  refine Ya rfl ?_
  refine Vj (fun hb=> ?_) fun hb=> ?_
  ·have hb:(Op.bytesLess yv s||yv==s)=false:=hb
   have hlt2:s<yv:=by
    simp only[YT,Bool.or_eq_false_iff,decide_eq_false_iff_not,beq_eq_false_iff_ne]at hb
    exact tri hb.1 hb.2
   have hne : ¬ yv=s:=fun e=>by rw[e]at hlt2;exact List.lt_irrefl _ hlt2
   refine Gj (fun h=>absurd h hne) fun _=> ?_
   exact key true [⟨⟨s⟩,c⟩,⟨⟨yv⟩,yc⟩] (by simp) (fun h=>by cases h) (by rw[Jj,if_pos hlt2];simp)
  ·have hb:(Op.bytesLess yv s||yv==s)=true:=hb
   have hnl : ¬ s<yv:=by
    simp only[YT,Bool.or_eq_true,decide_eq_true_eq,beq_iff_eq]at hb
    rcases hb with h|h
    ·exact List.lt_asymm h
    ·rw[h];exact List.lt_irrefl _
   refine Gj (fun h=> ?_) fun h=> ?_
   ·have h:yv=s:=h
    subst h
    exact key true [⟨⟨yv⟩,YV (yc+c)⟩] (by simp) (fun h=>by cases h) (by rw[Jj,if_neg hnl,if_pos rfl];simp)
   ·have h:yv≠s:=h
    exact key false [⟨⟨yv⟩,yc⟩] (by simp) (fun _=>by simp) (by rw[Jj,if_neg hnl,if_neg (by rw[KO];exact h)];simp)
theorem a6g: ∀ args os,Ui args os=true->Zc ZX os.length (Zj os.length ZI fun r=>r=Uf args os) ZJ [] (YH NH args os):=by
 intro args os h
 unfold Ui at h
 split at h
 ·rename_i l s c
  simp only[Bool.and_eq_true,decide_eq_true_eq]at h
  obtain⟨hl,h1⟩:=h
  obtain⟨l,rfl⟩:=Ym hl
  rw[Enc.dec_enc]at h1
  have ev:Uf [.pv (enc l),.pv (.str s),.pv (.int .i64 c)] []=V3 (Xz l ⟨s⟩ c) 0 []:=by
   show V3 (Xz (dec (enc l:PV)) ⟨s⟩ c) 0 []=_
   rw[Enc.dec_enc]
  rw[ev]
  exact a6o l s c h1
 ·cases h
end Go.Pl

namespace Go.Pl
open Go.RowKit
open Enc (enc dec is)
open EncL (encL decL isL)
theorem c0l(r:LR):Fg r.k r.w (r.ts.map enc)=r.view:=by
 unfold Fg
 rw[show(dec (PV.sl 2 false (r.ts.map enc)):List Coef)=r.ts from Enc.dec_enc r.ts]
 rfl
theorem b8b(ts:List Coef):Wz (List Coef) (.sl 2 false (ts.map enc))=true:=ZQ (α:=List Coef) ts
def b0y(k:Int)(o:LR)(t:Coef):LR:=Xz o.view t.v (YV (k*t.c))
theorem c1g(l:Lin)(s:Str)(c:Int):(Xz l s c).w<=(Xz l s c).ts.length∧(Xz l s c).w<=l.t.length+1:=by
 have h1:=c6t l.k (Xt s c false l.t)
 have h2:=a8r l.k (Xt s c false l.t)
 have h3:=GA s c l.t
 exact⟨by show(Kh _ _).w<=(Kh _ _).ts.length;omega,by show(Kh _ _).w<=_;omega⟩
theorem FI(l x:Lin)(k:Int)(hx:x.t.length<=500000): ∀ (m i:Nat) (r:LR),m+i=x.t.length->r.w<=r.ts.length->r.w<=500000+i ->
  At VU 0 (Zj 0 WO (fun z=>z=V3 ((x.t.drop i).foldl (b0y k) r) 0 [])) WP 0 45 [(2,.pv (.int .i64 k)),(4,.ptr 0 0),(6,.ptr 1 0),(7,.ptr 2 0),(8,.pv (.int .i64 i))] [.obj (.box [.pv (.int .i64 x.k),.pv (enc x.t)]),.obj (.box [.pv (.int .i64 0),.pv (.sl 0 true [])]),.obj (.box [.pv (.int .i64 r.k),.row 3 r.ts.length 0 r.w]),.obj (.row false 61 2 (r.ts.map enc))]:=by
 intro m
 induction m with
 | zero=>
  intro i r hi hw ho
  refine Sa l x k r.k r.ts.length r.w r.ts i (Z8 (Gh (by omega)) ?_)
  rw[List.drop_of_length_le (show x.t.length<=i by omega)]
  rfl
 | succ m ih=>
  intro i r hi hw ho
  have hlt:i<x.t.length:=by omega
  refine Sa l x k r.k r.ts.length r.w r.ts i (Ya (H6 hlt) ⟨ZG hlt rfl,Z0 hlt ⟨ZG hlt rfl,Z0 hlt ⟨?_,?_⟩⟩⟩)
  ·show(Wz (List Coef) (.sl 2 false (r.ts.map enc))&&(r.ts.map (enc:Coef->PV)).length==r.ts.length&&decide (r.w<=r.ts.length)&&decide (r.w<=1000000))=true
   rw[b8b,List.length_map,decide_eq_true hw,decide_eq_true (show r.w<=1000000 by omega)]
   simp
  ·rw[c0l,List.drop_eq_getElem_cons hlt,List.foldl_cons,next (by omega)]
   have hp:=c1g r.view x.t[i].v (YV (k*x.t[i].c))
   have hv:r.view.t.length<=r.w:=by show(r.ts.take r.w).length<=_;simp;omega
   exact ih (i+1) (b0y k r x.t[i]) (by omega) hp.1 (by have:=hp.2;show(Xz r.view x.t[i].v (YV (k*x.t[i].c))).w<=_;omega)
theorem Eo(l x:Lin)(k:Int)(hl:l.t.length<=500000)(hx:x.t.length<=500000):Zc VU 0 (Zj 0 WO (fun z=>z=V3 (QF l x k) 0 [])) WP [] (YH Tq [.pv (enc l),.pv (enc x),.pv (enc k)] []):=by
 refine b5c l x k ⟨by simp[Enc.sz],by simp;omega,?_⟩
 have hq:(0+List.length (List.map (enc:Coef->PV) l.t))=l.t.length:=by simp
 rw[hq,List.nil_append]
 have h:=FI l x k hx x.t.length 0 ⟨YV (l.k+YV (k*x.k)),l.t.length,l.t⟩ (by omega) (Nat.le_refl _) (by show l.t.length<=_;omega)
 exact h
theorem FU: ∀ args os,QO args os=true->Zc VU os.length (Zj os.length WO fun r=>r=Ja args os) WP [] (YH Tq args os):=by
 intro args os h
 unfold QO at h
 split at h
 ·rename_i l x k
  simp only[Bool.and_eq_true,decide_eq_true_eq]at h
  obtain⟨⟨⟨hl,hx⟩,h1⟩,h2⟩:=h
  obtain⟨l,rfl⟩:=Ym hl
  obtain⟨x,rfl⟩:=Ym hx
  rw[Enc.dec_enc]at h1 h2
  have ev:Ja [.pv (enc l),.pv (enc x),.pv (.int .i64 k)] []=V3 (QF l x k) 0 []:=by
   show V3 (QF (dec (enc l:PV)) (dec (enc x:PV)) k) 0 []=_
   rw[Enc.dec_enc,Enc.dec_enc]
  rw[ev]
  exact Eo l x k h1 h2
 ·cases h
theorem UB.rfl(ps:List PV):UB ps ps:=⟨Eq.refl _,fun j x y hx hy Φ v h=>by rw[hx]at hy;cases hy;exact h⟩
theorem c2b{pre:List AV->List AObj->Bool}{val:List AV->List AObj->AV×List AObj×List AObj}{a b c:PV}{r:LR}{o:AObj}(h1:pre [.pv a,.pv b,.pv c] []=true)(h2:val [.pv a,.pv b,.pv c] []=V3 r 0 []):
  (Hr 1 pre val [.pv a,.pv b,.pv c]).run [.obj o,.fresh]=some (r.av 1,[.obj o,.obj r.ob]):=by
 have H : ∀ (t:Bool) (v:AV×List AObj×List AObj),t=true->v=V3 r 0 []->(HM.req t (match v with
   | (x,os,ext)=>match x.ren (Oj [] 1),Qz (Oj [] 1) os,Qz (Oj [] 1) ext with
    | some x',some os',some ext'=>if os'.length=([]:List Nat).length then Bd (([]:List Nat).zip os') (Aj 1 ext' (.ret x'))else .fail
    | _,_,_=>.fail)).run [.obj o,.fresh]=some (r.av 1,[.obj o,.obj r.ob]):=by
  rintro _ _ rfl rfl
  rfl
 exact H _ _ h1 h2
theorem a9r(fz:Bool)(ty:Nat)(xs:List PV)(r:LR):Gi 1 (UU 256 (List.range 1++QZ [r.av 1]) [] [.obj (.row fz ty 2 xs),.obj r.ob]) [r.av 1] [.obj (.row fz ty 2 xs),.obj r.ob]=some ([r.av 1],[.row fz ty 2 xs,r.ob]):=by
 obtain⟨k,w,ts⟩:=r
 rfl
theorem a5n{P:Program}{f:Nat}(h:ZO P f Ui Uf):ZO P f Qi KS:=by
 refine ZO.thaw h fun args os hp=> ?_
 unfold Qi at hp
 split at hp
 ·rename_i k q w s c fz ty xs
  simp only[Bool.and_eq_true,decide_eq_true_eq,beq_iff_eq]at hp
  obtain⟨⟨⟨hc,hq⟩,hw⟩,hw2⟩:=hp
  obtain⟨ts,e⟩:=Ym hc
  have e:xs=ts.map enc:=by cases e;rfl
  subst e
  have hq:ts.length=q:=by simpa using hq
  subst hq
  have ed:(dec (PV.sl 2 false (ts.map enc)):List Coef)=ts:=Enc.dec_enc ts
  have ev:KS [.agg [.pv (.int .i64 k),.row 0 ts.length 0 w],.pv (.str s),.pv (.int .i64 c)] [.row fz ty 2 (ts.map enc)]=V3 (Xz ⟨k,ts.take w⟩ ⟨s⟩ c) 1 [.row true ty 2 (ts.map enc)]:=by
   show V3 (Xz ⟨k,List.take w (dec (PV.sl 2 false (ts.map enc)):List Coef)⟩ ⟨s⟩ c) 1 _=_
   rw[ed]
  rw[ev]
  have e2:(.sl 2 false (List.drop 0 (List.take w (List.map (enc:Coef->PV) ts))):PV)=enc (ts.take w):=by rw[List.drop_zero,<- List.map_take];rfl
  have hcan:Ui [.pv (.agg [.int .i64 k,.sl 2 false (List.drop 0 (List.take w (List.map (enc:Coef->PV) ts)))]),.pv (.str s),.pv (.int .i64 c)] []=true:=by
   rw[e2]
   show(Wz Lin (enc (⟨k,ts.take w⟩:Lin))&&decide ((dec (enc (⟨k,ts.take w⟩:Lin):PV):Lin).t.length<=1000000))=true
   rw[ZQ,Enc.dec_enc]
   simp;omega
  have hval:Uf [.pv (.agg [.int .i64 k,.sl 2 false (List.drop 0 (List.take w (List.map (enc:Coef->PV) ts)))]),.pv (.str s),.pv (.int .i64 c)] []=V3 (Xz ⟨k,ts.take w⟩ ⟨s⟩ c) 0 []:=by
   rw[e2]
   show V3 (Xz (dec (enc (⟨k,ts.take w⟩:Lin):PV)) ⟨s⟩ c) 0 []=_
   rw[Enc.dec_enc]
  generalize Xz ⟨k,ts.take w⟩ ⟨s⟩ c=r at hval ⊢
  generalize hsl:List.drop 0 (List.take w (List.map (enc:Coef->PV) ts))=sl at hcan hval
  have hl:(List.map (enc:Coef->PV) ts).length=ts.length:=by simp
  generalize List.map (enc:Coef->PV) ts=xs at hl hsl ⊢
  rw[<- hl]
  refine⟨1,[.agg [.int .i64 k,.sl 2 false sl],.str s,.int .i64 c],[.agg [.int .i64 k,.sl 2 false sl],.str s,.int .i64 c],[.obj (.row true ty 2 xs),.fresh],r.av 1,[.obj (.row true ty 2 xs),.obj r.ob],r.av 1,[.row true ty 2 xs,r.ob],UB.rfl _,?_,?_,?_,rfl⟩
  ·subst hsl
   simp[VM,frz,HM.bind,HM.run,YG,HM.req]
   done
  ·exact c2b hcan hval
  ·exact a9r true ty xs r
 ·cases hp
theorem LR.frz_av(r:LR):(frz (r.av 0)).run (YG [r.ob])=some (enc r.view,[.obj (.row true 61 2 (r.ts.map enc))]):=by
 have:(PV.agg [.int .i64 r.k,.sl 2 false (List.drop 0 (List.take r.w (r.ts.map enc)))])=enc r.view:=by
  rw[List.drop_zero,<- List.map_take];rfl
 rw[<- this]
 simp[frz,VM,HM.bind,HM.run,YG,LR.av,LR.ob]
theorem a6w{P:Program}{f:Nat}(h:ZO P f Ui Uf):Zr P f (fun x:Lin×Str×Int×Unit=>decide (x.1.t.length<=1000000)) (fun x:Lin×Str×Int×Unit=>Xy x.1 x.2.1 x.2.2.1):=Zr.of_own h fun a ha=>by
 obtain⟨l,⟨s⟩,c,⟨⟩⟩:=a
 have ha:l.t.length<=1000000:=by simpa using ha
 refine⟨(Xz l ⟨s⟩ c).av 0,[(Xz l ⟨s⟩ c).ob],_,_,?_,?_,LR.frz_av _,?_⟩
 ·show(Wz Lin (enc l)&&decide ((dec (enc l:PV):Lin).t.length<=1000000))=true
  rw[ZQ,Enc.dec_enc,decide_eq_true ha];rfl
 ·show V3 (Xz (dec (enc l:PV)) ⟨s⟩ c) 0 []=_
  rw[Enc.dec_enc];rfl
 ·rw[Aa];exact .refl _
theorem O6{P:Program}{f:Nat}(h:ZO P f QO Ja):Zr P f (fun x:Lin×Lin×Int×Unit=>decide (x.1.t.length<=500000)&&decide (x.2.1.t.length<=500000)) (fun x:Lin×Lin×Int×Unit=>Z5 x.1 x.2.1 x.2.2.1):=Zr.of_own h fun a ha=>by
 obtain⟨l,x,k,⟨⟩⟩:=a
 have ha:l.t.length<=500000∧x.t.length<=500000:=by simpa using ha
 refine⟨(QF l x k).av 0,[(QF l x k).ob],_,_,?_,?_,LR.frz_av _,?_⟩
 ·show(Wz Lin (enc l)&&Wz Lin (enc x)&&decide ((dec (enc l:PV):Lin).t.length<=500000)&&decide ((dec (enc x:PV):Lin).t.length<=500000))=true
  rw[ZQ,ZQ,Enc.dec_enc,Enc.dec_enc,decide_eq_true ha.1,decide_eq_true ha.2];rfl
 ·show V3 (QF (dec (enc l:PV)) (dec (enc x:PV)) k) 0 []=_
  rw[Enc.dec_enc,Enc.dec_enc];rfl
 ·rw[Fu];exact .refl _
end Go.Pl

namespace Go.Pl
open Go.RowKit
open Enc (enc dec is)
open EncL (encL decL isL)
structure BoxT where
 v:List Str
 m:Int
 deriving DecidableEq
instance:Enc BoxT where
 sz:=2
 enc x:=.agg [enc x.v,enc x.m]
 dec | .agg [a,b]=>⟨dec a,dec b⟩|_=>⟨[],0⟩
 is | .agg [a,b]=>is (List Str) a&&is Int b|_=>false
 is_enc v:=by simp
 dec_enc v:=by simp
 sub p h:=by
  cases p with
  | agg xs=>
   match xs,h with
   | [a,b],h=>
    simp only[Bool.and_eq_true]at h
    exact .agg (.cons (Enc.sub a h.1).2 (.cons (Enc.sub b h.2).2 .nil))
  | _=>cases h
@[simp] theorem d0g (a b : PV) : is BoxT (.agg [a, b]) = (is (List Str) a && is Int b) := rfl
@[simp] theorem c9c (a b : PV) : (dec (.agg [a, b]) : BoxT) = ⟨dec a, dec b⟩ := rfl
structure Mono where
 c:Int
 v:List Str
 deriving DecidableEq
instance:Enc Mono where
 sz:=2
 enc x:=.agg [enc x.c,enc x.v]
 dec | .agg [a,b]=>⟨dec a,dec b⟩|_=>⟨0,[]⟩
 is | .agg [a,b]=>is Int a&&is (List Str) b|_=>false
 is_enc v:=by simp
 dec_enc v:=by simp
 sub p h:=by
  cases p with
  | agg xs=>
   match xs,h with
   | [a,b],h=>
    simp only[Bool.and_eq_true]at h
    exact .agg (.cons (Enc.sub a h.1).2 (.cons (Enc.sub b h.2).2 .nil))
  | _=>cases h
@[simp] theorem c9x (a b : PV) : is Mono (.agg [a, b]) = (is Int a && is (List Str) b) := rfl
@[simp] theorem c8e (a b : PV) : (dec (.agg [a, b]) : Mono) = ⟨dec a, dec b⟩ := rfl
structure NilS where
 deriving DecidableEq
instance:Enc NilS where
 sz:=1
 enc _:=.sl 0 true []
 dec _:=⟨⟩
 is | .sl 0 true []=>true|_=>false
 is_enc _:=rfl
 dec_enc _:=rfl
 sub p h:=by
  cases p with
  | sl s t xs=>
   cases xs with
   | nil=>cases s with
    | zero=>cases t with
     | true=>exact .refl _
     | false=>cases h
    | succ s=>cases h
   | cons x xs=>cases s <;> cases t <;> cases h
  | _=>cases h
def Zv{α:Type}(l:List α):Bool:=decide (l.length<=9223372036854775807)
def XM(l:List Str):Bool:=Zv l&&l.all fun s=>decide (s.s.length<=281474976710656)
def ZP(b:BoxT):Bool:=XM b.v
def JM(m:Int):List Str->Int->Option Int
 | [],n=>some n
 | _::r,n=>if n*(m+1)>20000 then none else JM m r (n*(m+1))
def Xo(b:BoxT):Bool:=b.v.all Zw&&decide b.v.Nodup&&(b.v.isEmpty||decide (b.m<20000))&&decide (0<=b.m)&&(JM b.m b.v 1).isSome
def Zn(vs:List Str)(p:List Int):List Coef:=List.zipWith (fun v n=>⟨v,n⟩) vs p
def Zm(l:Lin):List Str:=l.t.map (·.v)
def UW(vs:List Str)(ns:List Str):Bool:=ns.all fun s=>vs.contains s
def Zp(b:BoxT)(fs:List Fact)(ok:Bool)(ns:List Str):Int:=
 if !Xo b || !Y6 fs || !ok then 1 else if UW b.v (ns++fs.flatMap fun f=>Zm f.l)then 0 else 7
def Wl(m:Int):Nat->List Int->Option (List Int)
 | 0,_=>none
 | k+1,p=>if p.getD k 0=m then Wl m k (p.set k 0)else some (p.set k (p.getD k 0+1))
def Du(m:Int)(p:List Int):Option (List Int):=Wl m p.length p
def walkP(m:Int):Nat->List Int->List (List Int)
 | 0,_=>[]
 | f+1,p=>p::(match Du m p with|none=>[]|some q=>walkP m f q)
def V5(vs:List Str):List Int:=vs.map fun _=>0
def b4v(b:BoxT):List (List Int):=walkP b.m 20001 (V5 b.v)
def XX(vs:List Str)(fs:List Fact)(p:List Int):Bool:=fs.all fun f=>YC f (Zn vs p)
def Yb(b:BoxT)(fs:List Fact):List (List Int):=(b4v b).filter (XX b.v fs)
def Yy(b:BoxT)(fs:List Fact):List (List Int)×Int:=if Zp b fs true []=0 then(Yb b fs,0)else([],Zp b fs true [])
def YB(b:BoxT)(fs:List Fact):Int×Int:=(((Yy b fs).1.length:Int),(Yy b fs).2)
def KH:List AV->List AObj->Bool
 | [.pv (.str s),.ptr 0 0],[.box [.pv v,.pv (.int .i64 m)]]=>Wz (List Str) v&&Zv (dec v:List Str)
 | _,_=>false
def CP:List AV->List AObj->AV×List AObj×List AObj
 | [.pv (.str s),_],[.box [.pv v,.pv (.int .i64 m)]]=>(.pv (.bool (!((dec v:List Str).contains ⟨s⟩))),[.box [.pv v,.pv (.int .i64 m)]],[])
 | _,_=>Wu
def Ko(xs:List PV):List Str:=dec (.sl 1 false xs)
def Te(n m:Nat)(xs:List PV):Bool:=m==n&&xs.length==n&&Wz (List Str) (.sl 1 false xs)&&Zv (Ko xs)
def Wh(g:Nat):List AV->List AObj->Bool
 | [.row 0 n 0 m,.fn g' [] [.ptr 1 0]],[.row false ty 1 xs,.box [.pv v,.pv (.int .i64 k)]]=>g'==g&&ty==9&&Te n m xs&&Wz (List Str) v&&Zv (dec v:List Str)
 | [.pv (.sl 0 true []),.fn g' [] [.ptr 0 0]],[.box [.pv v,.pv (.int .i64 k)]]=>g'==g&&Wz (List Str) v&&Zv (dec v:List Str)
 | _,_=>false
def CL:List AV->List AObj->AV×List AObj×List AObj
 | _,[.row fz ty sz xs,.box [.pv v,.pv (.int .i64 k)]]=>(.pv (.int .i64 (Zx (fun s:Str=> !((dec v:List Str).contains s)) (Ko xs))),[.row fz ty sz xs,.box [.pv v,.pv (.int .i64 k)]],[])
 | _,[.box [.pv v,.pv (.int .i64 k)]]=>(.pv (.int .i64 (-1)),[.box [.pv v,.pv (.int .i64 k)]],[])
 | _,_=>Wu
def PK:List AV->List AObj->AV×List AObj×List AObj
 | _,[.row fz ty sz xs,.box [.pv v,.pv (.int .i64 k)]]=>(.pv (.bool ((Ko xs).any fun s=> !((dec v:List Str).contains s))),[.row fz ty sz xs,.box [.pv v,.pv (.int .i64 k)]],[])
 | _,[.box [.pv v,.pv (.int .i64 k)]]=>(.pv (.bool false),[.box [.pv v,.pv (.int .i64 k)]],[])
 | _,_=>Wu
def KX:List AV->List AObj->Bool
 | [.pv a],[]=>Wz Lin a&& !(dec a:Lin).t.isEmpty&&decide ((dec a:Lin).t.length<=1000000)
 | _,_=>false
def Km(ns:List Str):AV×List AObj×List AObj:=(.row 0 ns.length 0 ns.length,[],[.row false 9 1 (ns.map enc)])
def FY(p:PV):Lin:=dec p
def Ht:List AV->List AObj->AV×List AObj×List AObj
 | [.pv a],_=>Km (Zm (FY a))
 | _,_=>Wu
def KU:List AV->List AObj->Bool
 | [.pv a],[]=>Wz Lin a&&(dec a:Lin).t.isEmpty
 | _,_=>false
def Co:List AV->List AObj->AV×List AObj×List AObj:=fun _ _=>(.pv (.sl 0 true []),[],[])
def Ud:List AV->List AObj->Bool
 | [.pv b,.pv f,.pv (.bool ok),.row 0 n 0 m],[.row false ty 1 xs]=>Wz BoxT b&&Wz (List Fact) f&&ty==9&&Te n m xs&&decide (n<=1000)&& !xs.isEmpty&&ZP (dec b)&&Zo (dec f)&&decide ((dec f:List Fact).length<=100)&&decide (xs.length<=1000)
 | _,_=>false
def OG(p:PV):BoxT:=dec p
def CV(p:PV):List Fact:=dec p
def ckV(b:BoxT)(fs:List Fact)(ok:Bool)(ns:List Str):List Str:=if !Xo b || !Y6 fs || !ok then ns else ns++fs.flatMap fun f=>Zm f.l
def QS:List AV->List AObj->AV×List AObj×List AObj
 | [.pv b,.pv f,.pv (.bool ok),_],[.row fz ty sz xs]=>(.pv (.int .i64 (Zp (OG b) (CV f) ok (Ko xs))),[.row false ty sz ((ckV (OG b) (CV f) ok (Ko xs)).map enc)],[])
 | _,_=>Wu
def Y3:List AV->List AObj->Bool
 | [.pv (.agg [v,.int .i64 m]),.pv f],[]=>Wz (List Str) v&&Wz (List Fact) f
 | _,_=>false
def WF:List AV->List AObj->AV×List AObj×List AObj
 | [.pv (.agg [v,.int .i64 m]),.pv f],_=>(.fn 177 [] [.ptr 0 0,.ptr 1 0],[],[.box [.pv v,.pv (.int .i64 m)],.box [.pv f]])
 | _,_=>Wu
def b1y(xs:List PV):List Int:=dec (.sl 1 false xs)
def QJ:List AV->List AObj->Bool
 | [.pv (.agg [v,.int .i64 k]),.row 0 n 0 m],[.row false ty 1 xs]=>m==n&&xs.length==n&&ty==3&&Wz (List Int) (.sl 1 false xs)&&Wz (List Str) v&&decide ((dec v:List Str).length<=1000)&&decide (n<=1000)
 | _,_=>false
def K4:List AV->List AObj->AV×List AObj×List AObj
 | [.pv (.agg [v,.int .i64 k]),_],[.row fz ty sz xs]=>(.pv (.sl 2 false ((Zn (dec v) (b1y xs)).map enc)),[.row false ty sz xs],[])
 | _,_=>Wu
end Go.Pl

namespace Go.Pl
open Go.RowKit
open Enc (enc dec is)
open EncL (encL decL isL)
set_option maxRecDepth 100000
def Vx:IC:=(.seq (.reg [⟨(some 4),(.mv (.c (.int .i64 0))),0,none⟩] none) (.seq (.seq (.reg [⟨(some 6),(.mv (.t 0)),0,none⟩,⟨(some 7),(.len 1 (.t 6)),0,none⟩,⟨(some 8),(.mv (.c (.int .i64 0))),0,none⟩] none) (.block 0 (.loop [8,7,1,0] (.seq (.reg [⟨(some 9),(.bin .num .lss (.t 8) (.t 7)),0,none⟩] none) (.seq (.cond (.t 9) .skip (.exit 0)) (.seq (.block 1 (.seq (.reg [⟨(some 10),(.mv (.t 8)),0,none⟩,⟨(some 5),(.mv (.t 10)),0,none⟩] none) (.seq (.reg [⟨(some 11),(.mv (.t 1)),0,none⟩,⟨(some 12),(.mv (.t 0)),0,none⟩,⟨(some 13),(.mv (.t 5)),0,none⟩,⟨(some 14),(.iaddr 1 (.t 12) (.t 13)),0,none⟩,⟨(some 15),(.load false [.str] (.t 14)),0,none⟩,⟨(some 16),(.bin .num .eql (.t 11) (.t 15)),0,none⟩] none) (.cond (.t 16) (.seq (.reg [⟨(some 17),(.mv (.t 5)),0,none⟩,⟨(some 4),(.mv (.t 17)),0,none⟩] none) .ret) .skip)))) (.reg [⟨(some 18),(.bin .num .add (.t 8) (.c (.int .i64 1))),0,none⟩,⟨(some 8),(.mv (.t 18)),0,none⟩] none))))))) (.seq (.reg [⟨(some 4),(.mv (.c (.int .i64 (-1)))),0,none⟩] none) .ret)))
def Vs:List IRes:=[(.tmp 4)]
abbrev a4x:Nat:=19
def UG:ZC:=Xn []
theorem a9g{G:PV->Prop}(l:List Str)(s:List UInt8)(h:At UG 0 (Za Vs G) Vx 0 19 [(0,(.pv (.sl 1 false (List.map enc l)))),(1,(.pv (.str s))),(7,(.pv (.int .i64 (↑(List.length (List.map enc l)):Int)))),(8,(.pv (.int .i64 0)))] []):Zc UG 0 (Za Vs G) Vx [] (YD 19 [enc l,.str s]):=Zc.tp (.nil) h (by kernel_rfl)
theorem Tf{G:PV->Prop}(l:List Str)(s:List UInt8)(i:Int)(h:if (decide (i<(↑(List.length l):Int)))=true then(decide (0<=i)&&decide (Int.toNat i<List.length (List.map enc l))&&Enc.sz Str==1)=true∧(∃ y0:Str,AV.pv (PV.rptr (PV.cells (List.getD (List.map enc l) (Int.toNat i) default)))=AV.pv (PV.rptr (PV.cells ((enc) y0)))∧(if (s==PV.asStr (List.getD (PV.cells (enc y0)) 0 default))=true then G ((.int .i64 i))else(At UG 0 (Za Vs G) Vx 0 19 [(0,(.pv (.sl 1 false (List.map enc l)))),(1,(.pv (.str s))),(7,(.pv (.int .i64 (↑(List.length l):Int)))),(8,(.pv (.int .i64 (IntKind.wrap IntKind.i64 (i+1)))))] [])))else(G ((.int .i64 (-1))))):At UG 0 (Za Vs G) Vx 0 19 [(0,.pv (enc l)),(1,.pv (.str s)),(7,.pv (.int .i64 l.length)),(8,.pv (.int .i64 i))] []:=At.tp (.lit (.ask (.req (.abs (Str) (fun YY=>AV.pv (PV.rptr (PV.cells ((enc) YY)))) (.lit (.lit (.ask (.nil) (.lit (.nil))))))) (.nil))) h (by kernel_rfl)
def Ae:IC:=(.seq (.reg [⟨(some 4),(.mv (.c (.bool false))),0,none⟩] none) (.seq (.reg [⟨(some 5),(.mv (.t 0)),0,none⟩,⟨(some 6),(.mv (.t 1)),0,none⟩,⟨(some 7),(.call (.c (.fn 183)) [(.t 5),(.t 6)]),0,none⟩,⟨(some 8),(.bin .num .geq (.t 7) (.c (.int .i64 0))),2,none⟩,⟨(some 4),(.mv (.t 8)),2,none⟩] none) .ret))
def BN:List IRes:=[(.tmp 4)]
abbrev b1f:Nat:=9
def Pq:ZC:=Xn [(183,.pure (preT (fun x:List Str×Str×Unit=>Zv x.1)) (Zg (fun x:List Str×Str×Unit=>Zx (fun s:Str=>decide (s=x.2.1)) x.1)))]
theorem c0z{G:PV->Prop}(l:List Str)(s:List UInt8)(h:(Go.Pl.preT (fun(x:List Str×Str×Unit)=>Zv x.1) [(.sl 1 false (List.map enc l)),(.str s)])=true∧(∃ y0:Int,AV.pv (Zg (fun(x:List Str×Str×Unit)=>Zx (fun(s:Str)=>decide (s=x.2.1)) x.1) [(.sl 1 false (List.map enc l)),(.str s)])=AV.pv (enc y0)∧(G ((.bool (decide (y0 ≥ 0))))))):Zc Pq 0 (Za BN G) Ae [] (YD 9 [enc l,.str s]):=Zc.tp (.req (.abs (Int) (fun YY=>AV.pv (enc YY)) (.lit (.nil)))) h (by kernel_rfl)
def Vq:IC:=(.seq (.reg [⟨(some 1),(.box 2 (.t 0)),0,none⟩,⟨(some 2),(.mv (.c (.bool false))),1,none⟩] none) (.seq (.reg [⟨(some 3),(.mv (.c (.int .i64 1))),0,none⟩] none) (.seq (.seq (.reg [⟨(some 6),(.faddr 0 (.t 1)),0,none⟩,⟨(some 7),(.load false [(.sl 1)] (.t 6)),0,none⟩,⟨(some 8),(.len 1 (.t 7)),0,none⟩,⟨(some 9),(.mv (.c (.int .i64 0))),0,none⟩] none) (.block 0 (.loop [9,8,7,1,3] (.seq (.reg [⟨(some 10),(.bin .num .lss (.t 9) (.t 8)),0,none⟩] none) (.seq (.cond (.t 10) .skip (.exit 0)) (.seq (.block 1 (.seq (.reg [⟨(some 11),(.mv (.t 9)),0,none⟩,⟨(some 12),(.iaddr 1 (.t 7) (.t 9)),0,none⟩,⟨(some 13),(.load false [.str] (.t 12)),0,none⟩,⟨(some 4),(.mv (.t 11)),0,none⟩,⟨(some 5),(.mv (.t 13)),0,none⟩] none) (.seq (.seq (.reg [⟨(some 14),(.mv (.t 5)),0,none⟩,⟨(some 15),(.call (.c (.fn 119)) [(.t 14)]),0,none⟩,⟨(some 16),(.un .not (.t 15)),2,none⟩,⟨(some 17),(.mv (.t 16)),2,none⟩,⟨(some 18),(.faddr 0 (.t 1)),2,(some (17,false))⟩,⟨(some 19),(.load false [(.sl 1)] (.t 18)),2,(some (17,false))⟩,⟨(some 20),(.mv (.t 4)),2,(some (17,false))⟩,⟨(some 21),(.slc 1 (.t 19) none (some (.t 20)) none),2,(some (17,false))⟩,⟨(some 22),(.mv (.t 5)),2,(some (17,false))⟩,⟨(some 23),(.call (.c (.fn 120)) [(.t 21),(.t 22)]),2,(some (17,false))⟩,⟨(some 24),(.pick (.t 17) (.c (.bool true)) (.t 23)),4,none⟩,⟨(some 25),(.mv (.t 24)),4,none⟩,⟨(some 26),(.faddr 1 (.t 1)),4,(some (25,false))⟩,⟨(some 27),(.load false [(.int .i64)] (.t 26)),4,(some (25,false))⟩,⟨(some 28),(.bin .num .lss (.t 27) (.c (.int .i64 0))),4,(some (25,false))⟩,⟨(some 29),(.pick (.t 25) (.c (.bool true)) (.t 28)),4,none⟩,⟨(some 30),(.mv (.t 29)),4,none⟩,⟨(some 31),(.faddr 1 (.t 1)),4,(some (30,false))⟩,⟨(some 32),(.load false [(.int .i64)] (.t 31)),4,(some (30,false))⟩,⟨(some 33),(.bin .num .geq (.t 32) (.c (.int .i64 20000))),4,(some (30,false))⟩,⟨(some 34),(.pick (.t 30) (.c (.bool true)) (.t 33)),4,none⟩] none) (.cond (.t 34) (.seq (.reg [⟨(some 2),(.mv (.c (.bool false))),0,none⟩] none) .ret) .skip)) (.seq (.reg [⟨(some 35),(.mv (.t 3)),0,none⟩,⟨(some 36),(.faddr 1 (.t 1)),0,none⟩,⟨(some 37),(.load false [(.int .i64)] (.t 36)),0,none⟩,⟨(some 38),(.bin .num .add (.t 37) (.c (.int .i64 1))),0,none⟩,⟨(some 39),(.bin .num .mul (.t 35) (.t 38)),0,none⟩,⟨(some 3),(.mv (.t 39)),0,none⟩] none) (.seq (.reg [⟨(some 40),(.mv (.t 3)),0,none⟩,⟨(some 41),(.bin .num .gtr (.t 40) (.c (.int .i64 20000))),0,none⟩] none) (.cond (.t 41) (.seq (.reg [⟨(some 2),(.mv (.c (.bool false))),0,none⟩] none) .ret) .skip)))))) (.reg [⟨(some 42),(.bin .num .add (.t 9) (.c (.int .i64 1))),0,none⟩,⟨(some 9),(.mv (.t 42)),0,none⟩] none))))))) (.seq (.reg [⟨(some 43),(.faddr 1 (.t 1)),0,none⟩,⟨(some 44),(.load false [(.int .i64)] (.t 43)),0,none⟩,⟨(some 45),(.bin .num .geq (.t 44) (.c (.int .i64 0))),0,none⟩,⟨(some 2),(.mv (.t 45)),0,none⟩] none) .ret))))
def VA:List IRes:=[(.tmp 2)]
abbrev a5y:Nat:=46
def Uw:ZC:=Xn [(119,.pure (preT (fun x:Str×Unit=>decide (x.1.s.length<=281474976710656))) (Zg (fun x:Str×Unit=>Zw x.1))),(120,.pure (preT (fun x:List Str×Str×Unit=>Zv x.1)) (Zg (fun x:List Str×Str×Unit=>x.1.contains x.2.1)))]
theorem b4l{G:PV->Prop}(b:BoxT)(h:At Uw 0 (Za VA G) Vq 0 46 [(1,(.ptr 0 0)),(3,(.pv (.int .i64 1))),(7,(.pv (.sl 1 false (List.map enc b.v)))),(8,(.pv (.int .i64 (↑(List.length (List.map enc b.v)):Int)))),(9,(.pv (.int .i64 0)))] [(.obj (.box [(.pv (.sl 1 false (List.map enc b.v))),(.pv (.int .i64 b.m))]))]):Zc Uw 0 (Za VA G) Vq [] (YD 46 [enc b]):=Zc.tp (.nil) h (by kernel_rfl)
theorem Tz{G:PV->Prop}(b:BoxT)(n i:Int)(h:if (decide (i<(↑(List.length b.v):Int)))=true then(decide (0<=i)&&decide (Int.toNat i<List.length (List.map enc b.v))&&Enc.sz Str==1)=true∧(∃ y0:Str,AV.pv (PV.rptr (PV.cells (List.getD (List.map enc b.v) (Int.toNat i) default)))=AV.pv (PV.rptr (PV.cells ((enc) y0)))∧((Go.Pl.preT (fun(x:Str×Unit)=>decide (List.length (Str.s x.1)<=281474976710656)) [(.str (PV.asStr (List.getD (PV.cells (enc y0)) 0 default)))])=true∧(∃ y1:Bool,AV.pv (Zg (fun(x:Str×Unit)=>Zw x.1) [(.str (PV.asStr (List.getD (PV.cells (enc y0)) 0 default)))])=AV.pv (enc y1)∧(if (!y1)=true then G ((.bool false))else((true&&decide (0<=i)&&(List.isEmpty (List.map enc b.v)||Enc.sz Str==1)&&decide (0<=Int.toNat i)&&decide (Int.toNat i<=List.length (List.map enc b.v)))=true∧((Go.Pl.preT (fun(x:List Str×Str×Unit)=>Zv x.1) [(.sl 1 false (List.drop 0 (List.take (Int.toNat i) (List.map enc b.v)))),(.str (PV.asStr (List.getD (PV.cells (enc y0)) 0 default)))])=true∧(∃ y2:Bool,AV.pv (Zg (fun(x:List Str×Str×Unit)=>List.contains x.1 x.2.1) [(.sl 1 false (List.drop 0 (List.take (Int.toNat i) (List.map enc b.v)))),(.str (PV.asStr (List.getD (PV.cells (enc y0)) 0 default)))])=AV.pv (enc y2)∧(if (y2)=true then G ((.bool false))else(if (decide (BoxT.m b<0))=true then G ((.bool false))else(if (decide (BoxT.m b ≥ 20000))=true then G ((.bool false))else(if (decide (IntKind.wrap IntKind.i64 (n*IntKind.wrap IntKind.i64 (BoxT.m b+1))>20000))=true then G ((.bool false))else(At Uw 0 (Za VA G) Vq 0 46 [(1,(.ptr 0 0)),(3,(.pv (.int .i64 (IntKind.wrap IntKind.i64 (n*IntKind.wrap IntKind.i64 (BoxT.m b+1)))))),(7,(.pv (.sl 1 false (List.map enc b.v)))),(8,(.pv (.int .i64 (↑(List.length b.v):Int)))),(9,(.pv (.int .i64 (IntKind.wrap IntKind.i64 (i+1)))))] [(.obj (.box [(.pv (.sl 1 false (List.map enc b.v))),(.pv (.int .i64 b.m))]))]))))))))))))else(G ((.bool (decide (BoxT.m b ≥ 0)))))):At Uw 0 (Za VA G) Vq 0 46 [(1,.ptr 0 0),(3,.pv (.int .i64 n)),(7,.pv (enc b.v)),(8,.pv (.int .i64 b.v.length)),(9,.pv (.int .i64 i))] [.obj (.box [.pv (enc b.v),.pv (.int .i64 b.m)])]:=At.tp (.lit (.ask (.req (.abs (Str) (fun YY=>AV.pv (PV.rptr (PV.cells ((enc) YY)))) (.lit (.req (.abs (Bool) (fun YY=>AV.pv (enc YY)) (.ask (.lit (.lit (.lit (.lit (.lit (.lit (.lit (.lit (.lit (.lit (.lit (.lit (.lit (.lit (.lit (.nil)))))))))))))))) (.lit (.lit (.lit (.req (.lit (.lit (.req (.abs (Bool) (fun YY=>AV.pv (enc YY)) (.lit (.ask (.lit (.lit (.lit (.lit (.lit (.lit (.lit (.lit (.nil))))))))) (.lit (.lit (.lit (.lit (.ask (.lit (.lit (.lit (.lit (.nil))))) (.lit (.lit (.lit (.lit (.ask (.nil) (.lit (.lit (.lit (.ask (.nil) (.lit (.nil)))))))))))))))))))))))))))))))) (.lit (.nil)))) h (by kernel_rfl)
def Yq:IC:=(.seq (.reg [⟨(some 1),(.box 2 (.t 0)),0,none⟩,⟨(some 2),(.mv (.c (.sl 0 true []))),1,none⟩] none) (.seq (.reg [⟨(some 3),(.mv (.c (.sl 0 true []))),0,none⟩] none) (.seq (.seq (.reg [⟨(some 6),(.faddr 1 (.t 1)),0,none⟩,⟨(some 7),(.load false [(.sl 2)] (.t 6)),0,none⟩,⟨(some 8),(.len 1 (.t 7)),0,none⟩,⟨(some 9),(.mv (.c (.int .i64 0))),0,none⟩] none) (.block 0 (.loop [9,8,7,3] (.seq (.reg [⟨(some 10),(.bin .num .lss (.t 9) (.t 8)),0,none⟩] none) (.seq (.cond (.t 10) .skip (.exit 0)) (.seq (.block 1 (.seq (.reg [⟨(some 11),(.iaddr 2 (.t 7) (.t 9)),0,none⟩,⟨(some 12),(.load true [.str,(.int .i64)] (.t 11)),0,none⟩,⟨(some 5),(.alloc (.agg [(.str []),(.int .i64 0)])),0,none⟩,⟨none,(.store 2 (.t 5) (.t 12)),1,none⟩] none) (.reg [⟨(some 13),(.mv (.t 3)),0,none⟩,⟨(some 14),(.faddr 0 (.t 5)),0,none⟩,⟨(some 15),(.load false [.str] (.t 14)),0,none⟩,⟨(some 16),(.bslice 9 1 1 (.str []) [(0,(.t 15))]),0,none⟩,⟨(some 17),(.append 9 1 16 (.t 13) (.t 16)),1,none⟩,⟨(some 3),(.mv (.t 17)),2,none⟩] none))) (.reg [⟨(some 18),(.bin .num .add (.t 9) (.c (.int .i64 1))),0,none⟩,⟨(some 9),(.mv (.t 18)),0,none⟩] none))))))) (.seq (.reg [⟨(some 19),(.mv (.t 3)),0,none⟩,⟨(some 2),(.mv (.t 19)),0,none⟩] none) .ret))))
def Yv:List IRes:=[(.tmp 2)]
abbrev Sv:Nat:=20
def YM:ZC:=Xn []
theorem a0v{G:AV×List AObj×List AObj->Prop}(l:Lin)(h:At YM 0 (Zj 0 Yv G) Yq 0 20 [(3,(.pv (.sl 0 true []))),(7,(.pv (.sl 2 false (List.map enc l.t)))),(8,(.pv (.int .i64 (↑(List.length (List.map enc l.t)):Int)))),(9,(.pv (.int .i64 0)))] []):Zc YM 0 (Zj 0 Yv G) Yq [] (YH 20 [.pv (enc l)] []):=Zc.to (.nil) h (by kernel_rfl)
theorem Rk{G:AV×List AObj×List AObj->Prop}(l:Lin)(i:Int)(h:if (decide (i<(↑(List.length l.t):Int)))=true then(decide (0<=i)&&decide (Int.toNat i<List.length (List.map enc l.t))&&Enc.sz Coef==2)=true∧(∃ y0:Coef,AV.pv (PV.rptr (PV.cells (List.getD (List.map enc l.t) (Int.toNat i) default)))=AV.pv (PV.rptr (PV.cells ((enc) y0)))∧(At YM 0 (Zj 0 Yv G) Yq 0 20 [(3,(.row 0 1 0 1)),(7,(.pv (.sl 2 false (List.map enc l.t)))),(8,(.pv (.int .i64 (↑(List.length l.t):Int)))),(9,(.pv (.int .i64 (IntKind.wrap IntKind.i64 (i+1)))))] [(.obj (.row false 9 1 [(.str (PV.asStr (List.getD (PV.cells (enc y0)) 0 default)))]))]))else(G (((.pv (.sl 0 true [])),([],[]))))):At YM 0 (Zj 0 Yv G) Yq 0 20 [(3,.pv (.sl 0 true [])),(7,.pv (enc l.t)),(8,.pv (.int .i64 l.t.length)),(9,.pv (.int .i64 i))] []:=At.to (.lit (.ask (.req (.abs (Coef) (fun YY=>AV.pv (PV.rptr (PV.cells ((enc) YY)))) (.lit (.lit (.lit (.lit (.lit (.lit (.lit (.nil)))))))))) (.nil))) h (by kernel_rfl)
theorem Ra{G:AV×List AObj×List AObj->Prop}(l:Lin)(i:Int)(q:Nat)(vs:List Str)(h:if (decide (i<(↑(List.length l.t):Int)))=true then(decide (0<=i)&&decide (Int.toNat i<List.length (List.map enc l.t))&&Enc.sz Coef==2)=true∧(∃ y0:Coef,AV.pv (PV.rptr (PV.cells (List.getD (List.map enc l.t) (Int.toNat i) default)))=AV.pv (PV.rptr (PV.cells ((enc) y0)))∧((List.length (List.map enc vs)==q&&q==q&&decide ((q+List.length (List.drop 0 (List.take 1 [Sh.co Sh.str (List.getD (PV.cells (enc y0)) 0 default)])))*16<=1099511627776)&&decide (q+List.length (List.drop 0 (List.take 1 [Sh.co Sh.str (List.getD (PV.cells (enc y0)) 0 default)]))<=1099511627776))=true∧(At YM 0 (Zj 0 Yv G) Yq 0 20 [(3,(.row 0 (q+List.length (List.drop 0 (List.take 1 [Sh.co Sh.str (List.getD (PV.cells (enc y0)) 0 default)]))) 0 (q+List.length (List.drop 0 (List.take 1 [Sh.co Sh.str (List.getD (PV.cells (enc y0)) 0 default)]))))),(7,(.pv (.sl 2 false (List.map enc l.t)))),(8,(.pv (.int .i64 (↑(List.length l.t):Int)))),(9,(.pv (.int .i64 (IntKind.wrap IntKind.i64 (i+1)))))] [(.obj (.row false 9 1 (List.map enc vs++List.drop 0 (List.take 1 [Sh.co Sh.str (List.getD (PV.cells (enc y0)) 0 default)]))))])))else(G (((.row 0 q 0 q),([],[(.row false 9 1 (List.map enc vs))]))))):At YM 0 (Zj 0 Yv G) Yq 0 20 [(3,.row 0 q 0 q),(7,.pv (enc l.t)),(8,.pv (.int .i64 l.t.length)),(9,.pv (.int .i64 i))] [.obj (.row false 9 1 (vs.map enc))]:=At.to (.lit (.ask (.req (.abs (Coef) (fun YY=>AV.pv (PV.rptr (PV.cells ((enc) YY)))) (.lit (.lit (.lit (.req (.lit (.nil)))))))) (.nil))) h (by kernel_rfl)
def PN:IC:=(.seq (.reg [⟨(some 3),(.mv (.c (.bool false))),0,none⟩] none) (.seq (.reg [⟨(some 4),(.faddr 0 (.t 1)),0,none⟩,⟨(some 5),(.load false [(.sl 1)] (.t 4)),0,none⟩,⟨(some 6),(.mv (.t 0)),0,none⟩,⟨(some 7),(.call (.c (.fn 120)) [(.t 5),(.t 6)]),0,none⟩,⟨(some 8),(.un .not (.t 7)),2,none⟩,⟨(some 3),(.mv (.t 8)),2,none⟩] none) .ret))
def Pw:List IRes:=[(.tmp 3)]
abbrev b7w:Nat:=9
def F7:ZC:=Xn [(120,.pure (preT (fun x:List Str×Str×Unit=>Zv x.1)) (Zg (fun x:List Str×Str×Unit=>x.1.contains x.2.1)))]
theorem c6f{G:AV×List AObj×List AObj->Prop}(s:List UInt8)(b:BoxT)(h:(Go.Pl.preT (fun(x:List Str×Str×Unit)=>Zv x.1) [(.sl 1 false (List.map enc b.v)),(.str s)])=true∧(∃ y0:Bool,AV.pv (Zg (fun(x:List Str×Str×Unit)=>List.contains x.1 x.2.1) [(.sl 1 false (List.map enc b.v)),(.str s)])=AV.pv (enc y0)∧(G (((.pv (.bool !y0)),([(.box [(.pv (.sl 1 false (List.map enc b.v))),(.pv (.int .i64 b.m))])],[])))))):Zc F7 1 (Zj 1 Pw G) PN [] (YH 9 [.pv (.str s),.ptr 0 0] [.box [.pv (enc b.v),.pv (.int .i64 b.m)]]):=Zc.to (.req (.abs (Bool) (fun YY=>AV.pv (enc YY)) (.nil))) h (by kernel_rfl)
def Ux:IC:=(.seq (.reg [⟨(some 4),(.mv (.c (.int .i64 0))),0,none⟩] none) (.seq (.seq (.reg [⟨(some 6),(.mv (.t 0)),0,none⟩,⟨(some 7),(.len 1 (.t 6)),0,none⟩,⟨(some 8),(.mv (.c (.int .i64 0))),0,none⟩] none) (.block 0 (.loop [8,7,1,0] (.seq (.reg [⟨(some 9),(.bin .num .lss (.t 8) (.t 7)),0,none⟩] none) (.seq (.cond (.t 9) .skip (.exit 0)) (.seq (.block 1 (.seq (.reg [⟨(some 10),(.mv (.t 8)),0,none⟩,⟨(some 5),(.mv (.t 10)),0,none⟩] none) (.seq (.reg [⟨(some 11),(.mv (.t 1)),0,none⟩,⟨(some 12),(.mv (.t 0)),0,none⟩,⟨(some 13),(.mv (.t 5)),0,none⟩,⟨(some 14),(.iaddr 1 (.t 12) (.t 13)),0,none⟩,⟨(some 15),(.load false [.str] (.t 14)),0,none⟩,⟨(some 16),(.call (.t 11) [(.t 15)]),0,none⟩] none) (.cond (.t 16) (.seq (.reg [⟨(some 17),(.mv (.t 5)),0,none⟩,⟨(some 4),(.mv (.t 17)),0,none⟩] none) .ret) .skip)))) (.reg [⟨(some 18),(.bin .num .add (.t 8) (.c (.int .i64 1))),0,none⟩,⟨(some 8),(.mv (.t 18)),0,none⟩] none))))))) (.seq (.reg [⟨(some 4),(.mv (.c (.int .i64 (-1)))),0,none⟩] none) .ret)))
def U3:List IRes:=[(.tmp 4)]
abbrev c7i:Nat:=19
def Jh:ZC:=Xn [(176,.own KH CP)]
theorem c9s{G:AV×List AObj×List AObj->Prop}(l:List Str)(n:Nat)(b:BoxT)(h:At Jh 2 (Zj 2 U3 G) Ux 0 19 [(0,(.row 0 n 0 n)),(1,(.fn 176 [] [(.ptr 1 0)])),(7,(.pv (.int .i64 (↑(n - 0):Int)))),(8,(.pv (.int .i64 0)))] [(.obj (.row false 9 1 (List.map enc l))),(.obj (.box [(.pv (.sl 1 false (List.map enc b.v))),(.pv (.int .i64 b.m))]))]):Zc Jh 2 (Zj 2 U3 G) Ux [] (YH 19 [.row 0 n 0 n,.fn 176 [] [.ptr 1 0]] [.row false 9 1 (l.map enc),.box [.pv (enc b.v),.pv (.int .i64 b.m)]]):=Zc.to (.nil) h (by kernel_rfl)
theorem b5l{G:AV×List AObj×List AObj->Prop}(l:List Str)(n:Nat)(b:BoxT)(i:Int)(h:if (decide (i<(↑n:Int)))=true then(decide (0<=i)&&decide (0+Int.toNat i<n)&&List.length (List.map enc l)==n)=true∧((List.length (List.map enc l)==n&&decide (0+Int.toNat i<List.length (List.map enc l)))=true∧((decide (0+List.length [Sh.str]<=List.length (PV.cells (List.getD (List.map enc l) (0+Int.toNat i) default)))&&XL (PV.cells (List.getD (List.map enc l) (0+Int.toNat i) default)) 0 [Sh.str])=true∧((KH [(.pv (.str (PV.asStr (List.getD (PV.cells (List.getD (List.map enc l) (0+Int.toNat i) default)) 0 default)))),(.ptr 0 0)] [(.box [(.pv (.sl 1 false (List.map enc b.v))),(.pv (.int .i64 b.m))])])=true∧(if (!List.contains (dec (enc b.v)) (Str.mk (PV.asStr (List.getD (PV.cells (List.getD (List.map enc l) (0+Int.toNat i) default)) 0 default))))=true then G (((.pv (.int .i64 i)),([(.row false 9 1 (List.map enc l)),(.box [(.pv (.sl 1 false (List.map enc b.v))),(.pv (.int .i64 b.m))])],[])))else(At Jh 2 (Zj 2 U3 G) Ux 0 19 [(0,(.row 0 n 0 n)),(1,(.fn 176 [] [(.ptr 1 0)])),(7,(.pv (.int .i64 (↑n:Int)))),(8,(.pv (.int .i64 (IntKind.wrap IntKind.i64 (i+1)))))] [(.obj (.row false 9 1 (List.map enc l))),(.obj (.box [(.pv (.sl 1 false (List.map enc b.v))),(.pv (.int .i64 b.m))]))])))))else(G (((.pv (.int .i64 (-1))),([(.row false 9 1 (List.map enc l)),(.box [(.pv (.sl 1 false (List.map enc b.v))),(.pv (.int .i64 b.m))])],[]))))):At Jh 2 (Zj 2 U3 G) Ux 0 19 [(0,.row 0 n 0 n),(1,.fn 176 [] [.ptr 1 0]),(7,.pv (.int .i64 n)),(8,.pv (.int .i64 i))] [.obj (.row false 9 1 (l.map enc)),.obj (.box [.pv (enc b.v),.pv (.int .i64 b.m)])]:=At.to (.lit (.ask (.req (.keep (.req (.req (.req (.keep (.ask (.nil) (.lit (.nil))))))))) (.nil))) h (by kernel_rfl)
def Ac:IC:=(.seq (.reg [⟨(some 4),(.mv (.c (.bool false))),0,none⟩] none) (.seq (.reg [⟨(some 5),(.mv (.t 0)),0,none⟩,⟨(some 6),(.mv (.t 1)),0,none⟩,⟨(some 7),(.call (.c (.fn 238)) [(.t 5),(.t 6)]),0,none⟩,⟨(some 8),(.bin .num .geq (.t 7) (.c (.int .i64 0))),2,none⟩,⟨(some 4),(.mv (.t 8)),2,none⟩] none) .ret))
def Pb:List IRes:=[(.tmp 4)]
abbrev c3u:Nat:=9
def a2w:ZC:=Xn [(238,.own (Wh 176) CL)]
theorem c8t{G:AV×List AObj×List AObj->Prop}(l:List Str)(n:Nat)(b:BoxT)(h:(Wh 176 [(.row 0 n 0 n),(.fn 176 [] [(.ptr 1 0)])] [(.row false 9 1 (List.map enc l)),(.box [(.pv (.sl 1 false (List.map enc b.v))),(.pv (.int .i64 b.m))])])=true∧(G (((.pv (.bool (decide (Zx (fun(s:Str)=> !List.contains (dec (enc b.v)) s) (Ko (List.map enc l)) ≥ 0)))),([(.row false 9 1 (List.map enc l)),(.box [(.pv (.sl 1 false (List.map enc b.v))),(.pv (.int .i64 b.m))])],[]))))):Zc a2w 2 (Zj 2 Pb G) Ac [] (YH 9 [.row 0 n 0 n,.fn 176 [] [.ptr 1 0]] [.row false 9 1 (l.map enc),.box [.pv (enc b.v),.pv (.int .i64 b.m)]]):=Zc.to (.req (.keep (.lit (.nil)))) h (by kernel_rfl)
theorem c7u{G:AV×List AObj×List AObj->Prop}(b:BoxT)(h:At Jh 1 (Zj 1 U3 G) Ux 0 19 [(0,(.pv (.sl 0 true []))),(1,(.fn 176 [] [(.ptr 0 0)])),(7,(.pv (.int .i64 0))),(8,(.pv (.int .i64 0)))] [(.obj (.box [(.pv (.sl 1 false (List.map enc b.v))),(.pv (.int .i64 b.m))]))]):Zc Jh 1 (Zj 1 U3 G) Ux [] (YH 19 [.pv (.sl 0 true []),.fn 176 [] [.ptr 0 0]] [.box [.pv (enc b.v),.pv (.int .i64 b.m)]]):=Zc.to (.nil) h (by kernel_rfl)
-- IMPOSSIBLE
theorem c5w{G:AV×List AObj×List AObj->Prop}(b:BoxT)(i:Int)(h:if (decide (i<0))=true then(decide (0<=i)&&decide (Int.toNat i<List.length ([]:List PV))&&0==1)=true∧(False)else(G (((.pv (.int .i64 (-1))),([(.box [(.pv (.sl 1 false (List.map enc b.v))),(.pv (.int .i64 b.m))])],[]))))):At Jh 1 (Zj 1 U3 G) Ux 0 19 [(0,.pv (.sl 0 true [])),(1,.fn 176 [] [.ptr 0 0]),(7,.pv (.int .i64 0)),(8,.pv (.int .i64 i))] [.obj (.box [.pv (enc b.v),.pv (.int .i64 b.m)])]:=At.to (.lit (.ask (.req (.keep (.lit (.nil)))) (.nil))) h (by kernel_rfl)
theorem c8r{G:AV×List AObj×List AObj->Prop}(b:BoxT)(h:(Wh 176 [(.pv (.sl 0 true [])),(.fn 176 [] [(.ptr 0 0)])] [(.box [(.pv (.sl 1 false (List.map enc b.v))),(.pv (.int .i64 b.m))])])=true∧(G (((.pv (.bool false)),([(.box [(.pv (.sl 1 false (List.map enc b.v))),(.pv (.int .i64 b.m))])],[]))))):Zc a2w 1 (Zj 1 Pb G) Ac [] (YH 9 [.pv (.sl 0 true []),.fn 176 [] [.ptr 0 0]] [.box [.pv (enc b.v),.pv (.int .i64 b.m)]]):=Zc.to (.req (.keep (.lit (.nil)))) h (by kernel_rfl)
theorem a9u{G:PV->Prop}(l:Lin)(h:At YM 0 (Za Yv G) Yq 0 20 [(3,(.pv (.sl 0 true []))),(7,(.pv (.sl 2 false (List.map enc l.t)))),(8,(.pv (.int .i64 (↑(List.length (List.map enc l.t)):Int)))),(9,(.pv (.int .i64 0)))] []):Zc YM 0 (Za Yv G) Yq [] (YD 20 [enc l]):=Zc.tp (.nil) h (by kernel_rfl)
theorem Am{G:PV->Prop}(l:Lin)(i:Int)(h:if (decide (i<(↑(List.length l.t):Int)))=true then(decide (0<=i)&&decide (Int.toNat i<List.length (List.map enc l.t))&&Enc.sz Coef==2)=true∧(∃ y0:Coef,AV.pv (PV.rptr (PV.cells (List.getD (List.map enc l.t) (Int.toNat i) default)))=AV.pv (PV.rptr (PV.cells ((enc) y0)))∧(At YM 0 (Za Yv G) Yq 0 20 [(3,(.row 0 1 0 1)),(7,(.pv (.sl 2 false (List.map enc l.t)))),(8,(.pv (.int .i64 (↑(List.length l.t):Int)))),(9,(.pv (.int .i64 (IntKind.wrap IntKind.i64 (i+1)))))] [(.obj (.row false 9 1 [(.str (PV.asStr (List.getD (PV.cells (enc y0)) 0 default)))]))]))else(G ((.sl 0 true [])))):At YM 0 (Za Yv G) Yq 0 20 [(3,.pv (.sl 0 true [])),(7,.pv (enc l.t)),(8,.pv (.int .i64 l.t.length)),(9,.pv (.int .i64 i))] []:=At.tp (.lit (.ask (.req (.abs (Coef) (fun YY=>AV.pv (PV.rptr (PV.cells ((enc) YY)))) (.lit (.lit (.lit (.lit (.lit (.lit (.lit (.nil)))))))))) (.nil))) h (by kernel_rfl)
theorem Ai{G:PV->Prop}(l:Lin)(i:Int)(q:Nat)(vs:List Str)(h:if (decide (i<(↑(List.length l.t):Int)))=true then(decide (0<=i)&&decide (Int.toNat i<List.length (List.map enc l.t))&&Enc.sz Coef==2)=true∧(∃ y0:Coef,AV.pv (PV.rptr (PV.cells (List.getD (List.map enc l.t) (Int.toNat i) default)))=AV.pv (PV.rptr (PV.cells ((enc) y0)))∧((List.length (List.map enc vs)==q&&q==q&&decide ((q+List.length (List.drop 0 (List.take 1 [Sh.co Sh.str (List.getD (PV.cells (enc y0)) 0 default)])))*16<=1099511627776)&&decide (q+List.length (List.drop 0 (List.take 1 [Sh.co Sh.str (List.getD (PV.cells (enc y0)) 0 default)]))<=1099511627776))=true∧(At YM 0 (Za Yv G) Yq 0 20 [(3,(.row 0 (q+List.length (List.drop 0 (List.take 1 [Sh.co Sh.str (List.getD (PV.cells (enc y0)) 0 default)]))) 0 (q+List.length (List.drop 0 (List.take 1 [Sh.co Sh.str (List.getD (PV.cells (enc y0)) 0 default)]))))),(7,(.pv (.sl 2 false (List.map enc l.t)))),(8,(.pv (.int .i64 (↑(List.length l.t):Int)))),(9,(.pv (.int .i64 (IntKind.wrap IntKind.i64 (i+1)))))] [(.obj (.row false 9 1 (List.map enc vs++List.drop 0 (List.take 1 [Sh.co Sh.str (List.getD (PV.cells (enc y0)) 0 default)]))))])))else((List.length (List.map enc vs)==q)=true∧(G ((.sl 1 false (List.drop 0 (List.take q (List.map enc vs)))))))):At YM 0 (Za Yv G) Yq 0 20 [(3,.row 0 q 0 q),(7,.pv (enc l.t)),(8,.pv (.int .i64 l.t.length)),(9,.pv (.int .i64 i))] [.obj (.row false 9 1 (vs.map enc))]:=At.tp (.lit (.ask (.req (.abs (Coef) (fun YY=>AV.pv (PV.rptr (PV.cells ((enc) YY)))) (.lit (.lit (.lit (.req (.lit (.nil)))))))) (.req (.nil)))) h (by kernel_rfl)
def Y9:IC:=Xp
def Y8:List IRes:=[(.tmp 2)]
abbrev a3l:Nat:=67
def XG:ZC:=Xn [(152,.pure (preT (fun _:Str×Str×Unit=>true)) (Zg (fun x:Str×Str×Unit=>x.2.1.s.isPrefixOf x.1.s))),(182,.pure (preT (fun x:Str×Unit=>decide (x.1.s.length<=281474976710656))) (Zg (fun x:Str×Unit=>Yr x.1))),(76,.pure (preT (fun x:Int×Unit=>decide (-9223372036854775808<=x.1)&&decide (x.1<=9223372036854775807))) (Zg (fun x:Int×Unit=>NR x.1)))]
theorem a7v{G:PV->Prop}(s:List UInt8)(h : ∃ y0:Bool,AV.pv (Zg (fun(x:Str×Str×Unit)=>List.isPrefixOf (Str.s x.2.1) (Str.s x.1)) [(.str s),(.str [(95:UInt8)])])=AV.pv (enc y0)∧(if (y0)=true then(decide (0<=1)&&true&&decide (Int.toNat 1<=List.length s)&&decide (List.length s<=List.length s))=true∧((Go.Pl.preT (fun(x:Str×Unit)=>decide (List.length (Str.s x.1)<=281474976710656)) [(.str (List.drop (Int.toNat 1) (List.take (List.length s) s)))])=true∧(∃ y1:Int×Er,AV.pv (Zg (fun(x:Str×Unit)=>Yr x.1) [(.str (List.drop (Int.toNat 1) (List.take (List.length s) s)))])=AV.pv (enc y1)∧((Al (enc y1.2)&&Prod.fst (true,PV.bool (Uo (enc y1.2))))=true∧(if (Uo (enc y1.2))=true then if (decide (y1.1>0))=true then if (decide ((↑(List.length s):Int)<=10))=true then(Go.Pl.preT (fun(x:Int×Unit)=>decide ((-9223372036854775808:Int)<=x.1)&&decide (x.1<=9223372036854775807)) [(.int .i64 y1.1)])=true∧(∃ y2:Str,AV.pv (Zg (fun(x:Int×Unit)=>NR x.1) [(.int .i64 y1.1)])=AV.pv (enc y2)∧((decide (0<=1)&&true&&decide (Int.toNat 1<=List.length s)&&decide (List.length s<=List.length s))=true∧(G ((.bool (Str.s y2==List.drop (Int.toNat 1) (List.take (List.length s) s)))))))else(G ((.bool false)))else(G ((.bool false)))else(G ((.bool false)))))))else(At XG 0 (Za Y8 G) Y9 0 67 [(0,(.pv (.str s))),(34,(.pv (.sl 1 false (Zu s)))),(35,(.pv (.int .i64 (↑(List.length (Zu s)):Int)))),(36,(.pv (.int .i64 0)))] []))):Zc XG 0 (Za Y8 G) Y9 [] (YD 67 [.str s]):=Zc.tp (.lit (.abs (Bool) (fun YY=>AV.pv (enc YY)) (.ask (.req (.req (.abs (Int×Er) (fun YY=>AV.pv (enc YY)) (.req (.ask (.lit (.lit (.lit (.ask (.lit (.lit (.lit (.lit (.ask (.lit (.req (.abs (Str) (fun YY=>AV.pv (enc YY)) (.lit (.lit (.req (.lit (.lit (.lit (.nil)))))))))) (.lit (.lit (.lit (.lit (.lit (.nil))))))))))) (.lit (.lit (.lit (.lit (.lit (.lit (.lit (.lit (.lit (.nil)))))))))))))) (.lit (.lit (.lit (.lit (.lit (.lit (.lit (.lit (.lit (.lit (.lit (.lit (.nil)))))))))))))))))) (.nil)))) h (by kernel_rfl)
theorem TJ{G:PV->Prop}(s:List UInt8)(i:Int)(h:if (decide (i<(↑(List.length (Zu s)):Int)))=true then(decide (0<=i)&&decide (Int.toNat i<List.length (Zu s))&&1==1)=true∧((decide (0+List.length [Sh.int IntKind.u8]<=List.length (PV.cells (List.getD (Zu s) (Int.toNat i) default)))&&XL (PV.cells (List.getD (Zu s) (Int.toNat i) default)) 0 [Sh.int IntKind.u8])=true∧(if (decide (PV.asInt (List.getD (PV.cells (List.getD (Zu s) (Int.toNat i) default)) 0 default)<97))=true then if (i==0)=true then G ((.bool false))else(if (decide (PV.asInt (List.getD (PV.cells (List.getD (Zu s) (Int.toNat i) default)) 0 default)<48))=true then G ((.bool false))else(if (decide (PV.asInt (List.getD (PV.cells (List.getD (Zu s) (Int.toNat i) default)) 0 default)>57))=true then G ((.bool false))else(At XG 0 (Za Y8 G) Y9 0 67 [(0,(.pv (.str s))),(34,(.pv (.sl 1 false (Zu s)))),(35,(.pv (.int .i64 (↑(List.length (Zu s)):Int)))),(36,(.pv (.int .i64 (IntKind.wrap IntKind.i64 (i+1)))))] [])))else(if (decide (PV.asInt (List.getD (PV.cells (List.getD (Zu s) (Int.toNat i) default)) 0 default)>122))=true then if (i==0)=true then G ((.bool false))else(if (decide (PV.asInt (List.getD (PV.cells (List.getD (Zu s) (Int.toNat i) default)) 0 default)<48))=true then G ((.bool false))else(if (decide (PV.asInt (List.getD (PV.cells (List.getD (Zu s) (Int.toNat i) default)) 0 default)>57))=true then G ((.bool false))else(At XG 0 (Za Y8 G) Y9 0 67 [(0,(.pv (.str s))),(34,(.pv (.sl 1 false (Zu s)))),(35,(.pv (.int .i64 (↑(List.length (Zu s)):Int)))),(36,(.pv (.int .i64 (IntKind.wrap IntKind.i64 (i+1)))))] [])))else(At XG 0 (Za Y8 G) Y9 0 67 [(0,(.pv (.str s))),(34,(.pv (.sl 1 false (Zu s)))),(35,(.pv (.int .i64 (↑(List.length (Zu s)):Int)))),(36,(.pv (.int .i64 (IntKind.wrap IntKind.i64 (i+1)))))] []))))else(if (!s==[])=true then G ((.bool (decide ((↑(List.length s):Int)<=30))))else(G ((.bool false))))):At XG 0 (Za Y8 G) Y9 0 67 [(0,.pv (.str s)),(34,.pv (.sl 1 false (Zu s))),(35,.pv (.int .i64 (Zu s).length)),(36,.pv (.int .i64 i))] []:=At.tp (.lit (.ask (.req (.keep (.req (.lit (.ask (.lit (.lit (.lit (.lit (.lit (.lit (.ask (.lit (.lit (.lit (.lit (.lit (.lit (.lit (.lit (.lit (.lit (.nil))))))))))) (.lit (.lit (.lit (.lit (.lit (.ask (.lit (.lit (.lit (.lit (.lit (.nil)))))) (.lit (.lit (.lit (.lit (.lit (.ask (.nil) (.lit (.nil))))))))))))))))))))) (.lit (.lit (.lit (.ask (.lit (.lit (.lit (.ask (.lit (.lit (.lit (.lit (.lit (.lit (.lit (.lit (.lit (.lit (.nil))))))))))) (.lit (.lit (.lit (.lit (.lit (.ask (.lit (.lit (.lit (.lit (.lit (.nil)))))) (.lit (.lit (.lit (.lit (.lit (.ask (.nil) (.lit (.nil)))))))))))))))))) (.lit (.lit (.lit (.lit (.lit (.lit (.lit (.lit (.nil)))))))))))))))))) (.lit (.ask (.lit (.lit (.lit (.lit (.nil))))) (.lit (.lit (.lit (.nil)))))))) h (by kernel_rfl)
end Go.Pl

namespace Go.Pl
open Go.RowKit
open Enc (enc dec is)
open EncL (encL decL isL)
theorem ZL{α:Type}{l:List α}:Zv l=true ↔ l.length<=9223372036854775807:=by simp[Zv]
theorem Fj(l:List Str)(s:List UInt8)(hl:l.length<=9223372036854775807): ∀ (m i:Nat),m+i=l.length->(∀ j (h:j<l.length),j<i->decide (l[j]=⟨s⟩)=false) ->
  At UG 0 (Za Vs (Zl (Zx (fun x:Str=>decide (x=⟨s⟩)) l))) Vx 0 19 [(0,.pv (enc l)),(1,.pv (.str s)),(7,.pv (.int .i64 l.length)),(8,.pv (.int .i64 i))] []:=by
 intro m
 induction m with
 | zero=>
  intro i hi hno
  refine Tf l s i (Z8 (Yc (by omega)) (QG ?_))
  rw[UQ _ _ fun k hk=>hno k hk (by omega)]
 | succ m ih=>
  intro i hi hno
  have hlt:i<l.length:=by omega
  refine Tf l s i (Ya (Z4 hlt) ⟨ZG hlt rfl,Z0 hlt (Gj (fun h=>QG ?_) fun h=> ?_)⟩)
  ·have h:s=l[i].s:=h
   rw[UL (fun x:Str=>decide (x=⟨s⟩)) l i hlt hno (by rw[h];simp)]
  ·have h:s≠l[i].s:=h
   rw[next (by omega)]
   refine ih (i+1) (by omega) fun k hk hki=> ?_
   by_cases e:k=i
   ·subst e;simp only[decide_eq_false_iff_not];intro e;exact h (by rw[e])
   ·exact hno k hk (by omega)
theorem Eu: ∀ a:List Str×Str×Unit,Zv a.1=true->Zc UG 0 (Za Vs (Zl (Zx (fun s:Str=>decide (s=a.2.1)) a.1))) Vx [] (YD a4x (encL a)):=by
 rintro⟨l,⟨s⟩,⟨⟩⟩ h
 have:=Fj l s (ZL.1 h) l.length 0 (by omega) fun j _ h=>by omega
 refine a9g l s ?_
 rw[List.length_map]
 exact this
theorem P8(l:List Str)(s:Str):l.any (fun x=>decide (x=s))=l.contains s:=by
 rw[List.contains_eq_any_beq]
 congr 1
 funext x
 by_cases h:x=s
 ·subst h;simp
 ·have h2:s≠x:=fun e=>h e.symm
  simp[h,h2]
theorem a6n: ∀ a:List Str×Str×Unit,Zv a.1=true->Zc Pq 0 (Za BN (Zl (a.1.contains a.2.1))) Ae [] (YD b1f (encL a)):=by
 rintro⟨l,⟨s⟩,⟨⟩⟩ h
 refine c0z l s ⟨Zh (l,⟨s⟩,()) rfl h,Ze (l,⟨s⟩,()) rfl (ZF ?_)⟩
 show decide (Zx (fun x:Str=>decide (x=⟨s⟩)) l ≥ 0)=_
 rw[XI,P8]
def gvL(m:Int):List Str->List Str->Int->Bool
 | _,[],_=>decide (m ≥ 0)
 | seen,s::r,n=>Zw s&& !seen.contains s&& !decide (m<0)&& !decide (m ≥ 20000)&& !decide (n*(m+1)>20000)&&gvL m (seen++[s]) r (n*(m+1))
theorem b3s(m:Int): ∀ (r seen:List Str) (n:Int),gvL m seen r n=(r.all Zw&&(decide r.Nodup&&r.all fun s=> !seen.contains s)&&(r.isEmpty||decide (m<20000))&&decide (0<=m)&&(JM m r n).isSome)
 | [],seen,n=>by
  simp[gvL,JM]
 | s::r,seen,n=>by
  rw[gvL,b3s m r (seen++[s]) (n*(m+1)),JM]
  have h1:(r.all fun x=> !(seen++[s]).contains x)=((r.all fun x=> !seen.contains x)&& !r.contains s):=by
   induction r with
   | nil=>rfl
   | cons x r ih=>
    simp only[List.all_cons,ih]
    have e1:(seen++[s]).contains x=(seen.contains x||decide (x=s)):=by simp[List.contains_eq_any_beq,List.any_append,Bool.or_comm]
    have e2:(x::r).contains s=(decide (x=s)||r.contains s):=by
     rw[List.contains_cons]
     congr 1
     by_cases h:x=s
     ·subst h;simp
     ·have h2:s≠x:=fun e=>h e.symm
      simp[h,h2]
    rw[e1,e2]
    cases seen.contains x <;> cases decide (x=s) <;> cases r.contains s <;> cases (r.all fun x=> !seen.contains x) <;> rfl
  have h2:decide (s::r).Nodup=(decide r.Nodup&& !r.contains s):=by
   by_cases h:s∈r
   ·simp[List.nodup_cons,h]
   ·simp[List.nodup_cons,h]
  rw[h1,h2]
  by_cases hm:m<0
  ·have e1:decide (0<=m)=false:=by simp;omega
   rw[decide_eq_true hm,e1];simp
  ·have e1:decide (0<=m)=true:=by simp;omega
   by_cases hm2:m ≥ 20000
   ·have e2:decide (m<20000)=false:=by simp;omega
    rw[decide_eq_true hm2,e2];simp
   ·have e2:decide (m<20000)=true:=by simp;omega
    by_cases hn:n*(m+1)>20000
    ·rw[if_pos hn,decide_eq_true hn];simp
    ·rw[if_neg hn,decide_eq_false hn,decide_eq_false hm,decide_eq_false hm2,e1,e2]
     simp only[List.all_cons,List.isEmpty_cons]
     cases Zw s <;> cases seen.contains s <;> cases r.contains s <;> cases r.all Zw <;> cases decide r.Nodup <;> cases (r.all fun x=> !seen.contains x) <;> cases r.isEmpty <;> cases (JM m r (n*(m+1))).isSome <;> rfl
theorem a0a(b:BoxT):gvL b.m [] b.v 1=Xo b:=by
 rw[b3s,Xo]
 have:(b.v.all fun s=> !([]:List Str).contains s)=true:=by simp
 rw[this,Bool.and_true]
theorem a0l{n:Int}(h1 : -9000000000000000000<=n)(h2:n<=9000000000000000000):IntKind.i64.wrap n=n:=YU (by omega) (by omega)
theorem Ld(b:BoxT)(hb:ZP b=true): ∀ (k i:Nat) (n:Int),k+i=b.v.length->1<=n->n<=20000 ->
  At Uw 0 (Za VA (Zl (gvL b.m (b.v.take i) (b.v.drop i) n))) Vq 0 46 [(1,.ptr 0 0),(3,.pv (.int .i64 n)),(7,.pv (enc b.v)),(8,.pv (.int .i64 b.v.length)),(9,.pv (.int .i64 i))] [.obj (.box [.pv (enc b.v),.pv (.int .i64 b.m)])]:=by
 simp only[ZP,XM,Bool.and_eq_true,List.all_eq_true]at hb
 obtain⟨hb1,hb2⟩:=hb
 have hl:=ZL.1 hb1
 intro k
 induction k with
 | zero=>
  intro i n hi h1 h2
  rw[List.drop_of_length_le (by omega)]
  exact Tz b n i (Z8 (Yc (by omega)) (ZF rfl))
 | succ k ih=>
  intro i n hi h1 h2
  have hlt:i<b.v.length:=by omega
  have hd:b.v.drop i=b.v[i]::b.v.drop (i+1):=List.drop_eq_getElem_cons hlt
  have ht:b.v.take (i+1)=b.v.take i++[b.v[i]]:=List.take_succ_eq_append_getElem hlt
  have hs:=hb2 _ (List.getElem_mem hlt)
  rw[hd,gvL]
  have et:List.drop 0 (List.take (Int.toNat (i:Int)) (List.map (enc:Str->PV) b.v))=(b.v.take i).map enc:=by rw[List.drop_zero,Int.toNat_natCast,List.map_take]
  refine Tz b n i (Ya (Z4 hlt) ⟨ZG hlt rfl,Z0 hlt ⟨Zh (b.v[i],()) rfl hs,Ze (b.v[i],()) rfl (Vj (fun h=> ?_) fun h=>⟨by rw[List.length_map,decide_eq_true (show(0:Int)<=(i:Int) by omega),decide_eq_true (show(Int.toNat (i:Int))<=b.v.length by omega)];simp,?_,?_⟩)⟩⟩)
  ·have h:Zw b.v[i]=false:=h
   rw[h];exact ZF rfl
  ·rw[et]
   exact Zh (b.v.take i,b.v[i],()) rfl (ZL.2 (by rw[List.length_take];omega))
  ·rw[et]
   have hn:Zw b.v[i]=true:=h
   rw[hn,Bool.true_and]
   refine Ze (b.v.take i,b.v[i],()) rfl (Wn (fun h=> ?_) fun h=>WI (fun h3=> ?_) fun h3=>WI (fun h4=> ?_) fun h4=> ?_)
   ·have h:(b.v.take i).contains b.v[i]=true:=h
    rw[h];exact ZF rfl
   ·rw[decide_eq_true h3,show(b.v.take i).contains b.v[i]=false from h];exact ZF rfl
   ·rw[decide_eq_true h4,decide_eq_false h3,show(b.v.take i).contains b.v[i]=false from h];exact ZF rfl
   ·have h:(b.v.take i).contains b.v[i]=false:=h
    have q1:b.m+1<=20000:=by omega
    have q2:1<=b.m+1:=by omega
    have hm:n*(b.m+1)<=20000*20000:=Int.le_trans (Int.mul_le_mul_of_nonneg_left q1 (by omega)) (Int.mul_le_mul_of_nonneg_right h2 (by omega))
    have hm1:1<=n*(b.m+1):=by
     have:=Int.mul_le_mul h1 q2 (by omega) (by omega)
     omega
    rw[a0l (n:=b.m+1) (by omega) (by omega),a0l (n:=n*(b.m+1)) (by omega) (by omega),decide_eq_false h3,decide_eq_false h4,h]
    refine WI (fun h5=> ?_) fun h5=> ?_
    ·rw[decide_eq_true h5];exact ZF rfl
    ·rw[decide_eq_false h5,next (by omega),<- ht]
     exact ih (i+1) (n*(b.m+1)) (by omega) hm1 (by omega)
theorem Ee: ∀ a:BoxT×Unit,ZP a.1=true->Zc Uw 0 (Za VA (Zl (Xo a.1))) Vq [] (YD a5y (encL a)):=by
 rintro⟨b,⟨⟩⟩ h
 rw[<- a0a]
 refine b4l b ?_
 have:=Ld b h b.v.length 0 1 (by omega) (by omega) (by omega)
 rw[List.length_map]
 exact this
theorem Rc(vs:List Str)(p:List Int){i:Nat}(h1:i<vs.length)(h2:i<p.length):Zn (vs.take (i+1)) (p.take (i+1))=Zn (vs.take i) (p.take i)++[⟨vs[i],p[i]⟩]:=by
 unfold Zn
 rw[List.take_succ_eq_append_getElem h1,List.take_succ_eq_append_getElem h2,List.zipWith_append (by simp[List.length_take];omega)]
 rfl
theorem b6u(vs:List Str)(p:List Int){i:Nat}(h:min vs.length p.length<=i):Zn (vs.take i) (p.take i)=Zn vs p:=by
 unfold Zn
 rw[<- List.take_zipWith]
 exact List.take_of_length_le (by rw[List.length_zipWith];exact h)
theorem LG(vs:List Str)(p:List Int){i:Nat}(h1:i<=vs.length)(h2:i<=p.length):(Zn (vs.take i) (p.take i)).length=i:=by
 unfold Zn
 rw[List.length_zipWith,List.length_take,List.length_take];omega
end Go.Pl

namespace Go.Pl
open Go.RowKit
open Enc (enc dec is)
open EncL (encL decL isL)
set_option maxRecDepth 100000
def Yh:IC:=(.seq (.reg [⟨(some 4),(.box 2 (.t 0)),0,none⟩,⟨(some 8),(.mv (.c (.int .i64 0))),1,none⟩] none) (.seq (.seq (.reg [⟨(some 11),(.load true [(.sl 1),(.int .i64)] (.t 4)),0,none⟩,⟨(some 12),(.call (.c (.fn 50)) [(.t 11)]),0,none⟩,⟨(some 13),(.un .not (.t 12)),2,none⟩,⟨(some 14),(.mv (.t 13)),2,none⟩,⟨(some 15),(.mv (.t 1)),2,(some (14,false))⟩,⟨(some 16),(.call (.c (.fn 95)) [(.t 15)]),2,(some (14,false))⟩,⟨(some 17),(.un .not (.t 16)),4,(some (14,false))⟩,⟨(some 18),(.pick (.t 14) (.c (.bool true)) (.t 17)),4,none⟩,⟨(some 19),(.mv (.t 18)),4,none⟩,⟨(some 20),(.mv (.t 2)),4,(some (19,false))⟩,⟨(some 21),(.un .not (.t 20)),4,(some (19,false))⟩,⟨(some 22),(.pick (.t 19) (.c (.bool true)) (.t 21)),4,none⟩] none) (.cond (.t 22) (.seq (.reg [⟨(some 8),(.mv (.c (.int .i64 1))),0,none⟩] none) .ret) .skip)) (.seq (.seq (.reg [⟨(some 23),(.mv (.t 1)),0,none⟩,⟨(some 24),(.len 1 (.t 23)),0,none⟩,⟨(some 25),(.mv (.c (.int .i64 0))),0,none⟩] none) (.block 0 (.loop [25,24,23,3,4] (.seq (.reg [⟨(some 26),(.bin .num .lss (.t 25) (.t 24)),0,none⟩] none) (.seq (.cond (.t 26) .skip (.exit 0)) (.seq (.block 1 (.seq (.reg [⟨(some 27),(.iaddr 3 (.t 23) (.t 25)),0,none⟩,⟨(some 28),(.load true [.bool,(.int .i64),(.sl 2)] (.t 27)),0,none⟩,⟨(some 10),(.alloc (.agg [(.bool false),(.int .i64 0),(.sl 0 true [])])),0,none⟩,⟨none,(.store 3 (.t 10) (.t 28)),1,none⟩] none) (.reg [⟨(some 29),(.mv (.t 3)),0,none⟩,⟨(some 30),(.faddr 1 (.t 10)),0,none⟩,⟨(some 31),(.load true [(.int .i64),(.sl 2)] (.t 30)),0,none⟩,⟨(some 32),(.call (.c (.fn 174)) [(.t 31)]),0,none⟩,⟨(some 33),(.append 9 1 16 (.t 29) (.t 32)),2,none⟩,⟨(some 3),(.mv (.t 33)),3,none⟩] none))) (.reg [⟨(some 34),(.bin .num .add (.t 25) (.c (.int .i64 1))),0,none⟩,⟨(some 25),(.mv (.t 34)),0,none⟩] none))))))) (.seq (.seq (.reg [⟨(some 35),(.mv (.t 3)),0,none⟩,⟨(some 36),(.mkfn 176 [] [(.t 4)]),0,none⟩,⟨(some 37),(.call (.c (.fn 175)) [(.t 35),(.t 36)]),0,none⟩] none) (.cond (.t 37) (.seq (.reg [⟨(some 8),(.mv (.c (.int .i64 7))),0,none⟩] none) .ret) .skip)) (.seq (.reg [⟨(some 8),(.mv (.c (.int .i64 0))),0,none⟩] none) .ret)))))
def Ye:List IRes:=[(.tmp 8)]
abbrev TM:Nat:=38
def Yu:ZC:=Xn [(50,.pure (preT (fun x:BoxT×Unit=>ZP x.1)) (Zg (fun x:BoxT×Unit=>Xo x.1))),(95,.pure (preT (fun x:List Fact×Unit=>Zo x.1)) (Zg (fun x:List Fact×Unit=>Y6 x.1))),(174,.pure (preT (fun x:Lin×Unit=>decide (x.1.t.length<=1000000))) (Zg (fun x:Lin×Unit=>Zm x.1))),(175,.own (Wh 176) PK)]
theorem a9l{G:PV->Prop}(b:BoxT)(fs:List Fact)(ok:Bool)(h:(Go.Pl.preT (fun(x:BoxT×Unit)=>ZP x.1) [(.agg [(.sl 1 false (List.map enc b.v)),(.int .i64 b.m)])])=true∧(∃ y0:Bool,AV.pv (Zg (fun(x:BoxT×Unit)=>Xo x.1) [(.agg [(.sl 1 false (List.map enc b.v)),(.int .i64 b.m)])])=AV.pv (enc y0)∧(if (!y0)=true then G ((.int .i64 1))else((Go.Pl.preT (fun(x:List Fact×Unit)=>Zo x.1) [(.sl 3 false (List.map enc fs))])=true∧(∃ y1:Bool,AV.pv (Zg (fun(x:List Fact×Unit)=>Y6 x.1) [(.sl 3 false (List.map enc fs))])=AV.pv (enc y1)∧(if (!y1)=true then G ((.int .i64 1))else(if (!ok)=true then G ((.int .i64 1))else(At Yu 0 (Za Ye G) Yh 0 38 [(3,(.pv (.sl 0 true []))),(4,(.ptr 0 0)),(23,(.pv (.sl 3 false (List.map enc fs)))),(24,(.pv (.int .i64 (↑(List.length (List.map enc fs)):Int)))),(25,(.pv (.int .i64 0)))] [(.obj (.box [(.pv (.sl 1 false (List.map enc b.v))),(.pv (.int .i64 b.m))]))])))))))):Zc Yu 0 (Za Ye G) Yh [] (YD 38 [enc b,enc fs,.bool ok,.sl 0 true []]):=Zc.tp (.req (.abs (Bool) (fun YY=>AV.pv (enc YY)) (.ask (.lit (.lit (.lit (.lit (.lit (.lit (.lit (.nil)))))))) (.lit (.req (.abs (Bool) (fun YY=>AV.pv (enc YY)) (.lit (.lit (.ask (.lit (.lit (.lit (.nil)))) (.lit (.lit (.ask (.nil) (.nil))))))))))))) h (by kernel_rfl)
theorem A7{G:PV->Prop}(b:BoxT)(fs:List Fact)(ok:Bool)(i:Int)(h:if (decide (i<(↑(List.length fs):Int)))=true then(decide (0<=i)&&decide (Int.toNat i<List.length (List.map enc fs))&&Enc.sz Fact==3)=true∧(∃ y0:Fact,AV.pv (PV.rptr (PV.cells (List.getD (List.map enc fs) (Int.toNat i) default)))=AV.pv (PV.rptr (PV.cells ((enc) y0)))∧((Go.Pl.preT (fun(x:Lin×Unit)=>decide (List.length x.1.t<=1000000)) [(.agg [(.int .i64 (PV.asInt (List.getD (PV.cells (enc y0)) (0+1) default))),(.sl 2 false (PV.asXs (List.getD (PV.cells (enc y0)) (0+1+1) default)))])])=true∧(∃ y1:List Str,AV.pv (Zg (fun(x:Lin×Unit)=>Zm x.1) [(.agg [(.int .i64 (PV.asInt (List.getD (PV.cells (enc y0)) (0+1) default))),(.sl 2 false (PV.asXs (List.getD (PV.cells (enc y0)) (0+1+1) default)))])])=AV.pv (enc y1)∧((List.isEmpty (List.map enc y1)||Enc.sz Str==1)=true∧(if (List.isEmpty (List.map enc y1))=true then At Yu 0 (Za Ye G) Yh 0 38 [(3,(.pv (.sl 0 true []))),(4,(.ptr 0 0)),(23,(.pv (.sl 3 false (List.map enc fs)))),(24,(.pv (.int .i64 (↑(List.length fs):Int)))),(25,(.pv (.int .i64 (IntKind.wrap IntKind.i64 (i+1)))))] [(.obj (.box [(.pv (.sl 1 false (List.map enc b.v))),(.pv (.int .i64 b.m))]))]else(((List.isEmpty ([]:List PV)||0==1)&&decide ((List.length ([]:List PV)+List.length (List.map enc y1))*16<=1099511627776)&&decide (List.length ([]:List PV)+List.length (List.map enc y1)<=1099511627776))=true∧(At Yu 0 (Za Ye G) Yh 0 38 [(3,(.row 0 (List.length ([]:List PV)+List.length (List.map enc y1)) 0 (List.length ([]:List PV)+List.length (List.map enc y1)))),(4,(.ptr 1 0)),(23,(.pv (.sl 3 false (List.map enc fs)))),(24,(.pv (.int .i64 (↑(List.length fs):Int)))),(25,(.pv (.int .i64 (IntKind.wrap IntKind.i64 (i+1)))))] [(.obj (.row false 9 1 (([]:List PV)++List.map enc y1))),(.obj (.box [(.pv (.sl 1 false (List.map enc b.v))),(.pv (.int .i64 b.m))]))])))))))else((Wh 176 [(.pv (.sl 0 true [])),(.fn 176 [] [(.ptr 0 0)])] [(.box [(.pv (.sl 1 false (List.map enc b.v))),(.pv (.int .i64 b.m))])])=true∧(G ((.int .i64 0))))):At Yu 0 (Za Ye G) Yh 0 38 [(3,.pv (.sl 0 true [])),(4,.ptr 0 0),(23,.pv (enc fs)),(24,.pv (.int .i64 fs.length)),(25,.pv (.int .i64 i))] [.obj (.box [.pv (enc b.v),.pv (.int .i64 b.m)])]:=At.tp (.lit (.ask (.req (.abs (Fact) (fun YY=>AV.pv (PV.rptr (PV.cells ((enc) YY)))) (.lit (.req (.abs (List Str) (fun YY=>AV.pv (enc YY)) (.req (.lit (.ask (.lit (.nil)) (.req (.lit (.nil))))))))))) (.req (.keep (.lit (.nil)))))) h (by kernel_rfl)
theorem Su{G:PV->Prop}(b:BoxT)(fs:List Fact)(ok:Bool)(i:Int)(q:Nat)(ns:List Str)(h:if (decide (i<(↑(List.length fs):Int)))=true then(decide (0<=i)&&decide (Int.toNat i<List.length (List.map enc fs))&&Enc.sz Fact==3)=true∧(∃ y0:Fact,AV.pv (PV.rptr (PV.cells (List.getD (List.map enc fs) (Int.toNat i) default)))=AV.pv (PV.rptr (PV.cells ((enc) y0)))∧((Go.Pl.preT (fun(x:Lin×Unit)=>decide (List.length x.1.t<=1000000)) [(.agg [(.int .i64 (PV.asInt (List.getD (PV.cells (enc y0)) (0+1) default))),(.sl 2 false (PV.asXs (List.getD (PV.cells (enc y0)) (0+1+1) default)))])])=true∧(∃ y1:List Str,AV.pv (Zg (fun(x:Lin×Unit)=>Zm x.1) [(.agg [(.int .i64 (PV.asInt (List.getD (PV.cells (enc y0)) (0+1) default))),(.sl 2 false (PV.asXs (List.getD (PV.cells (enc y0)) (0+1+1) default)))])])=AV.pv (enc y1)∧((List.isEmpty (List.map enc y1)||Enc.sz Str==1)=true∧((List.length (List.map enc ns)==q&&q==q&&decide ((q+List.length (List.map enc y1))*16<=1099511627776)&&decide (q+List.length (List.map enc y1)<=1099511627776))=true∧(At Yu 0 (Za Ye G) Yh 0 38 [(3,(.row 0 (q+List.length (List.map enc y1)) 0 (q+List.length (List.map enc y1)))),(4,(.ptr 1 0)),(23,(.pv (.sl 3 false (List.map enc fs)))),(24,(.pv (.int .i64 (↑(List.length fs):Int)))),(25,(.pv (.int .i64 (IntKind.wrap IntKind.i64 (i+1)))))] [(.obj (.row false 9 1 (List.map enc ns++List.map enc y1))),(.obj (.box [(.pv (.sl 1 false (List.map enc b.v))),(.pv (.int .i64 b.m))]))]))))))else((Wh 176 [(.row 0 q 0 q),(.fn 176 [] [(.ptr 1 0)])] [(.row false 9 1 (List.map enc ns)),(.box [(.pv (.sl 1 false (List.map enc b.v))),(.pv (.int .i64 b.m))])])=true∧(if (List.any (Ko (List.map enc ns)) fun(s:Str)=> !List.contains (dec (enc b.v)) s)=true then G ((.int .i64 7))else(G ((.int .i64 0)))))):At Yu 0 (Za Ye G) Yh 0 38 [(3,.row 0 q 0 q),(4,.ptr 1 0),(23,.pv (enc fs)),(24,.pv (.int .i64 fs.length)),(25,.pv (.int .i64 i))] [.obj (.row false 9 1 (ns.map enc)),.obj (.box [.pv (enc b.v),.pv (.int .i64 b.m)])]:=At.tp (.lit (.ask (.req (.abs (Fact) (fun YY=>AV.pv (PV.rptr (PV.cells ((enc) YY)))) (.lit (.req (.abs (List Str) (fun YY=>AV.pv (enc YY)) (.req (.req (.lit (.nil))))))))) (.req (.keep (.ask (.nil) (.nil)))))) h (by kernel_rfl)
theorem a7s{G:AV×List AObj×List AObj->Prop}(b:BoxT)(fs:List Fact)(ok:Bool)(n:Nat)(l:List Str)(h:(Go.Pl.preT (fun(x:BoxT×Unit)=>ZP x.1) [(.agg [(.sl 1 false (List.map enc b.v)),(.int .i64 b.m)])])=true∧(∃ y0:Bool,AV.pv (Zg (fun(x:BoxT×Unit)=>Xo x.1) [(.agg [(.sl 1 false (List.map enc b.v)),(.int .i64 b.m)])])=AV.pv (enc y0)∧(if (!y0)=true then G (((.pv (.int .i64 1)),([(.row false 9 1 (List.map enc l))],[])))else((Go.Pl.preT (fun(x:List Fact×Unit)=>Zo x.1) [(.sl 3 false (List.map enc fs))])=true∧(∃ y1:Bool,AV.pv (Zg (fun(x:List Fact×Unit)=>Y6 x.1) [(.sl 3 false (List.map enc fs))])=AV.pv (enc y1)∧(if (!y1)=true then G (((.pv (.int .i64 1)),([(.row false 9 1 (List.map enc l))],[])))else(if (!ok)=true then G (((.pv (.int .i64 1)),([(.row false 9 1 (List.map enc l))],[])))else(At Yu 1 (Zj 1 Ye G) Yh 0 38 [(3,(.row 0 n 0 n)),(4,(.ptr 1 0)),(23,(.pv (.sl 3 false (List.map enc fs)))),(24,(.pv (.int .i64 (↑(List.length (List.map enc fs)):Int)))),(25,(.pv (.int .i64 0)))] [(.obj (.row false 9 1 (List.map enc l))),(.obj (.box [(.pv (.sl 1 false (List.map enc b.v))),(.pv (.int .i64 b.m))]))])))))))):Zc Yu 1 (Zj 1 Ye G) Yh [] (YH 38 [.pv (enc b),.pv (enc fs),.pv (.bool ok),.row 0 n 0 n] [.row false 9 1 (l.map enc)]):=Zc.to (.req (.abs (Bool) (fun YY=>AV.pv (enc YY)) (.ask (.lit (.lit (.lit (.lit (.lit (.lit (.lit (.nil)))))))) (.lit (.req (.abs (Bool) (fun YY=>AV.pv (enc YY)) (.lit (.lit (.ask (.lit (.lit (.lit (.nil)))) (.lit (.lit (.ask (.nil) (.nil))))))))))))) h (by kernel_rfl)
theorem Bb{G:AV×List AObj×List AObj->Prop}(b:BoxT)(fs:List Fact)(ok:Bool)(n:Nat)(l:List Str)(i:Int)(q:Nat)(ns:List Str)(h:if (decide (i<(↑(List.length fs):Int)))=true then(decide (0<=i)&&decide (Int.toNat i<List.length (List.map enc fs))&&Enc.sz Fact==3)=true∧(∃ y0:Fact,AV.pv (PV.rptr (PV.cells (List.getD (List.map enc fs) (Int.toNat i) default)))=AV.pv (PV.rptr (PV.cells ((enc) y0)))∧((Go.Pl.preT (fun(x:Lin×Unit)=>decide (List.length x.1.t<=1000000)) [(.agg [(.int .i64 (PV.asInt (List.getD (PV.cells (enc y0)) (0+1) default))),(.sl 2 false (PV.asXs (List.getD (PV.cells (enc y0)) (0+1+1) default)))])])=true∧(∃ y1:List Str,AV.pv (Zg (fun(x:Lin×Unit)=>Zm x.1) [(.agg [(.int .i64 (PV.asInt (List.getD (PV.cells (enc y0)) (0+1) default))),(.sl 2 false (PV.asXs (List.getD (PV.cells (enc y0)) (0+1+1) default)))])])=AV.pv (enc y1)∧((List.isEmpty (List.map enc y1)||Enc.sz Str==1)=true∧((List.length (List.map enc ns)==q&&q==q&&decide ((q+List.length (List.map enc y1))*16<=1099511627776)&&decide (q+List.length (List.map enc y1)<=1099511627776))=true∧(At Yu 1 (Zj 1 Ye G) Yh 0 38 [(3,(.row 0 (q+List.length (List.map enc y1)) 0 (q+List.length (List.map enc y1)))),(4,(.ptr 1 0)),(23,(.pv (.sl 3 false (List.map enc fs)))),(24,(.pv (.int .i64 (↑(List.length fs):Int)))),(25,(.pv (.int .i64 (IntKind.wrap IntKind.i64 (i+1)))))] [(.obj (.row false 9 1 (List.map enc ns++List.map enc y1))),(.obj (.box [(.pv (.sl 1 false (List.map enc b.v))),(.pv (.int .i64 b.m))]))]))))))else((Wh 176 [(.row 0 q 0 q),(.fn 176 [] [(.ptr 1 0)])] [(.row false 9 1 (List.map enc ns)),(.box [(.pv (.sl 1 false (List.map enc b.v))),(.pv (.int .i64 b.m))])])=true∧(if (List.any (Ko (List.map enc ns)) fun(s:Str)=> !List.contains (dec (enc b.v)) s)=true then G (((.pv (.int .i64 7)),([(.row false 9 1 (List.map enc ns))],[])))else(G (((.pv (.int .i64 0)),([(.row false 9 1 (List.map enc ns))],[]))))))):At Yu 1 (Zj 1 Ye G) Yh 0 38 [(3,.row 0 q 0 q),(4,.ptr 1 0),(23,.pv (enc fs)),(24,.pv (.int .i64 fs.length)),(25,.pv (.int .i64 i))] [.obj (.row false 9 1 (ns.map enc)),.obj (.box [.pv (enc b.v),.pv (.int .i64 b.m)])]:=At.to (.lit (.ask (.req (.abs (Fact) (fun YY=>AV.pv (PV.rptr (PV.cells ((enc) YY)))) (.lit (.req (.abs (List Str) (fun YY=>AV.pv (enc YY)) (.req (.req (.lit (.nil))))))))) (.req (.keep (.ask (.nil) (.nil)))))) h (by kernel_rfl)
def Nk:IC:=(.seq (.reg [⟨(some 2),(.box 2 (.t 0)),0,none⟩,⟨(some 3),(.box 1 (.t 1)),1,none⟩,⟨(some 4),(.mv (.c .nilfn)),2,none⟩] none) (.seq (.reg [⟨(some 5),(.mkfn 177 [] [(.t 2),(.t 3)]),0,none⟩,⟨(some 4),(.mv (.t 5)),0,none⟩] none) .ret))
def NE:List IRes:=[(.tmp 4)]
abbrev c0c:Nat:=6
def Ov:ZC:=Xn []
theorem c4b{G:AV×List AObj×List AObj->Prop}(b:BoxT)(fs:List Fact)(h:G (((.fn 177 [] [(.ptr 0 0),(.ptr 1 0)]),([],[(.box [(.pv (.sl 1 false (List.map enc b.v))),(.pv (.int .i64 b.m))]),(.box [(.pv (.sl 3 false (List.map enc fs)))])])))):Zc Ov 0 (Zj 0 NE G) Nk [] (YH 6 [.pv (enc b),.pv (enc fs)] []):=Zc.to (.nil) h (by kernel_rfl)
def U0:IC:=(.block 1 (.reg [⟨(some 20),(.load false [(.sl 1)] (.t 7)),0,none⟩,⟨(some 21),(.mv (.t 8)),0,none⟩,⟨(some 22),(.bslice 34 1 1 (.sl 0 true []) [(0,(.t 21))]),0,none⟩,⟨(some 23),(.append 34 1 24 (.t 20) (.t 22)),1,none⟩,⟨none,(.store 1 (.t 7) (.t 23)),2,none⟩] none))
def Nw:ZC:=Xn [(116,.pure (preT (fun x:BoxT×List Fact×Bool×NilS×Unit=>ZP x.1&&Zo x.2.1&&decide (x.2.1.length<=100))) (Zg (fun x:BoxT×List Fact×Bool×NilS×Unit=>Zp x.1 x.2.1 x.2.2.1 []))),(117,.own Y3 WF)]
theorem c0o{G:Zt->Prop}(E:Yx)(p:List Int)(vs:List Coef)(h:E 99 ⟨ZM 25 0 [],[(.obj (.box [(.row 1 1 0 1)])),(.obj (.row false 34 1 [(.sl 1 false (List.map enc p))]))]⟩ (fun x S'=>Jb Nw E 1 (fun st=>G st.heap) U0 99 x S')):Zz Nw E 1 (fun st=>G st.heap) (.inl U0) [.seq (.ext 99 [])] ⟨ZM 25 0 [(7,.ptr 0 0),(8,.pv (enc p)),(18,.pv (enc p)),(19,.pv (enc vs))],[.obj (.box [.pv (.sl 0 true [])])]⟩:=Zz.mh (.lit (.lit (.lit (.lit (.lit (.nil)))))) h (by kernel_rfl)
theorem b8g{G:Zt->Prop}(E:Yx)(p:List Int)(vs:List Coef)(n:Nat)(xs:List (List Int))(h:(List.length (List.map enc xs)==n&&n==n&&decide ((n+List.length (List.drop 0 (List.take 1 [enc p])))*24<=1099511627776)&&decide (n+List.length (List.drop 0 (List.take 1 [enc p]))<=1099511627776))=true∧(E 99 ⟨ZM 25 0 [],[(.obj (.box [(.row 1 (n+List.length (List.drop 0 (List.take 1 [enc p]))) 0 (n+List.length (List.drop 0 (List.take 1 [enc p]))))])),(.obj (.row false 34 1 (List.map enc xs++List.drop 0 (List.take 1 [enc p]))))]⟩ (fun x S'=>Jb Nw E 2 (fun st=>G st.heap) U0 99 x S'))):Zz Nw E 2 (fun st=>G st.heap) (.inl U0) [.seq (.ext 99 [])] ⟨ZM 25 0 [(7,.ptr 0 0),(8,.pv (enc p)),(18,.pv (enc p)),(19,.pv (enc vs))],[.obj (.box [.row 1 n 0 n]),.obj (.row false 34 1 (xs.map enc))]⟩:=Zz.mh (.lit (.lit (.req (.nil)))) h (by kernel_rfl)
def GK:IC:=(.seq (.reg [⟨(some 2),(.box 2 (.t 0)),0,none⟩,⟨(some 4),(.mv (.c (.sl 0 true []))),1,none⟩,⟨(some 5),(.mv (.c (.int .i64 0))),1,none⟩] none) (.seq (.seq (.reg [⟨(some 9),(.load true [(.sl 1),(.int .i64)] (.t 2)),0,none⟩,⟨(some 10),(.mv (.t 1)),0,none⟩,⟨(some 11),(.call (.c (.fn 116)) [(.t 9),(.t 10),(.c (.bool true)),(.c (.sl 0 true []))]),0,none⟩,⟨(some 6),(.mv (.t 11)),2,none⟩] none) (.seq (.reg [⟨(some 12),(.mv (.t 6)),0,none⟩,⟨(some 13),(.bin .num .neq (.t 12) (.c (.int .i64 0))),0,none⟩] none) (.cond (.t 13) (.seq (.reg [⟨(some 14),(.mv (.t 6)),0,none⟩,⟨(some 4),(.mv (.c (.sl 0 true []))),0,none⟩,⟨(some 5),(.mv (.t 14)),0,none⟩] none) .ret) .skip))) (.seq (.reg [⟨(some 7),(.alloc (.sl 0 true [])),0,none⟩] none) (.seq (.seq (.reg [⟨(some 15),(.load true [(.sl 1),(.int .i64)] (.t 2)),0,none⟩,⟨(some 16),(.mv (.t 1)),0,none⟩,⟨(some 17),(.call (.c (.fn 117)) [(.t 15),(.t 16)]),0,none⟩] none) (.block 0 (.ext 0 [17,18,7,8,21,20,22,23]))) (.seq (.reg [⟨(some 24),(.load false [(.sl 1)] (.t 7)),0,none⟩,⟨(some 4),(.mv (.t 24)),0,none⟩,⟨(some 5),(.mv (.c (.int .i64 0))),0,none⟩] none) .ret)))))
def Da:List IRes:=[(.tmp 4),(.tmp 5)]
abbrev c4a:Nat:=25
def Jc:ZC:=Xn [(116,.pure (preT (fun x:BoxT×List Fact×Bool×NilS×Unit=>ZP x.1&&Zo x.2.1&&decide (x.2.1.length<=100))) (Zg (fun x:BoxT×List Fact×Bool×NilS×Unit=>Zp x.1 x.2.1 x.2.2.1 []))),(117,.own Y3 WF)]
theorem c8l{G:PV->Prop}(E:Yx)(b:BoxT)(fs:List Fact)(h:(Go.Pl.preT (fun(x:BoxT×List Fact×Bool×NilS×Unit)=>ZP x.1&&Zo x.2.1&&decide (List.length x.2.1<=100)) [(.agg [(.sl 1 false (List.map enc b.v)),(.int .i64 b.m)]),(.sl 3 false (List.map enc fs)),(.bool true),(.sl 0 true [])])=true∧(∃ y0:Int,AV.pv (Zg (fun(x:BoxT×List Fact×Bool×NilS×Unit)=>Zp x.1 x.2.1 x.2.2.1 []) [(.agg [(.sl 1 false (List.map enc b.v)),(.int .i64 b.m)]),(.sl 3 false (List.map enc fs)),(.bool true),(.sl 0 true [])])=AV.pv (enc y0)∧(if (y0 != 0)=true then G ((.tup [(.sl 0 true []),(.int .i64 y0)]))else((Y3 [(.pv (.agg [(.sl 1 false (List.map enc b.v)),(.int .i64 b.m)])),(.pv (.sl 3 false (List.map enc fs)))] [])=true∧(E 0 ⟨ZM 25 0 [(7,(.ptr 0 0)),(8,.undef),(17,(.fn 177 [] [(.ptr 1 0),(.ptr 2 0)])),(18,.undef),(20,.undef),(21,.undef),(22,.undef),(23,.undef)],[(.obj (.box [(.pv (.sl 0 true []))])),(.obj (.box [(.pv (.sl 1 false (List.map enc b.v))),(.pv (.int .i64 b.m))])),(.obj (.box [(.pv (.sl 3 false (List.map enc fs)))]))]⟩ (fun x S'=>Jb Jc E 0 (Za Da G) GK 0 x S')))))):Zz Jc E 0 (Za Da G) (.inl GK) [] (YD 25 [enc b,enc fs]):=Zz.mp (.req (.abs (Int) (fun YY=>AV.pv (enc YY)) (.lit (.ask (.nil) (.req (.keep (.nil))))))) h (by kernel_rfl)
theorem c0r{G:PV->Prop}(E:Yx)(b:BoxT)(fs:List Fact)(h:G ((.tup [(.sl 0 true []),(.int .i64 0)]))):Jb Jc E 0 (Za Da G) GK 0 .normal ⟨ZM 25 0 [(7,.ptr 0 0)],[.obj (.box [.pv (.sl 0 true [])])]⟩:=Zz.mp (.nil) h (by kernel_rfl)
theorem b7m{G:PV->Prop}(E:Yx)(b:BoxT)(fs:List Fact)(n:Nat)(xs:List (List Int))(h:(List.length (List.map enc xs)==n)=true∧(G ((.tup [(.sl 1 false (List.drop 0 (List.take n (List.map enc xs)))),(.int .i64 0)])))):Jb Jc E 0 (Za Da G) GK 0 .normal ⟨ZM 25 0 [(7,.ptr 0 0)],[.obj (.box [.row 1 n 0 n]),.obj (.row false 34 1 (xs.map enc))]⟩:=Zz.mp (.req (.nil)) h (by kernel_rfl)
def De:IC:=(.seq (.reg [⟨(some 2),(.box 2 (.t 0)),0,none⟩,⟨(some 4),(.mv (.c (.int .i64 0))),1,none⟩,⟨(some 5),(.mv (.c (.int .i64 0))),1,none⟩] none) (.seq (.reg [⟨(some 9),(.load true [(.sl 1),(.int .i64)] (.t 2)),0,none⟩,⟨(some 10),(.mv (.t 1)),0,none⟩,⟨(some 11),(.call (.c (.fn 45)) [(.t 9),(.t 10)]),0,none⟩,⟨(some 8),(.mv (.t 11)),2,none⟩,⟨(some 12),(.extract (.t 8) 0),2,none⟩,⟨(some 13),(.extract (.t 8) 1),2,none⟩,⟨(some 6),(.mv (.t 12)),2,none⟩,⟨(some 7),(.mv (.t 13)),2,none⟩] none) (.seq (.reg [⟨(some 14),(.mv (.t 6)),0,none⟩,⟨(some 15),(.len 1 (.t 14)),0,none⟩,⟨(some 16),(.mv (.t 7)),0,none⟩,⟨(some 4),(.mv (.t 15)),0,none⟩,⟨(some 5),(.mv (.t 16)),0,none⟩] none) .ret)))
def Gs:List IRes:=[(.tmp 4),(.tmp 5)]
abbrev a6q:Nat:=17
def BA:ZC:=Xn [(45,.pure (preT (fun x:BoxT×List Fact×Unit=>ZP x.1&&Zo x.2.1&&decide (x.2.1.length<=100)&&decide (x.1.v.length<=1000))) (Zg (fun x:BoxT×List Fact×Unit=>Yy x.1 x.2.1)))]
theorem a9c{G:PV->Prop}(b:BoxT)(fs:List Fact)(h:(Go.Pl.preT (fun(x:BoxT×List Fact×Unit)=>ZP x.1&&Zo x.2.1&&decide (List.length x.2.1<=100)&&decide (List.length x.1.v<=1000)) [(.agg [(.sl 1 false (List.map enc b.v)),(.int .i64 b.m)]),(.sl 3 false (List.map enc fs))])=true∧(∃ y0:List (List Int)×Int,AV.pv (Zg (fun(x:BoxT×List Fact×Unit)=>Yy x.1 x.2.1) [(.agg [(.sl 1 false (List.map enc b.v)),(.int .i64 b.m)]),(.sl 3 false (List.map enc fs))])=AV.pv (enc y0)∧(G ((.tup [(.int .i64 (↑(List.length (List.map enc y0.1)):Int)),(.int .i64 y0.2)]))))):Zc BA 0 (Za Gs G) De [] (YD 17 [enc b,enc fs]):=Zc.tp (.req (.abs (List (List Int)×Int) (fun YY=>AV.pv (enc YY)) (.nil))) h (by kernel_rfl)
end Go.Pl

namespace Go.Pl
open Go.RowKit
open Enc (enc dec is)
open EncL (encL decL isL)
end Go.Pl

namespace Go.Pl
open Go.RowKit
open Enc (enc dec is)
open EncL (encL decL isL)
set_option maxRecDepth 100000
-- IMPOSSIBLE
end Go.Pl

namespace Go.Pl
open Go.RowKit
open Enc (enc dec is)
open EncL (encL decL isL)
end Go.Pl

namespace Go.Pl
open Go.RowKit
open Enc (enc dec is)
open EncL (encL decL isL)
def nmI(l:Lin)(i:Nat):List Str:=(l.t.take i).map (·.v)
theorem CS(l:Lin){i:Nat}(h:i<l.t.length):(nmI l (i+1)).map (enc:Str->PV)=(nmI l i).map enc++[.str l.t[i].v.s]:=by
 unfold nmI
 rw[List.take_succ_eq_append_getElem h,List.map_append,List.map_append];rfl
theorem Sc(l:Lin){i:Nat}(h:i<=l.t.length):(nmI l i).length=i:=by unfold nmI;rw[List.length_map,List.length_take];omega
theorem Oa(l:Lin):nmI l l.t.length=Zm l:=by unfold nmI Zm;rw[List.take_of_length_le (Nat.le_refl _)]
theorem Ps{q sz m:Nat}{xs:List PV}(h:xs.length=q)(h1:(q+m)*sz<=1099511627776)(h2:q+m<=1099511627776):(xs.length==q&&q==q&&decide ((q+m)*sz<=1099511627776)&&decide (q+m<=1099511627776))=true:=by simp[h,h1,h2]
theorem OU(l:Lin)(hl:l.t.length<=1000000): ∀ (k i:Nat),k+i=l.t.length->1<=i ->
  At YM 0 (Zj 0 Yv fun r=>r=Km (Zm l)) Yq 0 20 [(3,.row 0 i 0 i),(7,.pv (enc l.t)),(8,.pv (.int .i64 l.t.length)),(9,.pv (.int .i64 i))] [.obj (.row false 9 1 ((nmI l i).map enc))]:=by
 intro k
 induction k with
 | zero=>
  intro i hi h1
  obtain rfl:i=l.t.length:=by omega
  refine Ra l _ _ (nmI l l.t.length) (Z8 (Yc (by omega)) ?_)
  rw[Oa]
  unfold Km
  have e:(Zm l).length=l.t.length:=by rw[<- Oa,Sc l (Nat.le_refl _)]
  rw[e]
 | succ k ih=>
  intro i hi h1
  have hlt:i<l.t.length:=by omega
  refine Ra l i i (nmI l i) (Ya (Z4 hlt) ⟨ZG hlt rfl,Z0 hlt ⟨Ps (m:=1) (by rw[List.length_map,Sc l (by omega)]) (by omega) (by omega),?_⟩⟩)
  have:=ih (i+1) (by omega) (by omega)
  rw[CS l hlt,<- next (by omega)]at this
  exact this
theorem a4a: ∀ args os,KX args os=true->Zc YM os.length (Zj os.length Yv fun r=>r=Ht args os) Yq [] (YH Sv args os):=by
 intro args os h
 unfold KX at h
 split at h
 ·rename_i a
  simp only[Bool.and_eq_true,Bool.not_eq_true',decide_eq_true_eq]at h
  obtain⟨⟨h1,h2⟩,h3⟩:=h
  obtain⟨l,rfl⟩:=Ym h1
  rw[Enc.dec_enc]at h2 h3
  have hlt:0<l.t.length:=by
   rcases Nat.eq_zero_or_pos l.t.length with e|e
   ·rw[List.length_eq_zero_iff.1 e]at h2;cases h2
   ·exact e
  have ev:Ht [.pv (enc l)] []=Km (Zm l):=by show Km (Zm (dec (enc l:PV)))=_;rw[Enc.dec_enc]
  rw[ev]
  refine a0v l ?_
  rw[List.length_map]
  refine Rk l ((0:Nat):Int) (Ya (Z4 hlt) ⟨ZG hlt rfl,Z0 hlt ?_⟩)
  have:=OU l h3 (l.t.length - 1) 1 (by omega) (by omega)
  rw[show(1:Nat)=0+1 from rfl,CS l hlt]at this
  exact this
 ·cases h
theorem ER: ∀ args os,KU args os=true->Zc YM os.length (Zj os.length Yv fun r=>r=Co args os) Yq [] (YH Sv args os):=by
 intro args os h
 unfold KU at h
 split at h
 ·rename_i a
  simp only[Bool.and_eq_true,List.isEmpty_iff]at h
  obtain⟨h1,h2⟩:=h
  obtain⟨l,rfl⟩:=Ym h1
  rw[Enc.dec_enc]at h2
  refine a0v l ?_
  rw[List.length_map]
  exact Rk l ((0:Nat):Int) (Z8 (Yc (by rw[h2];simp)) rfl)
 ·cases h
theorem Fz(l:Lin)(hl:l.t.length<=1000000): ∀ (k i:Nat),k+i=l.t.length->1<=i ->
  At YM 0 (Za Yv (Zl (Zm l))) Yq 0 20 [(3,.row 0 i 0 i),(7,.pv (enc l.t)),(8,.pv (.int .i64 l.t.length)),(9,.pv (.int .i64 i))] [.obj (.row false 9 1 ((nmI l i).map enc))]:=by
 intro k
 induction k with
 | zero=>
  intro i hi h1
  obtain rfl:i=l.t.length:=by omega
  refine Ai l _ _ (nmI l l.t.length) (Z8 (Yc (by omega)) ⟨by simp[Sc],?_⟩)
  rw[List.drop_zero,List.take_of_length_le (by rw[List.length_map,Sc l (Nat.le_refl _)];exact Nat.le_refl _),Oa]
  exact ZV (x:=Zm l) rfl
 | succ k ih=>
  intro i hi h1
  have hlt:i<l.t.length:=by omega
  refine Ai l i i (nmI l i) (Ya (Z4 hlt) ⟨ZG hlt rfl,Z0 hlt ⟨Ps (m:=1) (by rw[List.length_map,Sc l (by omega)]) (by omega) (by omega),?_⟩⟩)
  have:=ih (i+1) (by omega) (by omega)
  rw[CS l hlt,<- next (by omega)]at this
  exact this
theorem F5: ∀ a:Lin×Unit,decide (a.1.t.length<=1000000)=true->Zc YM 0 (Za Yv (Zl (Zm a.1))) Yq [] (YD Sv (encL a)):=by
 rintro⟨l,⟨⟩⟩ h
 have h:l.t.length<=1000000:=of_decide_eq_true h
 refine a9u l ?_
 rw[List.length_map]
 by_cases h0:l.t.length=0
 ·refine Am l ((0:Nat):Int) (Z8 (Yc (by omega)) ?_)
  have:Zm l=[]:=by unfold Zm;rw[List.length_eq_zero_iff.1 h0];rfl
  rw[this]
  exact⟨rfl,rfl⟩
 ·have hlt:0<l.t.length:=by omega
  refine Am l ((0:Nat):Int) (Ya (Z4 hlt) ⟨ZG hlt rfl,Z0 hlt ?_⟩)
  have:=Fz l h (l.t.length - 1) 1 (by omega) (by omega)
  rw[show(1:Nat)=0+1 from rfl,CS l hlt]at this
  exact this
theorem b3u: ∀ args os,KH args os=true->Zc F7 os.length (Zj os.length Pw fun r=>r=CP args os) PN [] (YH b7w args os):=by
 intro args os h
 unfold KH at h
 split at h
 ·rename_i s v m
  simp only[Bool.and_eq_true]at h
  obtain⟨h1,h2⟩:=h
  obtain⟨l,rfl⟩:=Ym h1
  rw[Enc.dec_enc]at h2
  have ev:CP [.pv (.str s),.ptr 0 0] [.box [.pv (enc l),.pv (.int .i64 m)]]=(.pv (.bool (!(l.contains ⟨s⟩))),[.box [.pv (enc l),.pv (.int .i64 m)]],[]):=by
   show(AV.pv (.bool (!((dec (enc l:PV):List Str).contains ⟨s⟩))),_,_)=_
   rw[Enc.dec_enc]
  rw[ev]
  exact c6f s ⟨l,m⟩ ⟨Zh (l,⟨s⟩,()) rfl h2,Ze (l,⟨s⟩,()) rfl rfl⟩
 ·cases h
theorem Ph{n m:Nat}{xs:List PV}(h:Te n m xs=true): ∃ l:List Str,xs=l.map enc∧m=n∧l.length=n∧l.length<=9223372036854775807:=by
 simp only[Te,Bool.and_eq_true,beq_iff_eq]at h
 obtain⟨⟨⟨h1,h2⟩,h3⟩,h4⟩:=h
 obtain⟨l,hl⟩:=Ym h3
 have hl:PV.sl 1 false xs=PV.sl 1 false (l.map enc):=hl
 injection hl with _ _ hx
 subst hx
 have e:Ko (l.map enc)=l:=Enc.dec_enc l
 rw[e]at h4
 exact⟨l,rfl,h1,by simpa using h2,ZL.1 h4⟩
theorem Uy(l:List Str):Ko (l.map enc)=l:=Enc.dec_enc l
theorem Cr{l:List Str}{n:Nat}(hn:l.length=n)(hs:l.length<=9223372036854775807):Te n n (l.map enc)=true:=by
 have hc:Wz (List Str) (.sl 1 false (l.map enc))=true:=ZQ l
 simp only[Te,hc,Uy,ZL.2 hs,List.length_map,hn]
 simp
theorem a9d{l:List Str}{i:Nat}(h:i<l.length):List.getD (List.map (enc:Str->PV) l) (0+Int.toNat (i:Int)) default=enc l[i]:=by simp[List.getD,h]
theorem c0w(s:List UInt8)(l:List Str)(m:Int)(h:Zv l=true):KH [.pv (.str s),.ptr 0 0] [.box [.pv (enc l),.pv (.int .i64 m)]]=true:=by
 show(Wz (List Str) (enc l)&&Zv (dec (enc l:PV):List Str))=true
 rw[ZQ,Enc.dec_enc,h];rfl
theorem b2m(l:List Str)(n:Nat)(b:BoxT)(hn:l.length=n)(hl:l.length<=9223372036854775807)(hb:Zv b.v=true): ∀ (j i:Nat),j+i=n->(∀ k (h:k<l.length),k<i->(!(b.v.contains l[k]))=false) ->
  At Jh 2 (Zj 2 U3 fun r=>r=(.pv (.int .i64 (Zx (fun s:Str=> !(b.v.contains s)) l)),[.row false 9 1 (l.map enc),.box [.pv (enc b.v),.pv (.int .i64 b.m)]],[])) Ux 0 19 [(0,.row 0 n 0 n),(1,.fn 176 [] [.ptr 1 0]),(7,.pv (.int .i64 n)),(8,.pv (.int .i64 i))] [.obj (.row false 9 1 (l.map enc)),.obj (.box [.pv (enc b.v),.pv (.int .i64 b.m)])]:=by
 intro j
 induction j with
 | zero=>
  intro i hi hno
  refine b5l l n b i (Z8 (Yc (by omega)) ?_)
  rw[UQ _ _ (fun k hk=>hno k hk (by omega))]
  rfl
 | succ j ih=>
  intro i hi hno
  have hlt:i<l.length:=by omega
  refine b5l l n b i (Ya (Z4 (by omega)) ?_)
  simp only[a9d hlt]
  refine⟨by simp;omega,by simp;omega,rfl,c0w _ _ _ hb,?_⟩
  rw[Enc.dec_enc]
  refine Vj (fun h=> ?_) fun h=> ?_
  ·have h:b.v.contains l[i]=false:=h
   rw[UL (fun s:Str=> !(b.v.contains s)) l i hlt hno (by rw[h];rfl)]
   rfl
  ·have h:b.v.contains l[i]=true:=h
   rw[next (by omega)]
   refine ih (i+1) (by omega) fun k hk hki=> ?_
   by_cases e:k=i
   ·subst e;rw[h];rfl
   ·exact hno k hk (by omega)
theorem b9q: ∀ args os,Wh 176 args os=true->Zc Jh os.length (Zj os.length U3 fun r=>r=CL args os) Ux [] (YH c7i args os):=by
 intro args os h
 unfold Wh at h
 split at h
 ·rename_i n m g ty xs v k
  simp only[Bool.and_eq_true,beq_iff_eq]at h
  obtain⟨⟨⟨⟨rfl,rfl⟩,h3⟩,h4⟩,h5⟩:=h
  obtain⟨l,rfl,rfl,hn,hl⟩:=Ph h3
  obtain⟨bv,rfl⟩:=Ym h4
  rw[Enc.dec_enc]at h5
  have ev:CL [.row 0 m 0 m,.fn 176 [] [.ptr 1 0]] [.row false 9 1 (l.map enc),.box [.pv (enc bv),.pv (.int .i64 k)]]=(.pv (.int .i64 (Zx (fun s:Str=> !(bv.contains s)) l)),[.row false 9 1 (l.map enc),.box [.pv (enc bv),.pv (.int .i64 k)]],[]):=by
   show(AV.pv (.int .i64 (Zx (fun s:Str=> !((dec (enc bv:PV):List Str).contains s)) (Ko (l.map enc)))),_,_)=_
   rw[Enc.dec_enc,Uy]
  rw[ev]
  exact c9s l m ⟨bv,k⟩ (b2m l m ⟨bv,k⟩ hn hl h5 m 0 rfl fun k _ h=>by omega)
 ·rename_i g v k
  simp only[Bool.and_eq_true,beq_iff_eq]at h
  obtain⟨⟨rfl,h4⟩,h5⟩:=h
  obtain⟨bv,rfl⟩:=Ym h4
  exact c7u ⟨bv,k⟩ (c5w ⟨bv,k⟩ 0 (Z8 (by decide) rfl))
 ·cases h
theorem b9x: ∀ args os,Wh 176 args os=true->Zc a2w os.length (Zj os.length Pb fun r=>r=PK args os) Ac [] (YH c3u args os):=by
 intro args os h
 have h0:=h
 unfold Wh at h
 split at h
 ·rename_i n m g ty xs v k
  simp only[Bool.and_eq_true,beq_iff_eq]at h
  obtain⟨⟨⟨⟨rfl,rfl⟩,h3⟩,h4⟩,h5⟩:=h
  obtain⟨l,rfl,rfl,hn,hl⟩:=Ph h3
  obtain⟨bv,rfl⟩:=Ym h4
  refine c8t l m ⟨bv,k⟩ ⟨h0,?_⟩
  rw[XI]
  rfl
 ·rename_i g v k
  simp only[Bool.and_eq_true,beq_iff_eq]at h
  obtain⟨⟨rfl,h4⟩,h5⟩:=h
  obtain⟨bv,rfl⟩:=Ym h4
  exact c8r ⟨bv,k⟩ ⟨h0,rfl⟩
 ·cases h
def Jn(fs:List Fact):List Str:=fs.flatMap fun f=>Zm f.l
theorem Kq{fs:List Fact}{i:Nat}(h:i<fs.length):Jn (fs.take (i+1))=Jn (fs.take i)++Zm fs[i].l:=by
 unfold Jn
 rw[List.take_succ_eq_append_getElem h,List.flatMap_append];simp
theorem UJ{fs:List Fact}(hv:Y6 fs=true){i:Nat}(hi:i<fs.length):(Zm fs[i].l).length<=12:=by
 unfold Zm
 rw[List.length_map]
 unfold Y6 at hv
 exact Qn (List.all_eq_true.1 hv _ (List.getElem_mem hi))
theorem Hl{fs:List Fact}(hv:Y6 fs=true): ∀ i,i<=fs.length->(Jn (fs.take i)).length<=12*i
 | 0,_=>by simp[Jn]
 | i+1,h=>by
  rw[Kq (by omega),List.length_append]
  have:=Hl hv i (by omega)
  have:=UJ hv (i:=i) (by omega)
  omega
def inE(vs:List Str)(ns:List Str):Int:=if UW vs ns then 0 else 7
theorem Rp(vs ns:List Str):(ns.any fun s=> !(vs.contains s)) = !(UW vs ns):=by
 unfold UW
 induction ns with
 | nil=>rfl
 | cons s r ih=>simp only[List.any_cons,List.all_cons,ih,Bool.not_and]
theorem Pi(b:BoxT)(fs:List Fact)(ok:Bool)(l:List Str)(hb:Zv b.v=true)(hf:Zo fs=true)(hv:Y6 fs=true)(hfl:fs.length<=100)(hl:l.length<=1000)(n:Nat)(ls:List Str): ∀ (k i:Nat),k+i=fs.length ->
  At Yu 1 (Zj 1 Ye fun r=>r=(.pv (.int .i64 (inE b.v (l++Jn fs))),[.row false 9 1 ((l++Jn fs).map enc)],[])) Yh 0 38 [(3,.row 0 (l++Jn (fs.take i)).length 0 (l++Jn (fs.take i)).length),(4,.ptr 1 0),(23,.pv (enc fs)),(24,.pv (.int .i64 fs.length)),(25,.pv (.int .i64 i))] [.obj (.row false 9 1 ((l++Jn (fs.take i)).map enc)),.obj (.box [.pv (enc b.v),.pv (.int .i64 b.m)])]:=by
 intro k
 induction k with
 | zero=>
  intro i hi
  have hn:=Hl hv i (by omega)
  have hd:fs.take i=fs:=List.take_of_length_le (by omega)
  rw[hd]at hn ⊢
  refine Bb b fs ok n ls i _ (l++Jn fs) (Z8 (Yc (by omega)) ⟨?_,?_⟩)
  ·show(176==176&&9==9&&Te _ _ _&&Wz (List Str) (enc b.v)&&Zv (dec (enc b.v:PV):List Str))=true
   rw[Cr rfl (by rw[List.length_append];omega),ZQ,Enc.dec_enc,hb];rfl
  ·rw[Uy,Enc.dec_enc,Rp]
   unfold inE
   refine Vj (fun h=> ?_) fun h=> ?_
   ·rw[h];rfl
   ·rw[h];rfl
 | succ k ih=>
  intro i hi
  have hlt:i<fs.length:=by omega
  have hn:=Hl hv i (by omega)
  have hnb:=UJ hv hlt
  have hnm:(Zm fs[i].l).length=fs[i].l.t.length:=by unfold Zm;rw[List.length_map]
  refine Bb b fs ok n ls i _ (l++Jn (fs.take i)) (Ya (Z4 hlt) ⟨ZG hlt rfl,Z0 hlt ⟨Zh (fs[i].l,()) rfl (decide_eq_true (by show fs[i].l.t.length<=_;omega)),Ze (fs[i].l,()) rfl ⟨by simp,Ps (by rw[List.length_map]) (by rw[List.length_map,List.length_append];show(_+(Zm fs[i].l).length)*16<=_;omega) (by rw[List.length_map,List.length_append];show _+(Zm fs[i].l).length<=_;omega),?_⟩⟩⟩)
  have:=ih (i+1) (by omega)
  rw[Kq hlt,<- List.append_assoc,show(l++Jn (fs.take i)++Zm fs[i].l).map (enc:Str->PV)=(l++Jn (fs.take i)).map enc++(Zm fs[i].l).map enc from List.map_append,List.length_append (as:=l++Jn (fs.take i)),<- next (by omega)]at this
  rw[List.length_map]
  exact this
theorem LC: ∀ args os,Ud args os=true->Zc Yu os.length (Zj os.length Ye fun r=>r=QS args os) Yh [] (YH TM args os):=by
 intro args os h
 unfold Ud at h
 split at h
 ·rename_i b0 f0 ok n m ty xs
  simp only[Bool.and_eq_true,beq_iff_eq,decide_eq_true_eq,Bool.not_eq_true']at h
  obtain⟨⟨⟨⟨⟨⟨⟨⟨⟨h1,h2⟩,rfl⟩,h4⟩,h5⟩,h6⟩,h7⟩,h8⟩,h9⟩,h10⟩:=h
  obtain⟨b,rfl⟩:=Ym h1
  obtain⟨fs,rfl⟩:=Ym h2
  obtain⟨l,rfl,rfl,hn,hl⟩:=Ph h4
  rw[Enc.dec_enc]at h7 h8 h9
  rw[List.length_map]at h10
  have ev:QS [.pv (enc b),.pv (enc fs),.pv (.bool ok),.row 0 m 0 m] [.row false 9 1 (l.map enc)]=(.pv (.int .i64 (Zp b fs ok l)),[.row false 9 1 ((ckV b fs ok l).map enc)],[]):=by
   show(AV.pv (.int .i64 (Zp (dec (enc b:PV)) (dec (enc fs:PV)) ok (Ko (l.map enc)))),[AObj.row false 9 1 ((ckV (dec (enc b:PV)) (dec (enc fs:PV)) ok (Ko (l.map enc))).map enc)],_)=_
   rw[Enc.dec_enc,Enc.dec_enc,Uy]
  rw[ev]
  have hb:Zv b.v=true:=by simp only[ZP,XM,Bool.and_eq_true]at h7;exact h7.1
  refine a7s b fs ok m l ⟨Zh (b,()) rfl h7,Ze (b,()) rfl (Vj (fun h=> ?_) fun hbv=>⟨Zh (fs,()) rfl h8,Ze (fs,()) rfl (Vj (fun h=> ?_) fun hfv=>Vj (fun h=> ?_) fun hok=> ?_)⟩)⟩
  ·have h:Xo b=false:=h
   simp[Zp,ckV,h]
  ·have h:Y6 fs=false:=h
   simp[Zp,ckV,h]
  ·have h:ok=false:=h
   simp[Zp,ckV,h]
  ·have hbv:Xo b=true:=hbv
   have hfv:Y6 fs=true:=hfv
   have hok:ok=true:=hok
   have e1:Zp b fs ok l=inE b.v (l++Jn fs):=by unfold Zp;rw[hbv,hfv,hok];rfl
   have e2:ckV b fs ok l=l++Jn fs:=by unfold ckV;rw[hbv,hfv,hok];rfl
   rw[e1,e2,List.length_map]
   have:=Pi b fs ok l hb h8 hfv h9 (by omega) m l fs.length 0 (by omega)
   rw[List.take_zero]at this
   have e0:l++Jn []=l:=by simp[Jn]
   rw[e0,hn]at this
   exact this
 ·cases h
theorem MN(b:BoxT)(fs:List Fact)(ok:Bool)(hb:Zv b.v=true)(hf:Zo fs=true)(hv:Y6 fs=true)(hfl:fs.length<=100): ∀ (k i:Nat),k+i=fs.length ->
  At Yu 0 (Za Ye (Zl (inE b.v (Jn fs)))) Yh 0 38 [(3,.row 0 (Jn (fs.take i)).length 0 (Jn (fs.take i)).length),(4,.ptr 1 0),(23,.pv (enc fs)),(24,.pv (.int .i64 fs.length)),(25,.pv (.int .i64 i))] [.obj (.row false 9 1 ((Jn (fs.take i)).map enc)),.obj (.box [.pv (enc b.v),.pv (.int .i64 b.m)])]:=by
 intro k
 induction k with
 | zero=>
  intro i hi
  have hn:=Hl hv i (by omega)
  have hd:fs.take i=fs:=List.take_of_length_le (by omega)
  rw[hd]at hn ⊢
  refine Su b fs ok i _ (Jn fs) (Z8 (Yc (by omega)) ⟨?_,?_⟩)
  ·show(176==176&&9==9&&Te _ _ _&&Wz (List Str) (enc b.v)&&Zv (dec (enc b.v:PV):List Str))=true
   rw[Cr rfl (by omega),ZQ,Enc.dec_enc,hb];rfl
  ·rw[Uy,Enc.dec_enc,Rp]
   unfold inE
   refine Vj (fun h=> ?_) fun h=> ?_
   ·rw[h];exact⟨rfl,rfl⟩
   ·rw[h];exact⟨rfl,rfl⟩
 | succ k ih=>
  intro i hi
  have hlt:i<fs.length:=by omega
  have hn:=Hl hv i (by omega)
  have hnb:=UJ hv hlt
  have hnm:(Zm fs[i].l).length=fs[i].l.t.length:=by unfold Zm;rw[List.length_map]
  refine Su b fs ok i _ (Jn (fs.take i)) (Ya (Z4 hlt) ⟨ZG hlt rfl,Z0 hlt ⟨Zh (fs[i].l,()) rfl (decide_eq_true (by show fs[i].l.t.length<=_;omega)),Ze (fs[i].l,()) rfl ⟨by simp,Ps (by rw[List.length_map]) (by rw[List.length_map];show(_+(Zm fs[i].l).length)*16<=_;omega) (by rw[List.length_map];show _+(Zm fs[i].l).length<=_;omega),?_⟩⟩⟩)
  have:=ih (i+1) (by omega)
  rw[Kq hlt,show(Jn (fs.take i)++Zm fs[i].l).map (enc:Str->PV)=(Jn (fs.take i)).map enc++(Zm fs[i].l).map enc from List.map_append,List.length_append (as:=Jn (fs.take i)),<- next (by omega)]at this
  rw[List.length_map]
  exact this
theorem Ox(b:BoxT)(fs:List Fact)(ok:Bool)(hb:Zv b.v=true)(hf:Zo fs=true)(hv:Y6 fs=true)(hfl:fs.length<=100): ∀ (k i:Nat),k+i=fs.length->Jn (fs.take i)=[] ->
  At Yu 0 (Za Ye (Zl (inE b.v (Jn fs)))) Yh 0 38 [(3,.pv (.sl 0 true [])),(4,.ptr 0 0),(23,.pv (enc fs)),(24,.pv (.int .i64 fs.length)),(25,.pv (.int .i64 i))] [.obj (.box [.pv (enc b.v),.pv (.int .i64 b.m)])]:=by
 intro k
 induction k with
 | zero=>
  intro i hi h0
  have hd:fs.take i=fs:=List.take_of_length_le (by omega)
  rw[hd]at h0
  refine A7 b fs ok i (Z8 (Yc (by omega)) ⟨?_,?_⟩)
  ·show(176==176&&Wz (List Str) (enc b.v)&&Zv (dec (enc b.v:PV):List Str))=true
   rw[ZQ,Enc.dec_enc,hb];rfl
  ·rw[h0]
   exact⟨rfl,rfl⟩
 | succ k ih=>
  intro i hi h0
  have hlt:i<fs.length:=by omega
  have hnb:=UJ hv hlt
  have hnm:(Zm fs[i].l).length=fs[i].l.t.length:=by unfold Zm;rw[List.length_map]
  refine A7 b fs ok i (Ya (Z4 hlt) ⟨ZG hlt rfl,Z0 hlt ⟨Zh (fs[i].l,()) rfl (decide_eq_true (by show fs[i].l.t.length<=_;omega)),Ze (fs[i].l,()) rfl ⟨by simp,Wn (fun h=> ?_) fun h=>⟨?_,?_⟩⟩⟩⟩)
  ·have h:Zm fs[i].l=[]:=by simpa using h
   rw[next (by omega)]
   exact ih (i+1) (by omega) (by rw[Kq hlt,h0,h];rfl)
  ·rw[List.length_map]
   show(true&&decide ((0+(Zm fs[i].l).length)*16<=1099511627776)&&decide (0+(Zm fs[i].l).length<=1099511627776))=true
   rw[decide_eq_true (by omega),decide_eq_true (by omega)];rfl
  ·have:=MN b fs ok hb hf hv hfl k (i+1) (by omega)
   rw[Kq hlt,h0,List.nil_append,<- next (by omega)]at this
   rw[List.length_map]
   show At Yu 0 _ Yh 0 38 [(3,.row 0 (0+(Zm fs[i].l).length) 0 (0+(Zm fs[i].l).length)),_,_,_,_] _
   rw[Nat.zero_add]
   exact this
theorem EM: ∀ a:BoxT×List Fact×Bool×NilS×Unit,(ZP a.1&&Zo a.2.1&&decide (a.2.1.length<=100))=true->Zc Yu 0 (Za Ye (Zl (Zp a.1 a.2.1 a.2.2.1 []))) Yh [] (YD TM (encL a)):=by
 rintro⟨b,fs,ok,⟨⟩,⟨⟩⟩ h
 simp only[Bool.and_eq_true,decide_eq_true_eq]at h
 obtain⟨⟨h7,h8⟩,h9⟩:=h
 have hb:Zv b.v=true:=by have:=h7;simp only[ZP,XM,Bool.and_eq_true]at this;exact this.1
 show Zc Yu 0 (Za Ye (Zl (Zp b fs ok []))) _ _ _
 refine a9l b fs ok ⟨Zh (b,()) rfl h7,Ze (b,()) rfl (Vj (fun h=> ?_) fun hbv=>⟨Zh (fs,()) rfl h8,Ze (fs,()) rfl (Vj (fun h=> ?_) fun hfv=>Vj (fun h=> ?_) fun hok=> ?_)⟩)⟩
 ·have h:Xo b=false:=h
  exact QG (by simp[Zp,h])
 ·have h:Y6 fs=false:=h
  exact QG (by simp[Zp,h])
 ·have h:ok=false:=h
  exact QG (by simp[Zp,h])
 ·have hbv:Xo b=true:=hbv
  have hfv:Y6 fs=true:=hfv
  have hok:ok=true:=hok
  have e1:Zp b fs ok []=inE b.v (Jn fs):=by unfold Zp;rw[hbv,hfv,hok];rfl
  rw[e1,List.length_map]
  exact Ox b fs ok hb h8 hfv h9 fs.length 0 (by omega) rfl
end Go.Pl

namespace Go.Pl
open Go.RowKit
open Enc (enc dec is)
open EncL (encL decL isL)
theorem Mm(s:List UInt8)(hs:s.length<=281474976710656): ∀ (m i:Nat),m+i=s.length->At XG 0 (Za Y8 (Zl (Xk s i))) Y9 0 67 [(0,.pv (.str s)),(34,.pv (.sl 1 false (Zu s))),(35,.pv (.int .i64 (Zu s).length)),(36,.pv (.int .i64 i))] []:=by
 intro m
 induction m with
 | zero=>
  intro i hi
  have e:Xk s i=(!(s==[])&&decide (s.length<=30)):=by
   unfold Xk
   cases i with
   | zero=>cases s with
    | nil=>rfl
    | cons c r=>simp at hi
   | succ i=>simp only;rw[List.drop_of_length_le (show s.length<=i+1 by omega)];simp
  rw[e]
  refine TJ s i (Z8 (Yc (by rw[Ue];omega)) (Wn (fun h=>ZF ?_) fun h=>ZF ?_))
  ·rw[h,Bool.true_and];exact decide_eq_decide.2 (by omega)
  ·rw[h,Bool.false_and]
 | succ m ih=>
  intro i hi
  have hlt:i<s.length:=by omega
  have h:=ih (i+1) (by omega)
  refine TJ s i ?_
  rw[LY hlt,next (by omega)]
  have stop:(Wq s[i]=false∧(i=0∨We s[i]=false))->Zl (Xk s i) (.bool false):=fun hb=>ZF (Rh hlt hb).symm
  have go:(Wq s[i]=true∨(i≠0∧We s[i]=true))->At XG 0 (Za Y8 (Zl (Xk s i))) Y9 0 67 [(0,.pv (.str s)),(34,.pv (.sl 1 false (Zu s))),(35,.pv (.int .i64 (Zu s).length)),(36,.pv (.int .i64 ((i+1:Nat):Int)))] []:=fun hb=>by rw[Ri hlt hb];exact h
  have rest:Wq s[i]=false->(if ((i:Int)==0)=true then Zl (Xk s i) (.bool false)else if decide ((s[i].toNat:Int)<48)=true then Zl (Xk s i) (.bool false)else if decide ((s[i].toNat:Int)>57)=true then Zl (Xk s i) (.bool false)else At XG 0 (Za Y8 (Zl (Xk s i))) Y9 0 67 [(0,.pv (.str s)),(34,.pv (.sl 1 false (Zu s))),(35,.pv (.int .i64 (Zu s).length)),(36,.pv (.int .i64 ((i+1:Nat):Int)))] []):=by
   intro hl
   refine Gj (fun h0=>stop ⟨hl,.inl (by omega)⟩) fun h0=>WI (fun h1=>stop ⟨hl,.inr (KJ (by omega))⟩) fun h1=>WI (fun h2=>stop ⟨hl,.inr (KJ (by omega))⟩) fun h2=>go (.inr ⟨by omega,Vh.2 (by omega)⟩)
  refine Ya (Z4 (by rw[Ue];exact hlt)) ⟨by rw[Ue];simp[hlt],by rfl,?_⟩
  refine WI (fun h1=>rest (K8 ?_)) fun h1=>WI (fun h2=>rest (K8 ?_)) fun h2=>go (.inl (RQ.2 ?_))
  ·have h1:(s[i].toNat:Int)<97:=h1
   omega
  ·have h2:(s[i].toNat:Int)>122:=h2
   omega
  ·have h1 : ¬ (s[i].toNat:Int)<97:=h1
   have h2 : ¬ (s[i].toNat:Int)>122:=h2
   omega
theorem OQ: ∀ a:Str×Unit,decide (a.1.s.length<=281474976710656)=true->Zc XG 0 (Za Y8 (Zl (Zw a.1))) Y9 [] (YD a3l (encL a)):=by
 rintro⟨⟨s⟩,⟨⟩⟩ hl
 have hl:s.length<=281474976710656:=by simpa using hl
 refine a7v s (Ze (⟨s⟩,⟨[95]⟩,()) rfl (Wn (fun h=> ?_) fun h=> ?_))
 ·have h:[95].isPrefixOf s=true:=h
  obtain⟨r,rfl⟩ : ∃ r,s=95::r:=by
   cases s with
   | nil=>simp at h
   | cons c r=>
    have:95=c:=by simpa using h
    exact⟨r,by rw[this]⟩
  have e1:List.drop (Int.toNat 1) (List.take (List.length (95::r)) (95::r))=r:=by rw[List.take_of_length_le (Nat.le_refl _)];rfl
  simp only[e1]
  refine⟨by simp,Zh (⟨r⟩,()) rfl (by simp at hl ⊢;omega),Ze (⟨r⟩,()) rfl ⟨by show(Al (enc (Yr ⟨r⟩).2)&&true)=true;rw[c2t];rfl,?_⟩⟩
  show if Uo (enc (Yr ⟨r⟩).2)=true then(if decide ((Yr ⟨r⟩).1>0)=true then(if _ then _ else Zl (Zw ⟨95::r⟩) _)else Zl (Zw ⟨95::r⟩) _)else Zl (Zw ⟨95::r⟩) _
  rw[M4]
  by_cases h9:r.length<=9
  ·rw[<- a0u r h9,decide_eq_true h9,Bool.and_true]
   refine Wn (fun h1=>Wn (fun h2=>Ya (by simp;omega) ⟨Zh ((Yr ⟨r⟩).1,()) rfl (by have:=C9 ⟨r⟩;simp;omega),Ze ((Yr ⟨r⟩).1,()) rfl ⟨by simp,ZF ?_⟩⟩) fun h2=>ZF ?_) fun h1=>ZF ?_
   ·rw[h1,h2];simp only[Bool.true_and,Bool.and_true];rfl
   ·rw[h2];simp
   ·rw[h1];simp
  ·rw[decide_eq_false h9,Bool.and_false]
   refine Wn (fun h1=>Wn (fun h2=>Z8 (by simp;omega) (ZF rfl)) fun h2=>ZF rfl) fun h1=>ZF rfl
 ·have h:[95].isPrefixOf s=false:=h
  show At XG 0 (Za Y8 (Zl (Zw ⟨s⟩))) Y9 0 67 _ _
  rw[TU h]
  exact Mm s hl s.length 0 (by omega)
end Go.Pl

