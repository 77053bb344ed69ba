/-
  Texts of mine that belong together (packed by pack.py), for every input: TyL, TyM, TyN, TyT, TyO, TyS, GLb, GLa, QLa, QLb, GLc, QLc, GLd, QLd, TyU, QLh, QLm, GLe, QLe, GLg, QLg, QLf, GLi.
-/
import Derived.Test.YtjfgiaooglnomaaGreatDoorKI2
import Derived.KernelRfl
import Derived.Lib.AtoiAllMem
import Derived.Lib.AtoiAllCases
import Derived.Lib.ItoaNum
set_option linter.unusedVariables false
set_option linter.unusedSimpArgs false
namespace Go.Pl
open Go.RowKit
open Enc (enc dec is)
open EncL (encL decL isL)
structure Coef where
 v:Str
 c:Int
 deriving DecidableEq
instance:Enc Coef where
 sz:=2
 enc x:=.agg [enc x.v,enc x.c]
 dec | .agg [a,b]=>⟨dec a,dec b⟩|_=>⟨⟨[]⟩,0⟩
 is | .agg [a,b]=>is Str a&&is Int b|_=>false
 is_enc v:=by simp
 dec_enc v:=by simp
 sub p h:=by
  cases p with
  | agg xs=>
   match xs,h with
   | [a,b],h=>
    simp only[Bool.and_eq_true]at h
    exact .agg (.cons (Enc.sub a h.1).2 (.cons (Enc.sub b h.2).2 .nil))
  | _=>cases h
structure Lin where
 k:Int
 t:List Coef
 deriving DecidableEq
instance:Enc Lin where
 sz:=2
 enc x:=.agg [enc x.k,enc x.t]
 dec | .agg [a,b]=>⟨dec a,dec b⟩|_=>⟨0,[]⟩
 is | .agg [a,b]=>is Int a&&is (List Coef) b|_=>false
 is_enc v:=by simp
 dec_enc v:=by simp
 sub p h:=by
  cases p with
  | agg xs=>
   match xs,h with
   | [a,b],h=>
    simp only[Bool.and_eq_true]at h
    exact .agg (.cons (Enc.sub a h.1).2 (.cons (Enc.sub b h.2).2 .nil))
  | _=>cases h
@[simp] theorem c0r (a b : PV) : is Coef (.agg [a, b]) = (is Str a && is Int b) := rfl
@[simp] theorem b9x (a b : PV) : (dec (.agg [a, b]) : Coef) = ⟨dec a, dec b⟩ := rfl
@[simp] theorem c1b (a b : PV) : is Lin (.agg [a, b]) = (is Int a && is (List Coef) b) := rfl
@[simp] theorem c0h (a b : PV) : (dec (.agg [a, b]) : Lin) = ⟨dec a, dec b⟩ := rfl
def digB(c:UInt8):Bool:=decide (48<=c)&&decide (c<=57)
def WA(c:UInt8):Bool:=decide (97<=c)&&decide (c<=122)
def Yu(s:Str):Bool:=match s.s with
 | []=>false
 | c::r=>if c=95 then r.all digB&& !r.isEmpty&&decide (r.head? ≠ some 48)&&decide (r.length<=9)else WA c&&r.all (fun c=>WA c||digB c)&&decide (r.length<=29)
def Ya(n:Int):Bool:=decide (-1000000<=n)&&decide (n<=1000000)
def BI:List Coef->Bool
 | a::b::l=>decide (a.v.s<b.v.s)&&BI (b::l)
 | _=>true
def Zj(l:Lin):Bool:=l.t.all (fun t=>Yu t.v&&decide (t.c≠0)&&Ya t.c)&&BI l.t&&Ya l.k&&decide (l.t.length<=12)
def Zn(m:List (Str×Int)):List (PV×PV):=m.map fun p=>(.str p.1.s,.int .i64 p.2)
def Ws(m:List (Str×Int))(s:List UInt8):Int:=((m.find? fun p=>p.1.s==s).map (·.2)).getD 0
def YL(m:List (Str×Int)):List Coef:=(YV ((m.filter fun p=>decide (p.2≠0)).map (·.1.s))).map fun s=>⟨⟨s⟩,Ws m s⟩
def BA(n:Int)(m:List (Str×Int)):Lin×Int:=if Zj ⟨n,YL m⟩then(⟨n,YL m⟩,0)else(⟨0,[]⟩,3)
end Go.Pl

namespace Go.Pl
open Go.RowKit
open Enc (enc dec is)
open EncL (encL decL isL)
structure Fact where
 eq:Bool
 l:Lin
 deriving DecidableEq
instance:Enc Fact where
 sz:=3
 enc x:=.agg [enc x.eq,enc x.l.k,enc x.l.t]
 dec | .agg [a,b,c]=>⟨dec a,⟨dec b,dec c⟩⟩|_=>⟨false,⟨0,[]⟩⟩
 is | .agg [a,b,c]=>is Bool a&&is Int b&&is (List Coef) c|_=>false
 is_enc v:=by simp
 dec_enc v:=by simp
 sub p h:=by
  cases p with
  | agg xs=>
   match xs,h with
   | [a,b,c],h=>
    simp only[Bool.and_eq_true]at h
    exact .agg (.cons (Enc.sub a h.1.1).2 (.cons (Enc.sub b h.1.2).2 (.cons (Enc.sub c h.2).2 .nil)))
  | _=>cases h
@[simp] theorem c0j (a b c : PV) : is Fact (.agg [a, b, c]) = (is Bool a && is Int b && is (List Coef) c) := rfl
@[simp] theorem b9c (a b c : PV) : (dec (.agg [a, b, c]) : Fact) = ⟨dec a, ⟨dec b, dec c⟩⟩ := rfl
structure Bnd where
 kind:Int
 v:Str
 dim:Lin
 row:Str
 dims:List Lin
 elem:Str
 deriving DecidableEq
instance:Enc Bnd where
 sz:=7
 enc x:=.agg [enc x.kind,enc x.v,enc x.dim.k,enc x.dim.t,enc x.row,enc x.dims,enc x.elem]
 dec | .agg [a,b,c,d,e,f,g]=>⟨dec a,dec b,⟨dec c,dec d⟩,dec e,dec f,dec g⟩|_=>⟨0,⟨[]⟩,⟨0,[]⟩,⟨[]⟩,[],⟨[]⟩⟩
 is | .agg [a,b,c,d,e,f,g]=>is Int a&&is Str b&&is Int c&&is (List Coef) d&&is Str e&&is (List Lin) f&&is Str g|_=>false
 is_enc v:=by simp
 dec_enc v:=by simp
 sub p h:=by
  cases p with
  | agg xs=>
   match xs,h with
   | [a,b,c,d,e,f,g],h=>
    simp only[Bool.and_eq_true]at h
    exact .agg (.cons (Enc.sub a h.1.1.1.1.1.1).2 (.cons (Enc.sub b h.1.1.1.1.1.2).2 (.cons (Enc.sub c h.1.1.1.1.2).2 (.cons (Enc.sub d h.1.1.1.2).2 (.cons (Enc.sub e h.1.1.2).2 (.cons (Enc.sub f h.1.2).2 (.cons (Enc.sub g h.2).2 .nil)))))))
  | _=>cases h
@[simp] theorem c1l (a b c d e f g : PV) : is Bnd (.agg [a, b, c, d, e, f, g]) = (is Int a && is Str b && is Int c && is (List Coef) d && is Str e && is (List Lin) f && is Str g) := rfl
@[simp] theorem c0s (a b c d e f g : PV) : (dec (.agg [a, b, c, d, e, f, g]) : Bnd) = ⟨dec a, dec b, ⟨dec c, dec d⟩, dec e, dec f, dec g⟩ := rfl
inductive Cert where
 | mk (kind:Int) (mults:List Int) (lin:Lin) (kids:List Cert)
mutual
def UI:Cert->PV
 | .mk k m l ks=>.agg [enc k,enc m,enc l.k,enc l.t,.sl 5 false (Xp ks)]
def Xp:List Cert->List PV
 | []=>[]
 | c::cs=>UI c::Xp cs
end
mutual
def KD:PV->Cert
 | .agg [a,b,c,d,.sl _ _ ks]=>.mk (dec a) (dec b) ⟨dec c,dec d⟩ (WE ks)
 | _=>.mk 0 [] ⟨0,[]⟩ []
def WE:List PV->List Cert
 | []=>[]
 | p::ps=>KD p::WE ps
end
mutual
def V4:PV->Bool
 | .agg [a,b,c,d,.sl s _ ks]=>is Int a&&is (List Int) b&&is Int c&&is (List Coef) d&&(ks.isEmpty||s==5)&&UB ks
 | _=>false
def UB:List PV->Bool
 | []=>true
 | p::ps=>V4 p&&UB ps
end
theorem Dl(cs:List Cert):Xp cs=cs.map UI:=by
 induction cs with
 | nil=>simp[Xp]
 | cons c cs ih=>simp[Xp,ih]
theorem MB(cs:List PV):WE cs=cs.map KD:=by
 induction cs with
 | nil=>simp[WE]
 | cons c cs ih=>simp[WE,ih]
theorem Mf(cs:List PV):UB cs=cs.all V4:=by
 induction cs with
 | nil=>simp[UB]
 | cons c cs ih=>simp[UB,ih]
mutual
theorem TQ: ∀ c:Cert,V4 (UI c)=true
 | .mk k m l ks=>by
  have h:=Pi ks
  simp only[UI,V4,Enc.is_enc,Bool.true_and,Bool.and_eq_true,h,and_true]
  simp
theorem Pi: ∀ cs:List Cert,UB (Xp cs)=true
 | []=>by simp[Xp,UB]
 | c::cs=>by simp[Xp,UB,TQ c,Pi cs]
end
mutual
theorem TR: ∀ c:Cert,KD (UI c)=c
 | .mk k m l ks=>by
  have h:=R9 ks
  simp only[UI,KD,Enc.dec_enc,h]
theorem R9: ∀ cs:List Cert,WE (Xp cs)=cs
 | []=>by simp[Xp,WE]
 | c::cs=>by simp[Xp,WE,TR c,R9 cs]
end
mutual
theorem R4: ∀ p:PV,V4 p=true->Uz p (UI (KD p))
 | .agg [a,b,c,d,.sl s t ks],h=>by
  simp only[V4,Bool.and_eq_true]at h
  obtain⟨⟨⟨⟨⟨h1,h2⟩,h3⟩,h4⟩,h5⟩,h6⟩:=h
  have hk:=BZ ks h6
  simp only[KD,UI]
  refine .agg (.cons (Enc.sub a h1).2 (.cons (Enc.sub b h2).2 (.cons (Enc.sub c h3).2 (.cons (Enc.sub d h4).2 (.cons ?_ .nil)))))
  simp only[Bool.or_eq_true,List.isEmpty_iff,beq_iff_eq]at h5
  rcases h5 with rfl|rfl
  ·simp only[WE,Xp]
   exact(Uz.sl0 _ _ _).2
  ·exact(Uz.sl hk.1 hk.2).2
 | .bool _,h | .int _ _,h | .str _,h | .sl _ _ _,h | .tup _,h | .nilp,h | .nilmap,h | .nilfn,h | .nili,h | .ifc,h | .fn _,h | .rptr _,h=>by simp[V4]at h
 | .agg [],h | .agg [_],h | .agg [_,_],h | .agg [_,_,_],h | .agg [_,_,_,_],h=>by simp[V4]at h
 | .agg (a::b::c::d::e::f::g),h=>by
  have h':V4 (.agg (a::b::c::d::e::f::g))=false:=by cases e <;> kernel_rfl
  rw[h']at h;cases h
 | .agg [_,_,_,_,.bool _],h | .agg [_,_,_,_,.int _ _],h | .agg [_,_,_,_,.str _],h | .agg [_,_,_,_,.agg _],h | .agg [_,_,_,_,.tup _],h | .agg [_,_,_,_,.nilp],h | .agg [_,_,_,_,.nilmap],h | .agg [_,_,_,_,.nilfn],h | .agg [_,_,_,_,.nili],h | .agg [_,_,_,_,.ifc],h | .agg [_,_,_,_,.fn _],h | .agg [_,_,_,_,.rptr _],h=>by simp[V4]at h
theorem BZ: ∀ ps:List PV,UB ps=true->ps.length=(Xp (WE ps)).length∧ ∀ (j:Nat) x y,ps[j]? = some x->(Xp (WE ps))[j]? = some y->Uz x y
 | [],_=>⟨by simp[WE,Xp],fun j x y h=>by simp at h⟩
 | p::ps,h=>by
  simp only[UB,Bool.and_eq_true]at h
  have h1:=R4 p h.1
  have h2:=BZ ps h.2
  refine⟨by simp[WE,Xp,<- h2.1],fun j x y hx hy=> ?_⟩
  simp only[WE,Xp]at hy
  cases j with
  | zero=>simp at hx hy;subst hx hy;exact h1
  | succ j=>exact h2.2 j x y (by simpa using hx) (by simpa using hy)
end
instance:Enc Cert where
 sz:=5
 enc:=UI
 dec:=KD
 is:=V4
 is_enc:=TQ
 dec_enc:=TR
 sub:=R4
abbrev Cert.kind:Cert->Int | .mk k _ _ _=>k
abbrev Cert.mults:Cert->List Int | .mk _ m _ _=>m
abbrev Cert.lin:Cert->Lin | .mk _ _ l _=>l
abbrev Cert.kids:Cert->List Cert | .mk _ _ _ k=>k
theorem Zp(k:Int)(m:List Int)(l:Lin)(ks:List Cert):(enc (Cert.mk k m l ks):PV) = .agg [enc k,enc m,enc l.k,enc l.t,enc ks]:=by
 show UI _=_
 rw[UI,Dl]
 rfl
@[simp] theorem b1u (a b c d e : PV) : is Cert (.agg [a, b, c, d, e]) = (is Int a && is (List Int) b && is Int c && is (List Coef) d && is (List Cert) e) := by
 show V4 _=_
 cases e <;> simp only[V4] <;> try (simp[is];done)
 rename_i s t ks
 rw[Mf]
 show _=(_&&((ks.isEmpty||s==5)&&ks.all V4))
 rw[Bool.and_assoc]
@[simp] theorem a7x (a b c d e : PV) (h : is (List Cert) e = true) : (dec (.agg [a, b, c, d, e]) : Cert) = .mk (dec a) (dec b) ⟨dec c, dec d⟩ (dec e) := by
 show KD _=_
 cases e <;> try (cases h;done)
 rw[KD,MB]
 rfl
end Go.Pl

namespace Go.Pl
open Enc (enc dec is)
structure Er where
 b:Bool
 deriving DecidableEq
instance:Enc Er where
 sz:=1
 enc x:=if x.b then .ifc else .nili
 dec | .ifc=>⟨true⟩|_=>⟨false⟩
 is | .ifc=>true | .nili=>true|_=>false
 is_enc v:=by obtain⟨b⟩:=v;cases b <;> rfl
 dec_enc v:=by obtain⟨b⟩:=v;cases b <;> rfl
 sub p h:=by cases p <;> first|exact .refl _|cases h
def Y2(s:Str):Int×Er:=match Lib.atoiAll s.s with
 | .ok v=>(v,⟨false⟩)
 | .range=>(Lib.atoiSat s.s,⟨true⟩)
 | _=>(0,⟨true⟩)
def a5l(n:Int):Str:=⟨Lib.itoa n⟩
def Qt(l:Lin)(n:Int):Bool:=l.t.all (fun t=>decide (t.v.s.length<=40))&&decide ((l.t.length:Int)<=n)
abbrev Ym(n:Int):Int:=IntKind.i64.wrap n
def XX(s:Str)(c:Int):Bool->List Coef->List Coef
 | put,[]=>if put then []else [⟨s,c⟩]
 | put,t::r=>(if !put&&decide (s.s<t.v.s)then [⟨s,c⟩]else [])++(if t.v=s then⟨t.v,Ym (t.c+c)⟩::XX s c true r else t::XX s c (put||decide (s.s<t.v.s)) r)
def Un(l:Lin)(s:Str)(c:Int):Lin:=⟨l.k,(XX s c false l.t).filter fun t=>decide (t.c≠0)⟩
def NG(l x:Lin)(k:Int):Lin:=x.t.foldl (fun o t=>Un o t.v (Ym (k*t.c))) ⟨Ym (l.k+Ym (k*x.k)),l.t⟩
def Ug(a b:Int):Int:=if a<b then -1 else if a>b then 1 else 0
def JM:List Coef->List Coef->Int
 | [],[]=>0
 | [],_::_=> -1
 | _::_,[]=>1
 | x::l,y::m=>if x.v.s<y.v.s∨x.v.s=y.v.s∧x.c<y.c then -1 else if x=y then JM l m else 1
def BM(a b:Lin):Int:=if JM a.t b.t≠0 then JM a.t b.t else Ug a.k b.k
def YN(l:List Int):Int:=l.foldl (fun g n=>(Int.gcd g n:Int)) 0
def KE(l:List Int):Int×Int:=(YN l,0)
def BB(n:Int):Int:=if n<0 then Ym (-n)else n
def WJ(n:Int):Bool:=decide (-4611686018427387904<=n)&&decide (n<=4611686018427387904)
def Gx(a b:Int):Int:=if WJ a&&WJ b then(if b=0 then 1 else 0)else 2
def a1k(a b:Int):Int:=if a.tmod b≠0∧decide (a<0)≠decide (b<0)then Ym (Ym (a.tdiv b) - 1)else Ym (a.tdiv b)
def a3u(a b:Int):Int:=if a.tmod b≠0∧decide (a<0)≠decide (b<0)then Ym (a.tmod b+b)else a.tmod b
def Kw(a b:Int):Int×Int:=if Gx a b≠0 then(0,Gx a b)else(a1k a b,0)
mutual
def Z7:Cert->Int
 | .mk _ _ _ ks=>YZ 1 ks
def YZ(n:Int):List Cert->Int
 | []=>n
 | c::cs=>YZ (Ym (n+Z7 c)) cs
end
def Zy(l:Lin):Bool:=decide (l.t.length<=9223372036854775807)
def Zx(l:Lin):Bool:=Zy l&&l.t.all fun t=>decide (t.v.s.length<=1000000)
mutual
def UA:Cert->Bool
 | .mk _ m l ks=>decide (m.length<=9223372036854775807)&&Zy l&&decide (ks.length<=9223372036854775807)&&Qy ks
def Qy:List Cert->Bool
 | []=>true
 | c::cs=>UA c&&Qy cs
end
theorem JJ{c:Cert}: ∀ {cs:List Cert},Qy cs=true->c∈cs->UA c=true
 | d::cs,hc,h=>by
  simp only[Qy,Bool.and_eq_true]at hc
  rcases List.mem_cons.1 h with rfl|h
  ·exact hc.1
  ·exact JJ hc.2 h
mutual
def Zt:Cert->Nat
 | .mk _ _ _ ks=>Yb ks+1
def Yb:List Cert->Nat
 | []=>0
 | c::cs=>max (Zt c) (Yb cs)
end
theorem YH{c:Cert}: ∀ {cs:List Cert},c∈cs->Zt c<=Yb cs
 | d::cs,h=>by
  rcases List.mem_cons.1 h with rfl|h
  ·simp only[Yb];omega
  ·have:=YH h;simp only[Yb];omega
end Go.Pl

namespace Go.Pl
open Go.RowKit
open Enc (enc dec is)
open EncL (encL decL isL)
theorem Yf{α:Type}[Enc α]{l:List α}{i:Nat}(h:i<l.length){P:α->Prop}(k:P l[i]):
  ∃ y:α,AV.pv (PV.rptr (PV.cells (List.getD (List.map enc l) (Int.toNat (i:Int)) default)))=AV.pv (PV.rptr (PV.cells (enc y)))∧P y:=⟨l[i],by rw[JP enc h],k⟩
theorem ZN{α:Type}[Enc α]{l:List α}{i n:Nat}(h:i<l.length)(hn:Enc.sz α=n):(decide (0<=(i:Int))&&decide (Int.toNat (i:Int)<List.length (List.map (enc:α->PV) l))&&Enc.sz α==n)=true:=by simp[hn,h]
theorem V5{α:Type}[Enc α]{l:List α}{i:Nat}(h:i<l.length):decide ((i:Int)<(List.length (List.map (enc:α->PV) l):Int))=true:=by simp;omega
theorem UF{α:Type}[Enc α]{l:List α}{i:Nat}(h : ¬ i<l.length): ¬ decide ((i:Int)<(List.length (List.map (enc:α->PV) l):Int))=true:=by simp;omega
theorem Xm{n i:Nat}(h:i<n):decide ((i:Int)<(n:Int))=true:=by simp;omega
theorem X4{n i:Nat}(h : ¬ i<n): ¬ decide ((i:Int)<(n:Int))=true:=by simp;omega
theorem b4h{P Q:Prop}:(if (!false)=true then P else Q)=P:=rfl
theorem b8w{P Q:Prop}:(if (!true)=true then P else Q)=Q:=rfl
theorem Z8{c:Prop}[Decidable c]{P Q:Prop}(h:c)(k:P):if c then P else Q:=by rw[if_pos h];exact k
theorem Yc{c:Prop}[Decidable c]{P Q:Prop}(h : ¬ c)(k:Q):if c then P else Q:=by rw[if_neg h];exact k
theorem b0b{c:Prop}[Decidable c]{P Q:Prop}(h1:c->P)(h2 : ¬ c->Q):if c then P else Q:=by split;exact h1 ‹_›;exact h2 ‹_›
theorem Y4{b:Bool}{P Q:Prop}(h1:b=false->P)(h2:b=true->Q):if (!b)=true then P else Q:=by cases b;exact h1 rfl;exact h2 rfl
theorem QY{b:Bool}{P Q:Prop}(h1:b=true->P)(h2:b=false->Q):if b=true then P else Q:=by cases b;exact h2 rfl;exact h1 rfl
theorem Yv{c:Prop}[Decidable c]{P Q:Prop}(h1:c->P)(h2 : ¬ c->Q):if decide c=true then P else Q:=by by_cases h:c;rw[if_pos (by simpa using h)];exact h1 h;rw[if_neg (by simpa using h)];exact h2 h
theorem XL{α:Type}[BEq α][LawfulBEq α]{x y:α}{P Q:Prop}(h1:x=y->P)(h2:x≠y->Q):if (x==y)=true then P else Q:=by by_cases h:x=y;rw[if_pos (by simpa using h)];exact h1 h;rw[if_neg (by simpa using h)];exact h2 h
theorem Ke{β:Type}[Enc β]{x y:β}(h:x=y):Zv y (enc x):=⟨Enc.is_enc x,by rw[Enc.dec_enc,h]⟩
theorem Zz{x y:Bool}(h:x=y):Zv y (.bool x):=⟨rfl,h⟩
theorem XW{x y:Int}(h:x=y):Zv y (.int .i64 x):=⟨rfl,h⟩
section
variable (x:Coef) (f:Fact)
theorem co1:PV.asStr (List.getD (PV.cells (enc x)) 0 default)=x.v.s:=rfl
theorem co2:PV.asInt (List.getD (PV.cells (enc x)) (0+1) default)=x.c:=rfl
theorem co3:PV.asStr (List.getD (List.drop 0 (PV.cells (enc x))) 0 default)=x.v.s:=rfl
theorem co4:PV.asInt (List.getD (List.drop 1 (PV.cells (enc x))) 0 default)=x.c:=rfl
end
theorem b4n{c:UInt8}(n:Nat)(h:c≠UInt8.ofNat n)(hn:n<256): ¬ ((c.toNat:Int)==(n:Int))=true:=by
 intro e
 have e:(c.toNat:Int)=n:=by simpa using e
 have e:c.toNat=n:=by omega
 exact h (UInt8.toNat_inj.1 (by rw[e,UInt8.toNat_ofNat'];omega))
theorem Yq: ∀ a b:List UInt8,Op.bytesLess a b=decide (a<b)
 | [],[]=>by simp[Op.bytesLess]
 | _::_,[]=>by simp[Op.bytesLess]
 | [],_::_=>by simp[Op.bytesLess]
 | x::a,y::b=>by
  rw[Op.bytesLess,Yq a b]
  simp only[List.cons_lt_cons_iff]
  by_cases h1:x<y
  ·simp[h1]
  ·by_cases h2:x=y
   ·subst h2;simp
   ·simp[h1,h2]
theorem Zl.fuel{P:Program}{f:Nat}{α β:Type}[EncL α][Enc β]{pre:α->Bool}{F:α->β}(μ:α->Nat)(h : ∀ N,Zl P f (fun a=>pre a&&decide (μ a<N)) F):Zl P f pre F:=fun ps hps=>by
 refine h (μ (decL ps)+1) ps ?_
 simp only[preT,Bool.and_eq_true,decide_eq_true_eq]at hps ⊢
 exact⟨hps.1,hps.2,by omega⟩
theorem Zl.void{P:Program}{f:Nat}{α β:Type}[EncL α][Enc β]{pre:α->Bool}{F:α->β}(h : ∀ a,pre a=false):Zl P f pre F:=fun ps hps=>by simp[preT,h]at hps
theorem Zl.rec{P:Program}{f:Nat}{α β:Type}[EncL α][Enc β]{pre:α->Bool}{F:α->β}(μ:α->Nat)(h : ∀ N,Zl P f (fun a=>pre a&&decide (μ a<N)) F->Zl P f (fun a=>pre a&&decide (μ a<N+1)) F):Zl P f pre F:=by
 refine Zl.fuel μ fun N=> ?_
 induction N with
 | zero=>exact Zl.void fun a=>by simp
 | succ N ih=>exact h N ih
theorem Zl.or{P:Program}{f:Nat}{α β:Type}[EncL α][Enc β]{pre:α->Bool}{F:α->β}(c:α->Bool)(h1:Zl P f (fun a=>pre a&&c a) F)(h2:Zl P f (fun a=>pre a&& !c a) F):Zl P f pre F:=fun ps hps=>by
 have hps':=hps
 simp only[preT,Bool.and_eq_true]at hps'
 cases hc:c (decL ps)
 ·exact h2 ps (by simp only[preT,hps'.1,hps'.2,hc];rfl)
 ·exact h1 ps (by simp only[preT,hps'.1,hps'.2,hc];rfl)
mutual
def Bh:PV->PV->Bool
 | .bool a,.bool b=>a==b
 | .int k a,.int l b=>KM k l&&a==b
 | .str a,.str b=>a==b
 | .sl s t xs,.sl s' t' ys=>s==s'&&t==t'&&GK xs ys
 | .agg xs,.agg ys=>GK xs ys
 | .tup xs,.tup ys=>GK xs ys
 | .nilp,.nilp=>true
 | .nilmap,.nilmap=>true
 | .nilfn,.nilfn=>true
 | .nili,.nili=>true
 | .ifc,.ifc=>true
 | .fn a,.fn b=>a==b
 | .rptr xs,.rptr ys=>GK xs ys
 | _,_=>false
def GK:List PV->List PV->Bool
 | [],[]=>true
 | x::xs,y::ys=>Bh x y&&GK xs ys
 | _,_=>false
end
theorem Rz(k:IntKind):KM k k=true:=by cases k <;> rfl
mutual
theorem a7l: ∀ (p q:PV),Bh p q=true->p=q
 | .bool a,q,h=>by cases q <;> simp[Bh]at h;rw[h]
 | .int k a,q,h=>by cases q <;> simp[Bh]at h;rw[Q7 h.1,h.2]
 | .str a,q,h=>by cases q <;> simp[Bh]at h;rw[h]
 | .sl s t xs,q,h=>by cases q <;> simp[Bh]at h;rw[h.1.1,h.1.2,JF xs _ h.2]
 | .agg xs,q,h=>by cases q <;> simp[Bh]at h;rw[JF xs _ h]
 | .tup xs,q,h=>by cases q <;> simp[Bh]at h;rw[JF xs _ h]
 | .nilp,q,h=>by cases q <;> simp[Bh]at h;rfl
 | .nilmap,q,h=>by cases q <;> simp[Bh]at h;rfl
 | .nilfn,q,h=>by cases q <;> simp[Bh]at h;rfl
 | .nili,q,h=>by cases q <;> simp[Bh]at h;rfl
 | .ifc,q,h=>by cases q <;> simp[Bh]at h;rfl
 | .fn a,q,h=>by cases q <;> simp[Bh]at h;rw[h]
 | .rptr xs,q,h=>by cases q <;> simp[Bh]at h;rw[JF xs _ h]
theorem JF: ∀ (xs ys:List PV),GK xs ys=true->xs=ys
 | [],ys,h=>by cases ys <;> simp[GK]at h;rfl
 | x::xs,ys,h=>by
  cases ys with
  | nil=>simp[GK]at h
  | cons y ys=>simp[GK]at h;rw[a7l x y h.1,JF xs ys h.2]
end
mutual
theorem Ry: ∀ (p:PV),Bh p p=true
 | .bool a | .str a | .fn a=>by simp[Bh]
 | .int k a=>by simp[Bh,Rz]
 | .sl s t xs=>by simp[Bh,J3 xs]
 | .agg xs | .tup xs | .rptr xs=>by simp[Bh,J3 xs]
 | .nilp | .nilmap | .nilfn | .nili | .ifc=>by simp[Bh]
theorem J3: ∀ (xs:List PV),GK xs xs=true
 | []=>by simp[GK]
 | x::xs=>by simp[GK,Ry x,J3 xs]
end
def can(α:Type)[Enc α](p:PV):Bool:=Bh p (enc (dec p:α))
@[simp] theorem Qp {α : Type} [Enc α] (a : α) : can α (enc a) = true := by unfold can; rw [Enc.dec_enc]; exact Ry _
theorem HY{α:Type}[Enc α]{p:PV}(h:can α p=true): ∃ a:α,p=enc a:=⟨_,a7l _ _ h⟩
end Go.Pl

namespace Go.Pl
open Enc (enc dec is)
@[irreducible] def K8 (a : Nat) (r : List UInt8) : Nat := r.foldl (fun a c => a * 10 + (c.toNat - 48)) a
theorem JG(a:Nat):K8 a []=a:=by unfold K8;rfl
theorem U2(a:Nat)(c:UInt8)(r:List UInt8):K8 a (c::r)=K8 (a*10+(c.toNat - 48)) r:=by unfold K8;rfl
theorem Vk{c:UInt8}:digB c=true ↔ 48<=c.toNat∧c.toNat<=57:=by
 simp only[digB,Bool.and_eq_true,decide_eq_true_eq,UInt8.le_iff_toNat_le]
 have e1:(48:UInt8).toNat=48:=rfl
 have e2:(57:UInt8).toNat=57:=rfl
 rw[e1,e2]
theorem F6: ∀ (r:List UInt8) (a:Nat),r.all digB=true->K8 a r<(a+1)*10 ^ r.length
 | [],a,_=>by simp[JG]
 | c::r,a,h=>by
  simp only[List.all_cons,Bool.and_eq_true,Vk]at h
  have:=F6 r (a*10+(c.toNat - 48)) h.2
  rw[U2,List.length_cons,Nat.pow_succ]
  refine Nat.lt_of_lt_of_le this ?_
  rw[Nat.mul_comm (10 ^ r.length) 10,<- Nat.mul_assoc]
  exact Nat.mul_le_mul_right _ (by omega)
theorem SK: ∀ (r:List UInt8) (a:Nat),a<=K8 a r
 | [],a=>by rw[JG];exact Nat.le_refl _
 | c::r,a=>by
  have:=SK r (a*10+(c.toNat - 48))
  rw[U2]
  omega
theorem Ak: ∀ (r:List UInt8) (a:Nat),r.all digB=true->K8 a r<1000000000000000000->Lib.parseUint10 a r = .ok (K8 a r)
 | [],a,_,_=>by rw[JG,Lib.parseUint10]
 | c::r,a,h,hv=>by
  simp only[List.all_cons,Bool.and_eq_true,Vk]at h
  rw[U2]at hv ⊢
  have hge:=SK r (a*10+(c.toNat - 48))
  rw[Lib.parseUint10,if_pos h.1,if_neg (by omega),if_neg (by omega)]
  exact Ak r _ h.2 hv
theorem a2i{a d:Nat}(ha:1<=a)(hd:d<=9):Lib.decDigits (a*10+d)=Lib.decDigits a++[UInt8.ofNat (48+d)]:=by
 rw[Lib.decDigits,dif_neg (by omega),show(a*10+d) / 10=a by omega,show(a*10+d) % 10=d by omega]
theorem Oq: ∀ (r:List UInt8) (a:Nat),1<=a->r.all digB=true->Lib.decDigits (K8 a r)=Lib.decDigits a++r
 | [],a,_,_=>by simp[JG]
 | c::r,a,ha,h=>by
  simp only[List.all_cons,Bool.and_eq_true,Vk]at h
  rw[U2,Oq r _ (by omega) h.2,a2i ha (by omega)]
  have:UInt8.ofNat (48+(c.toNat - 48))=c:=by
   rw[show 48+(c.toNat - 48)=c.toNat by omega]
   exact UInt8.ofNat_toNat
  rw[this]
  simp
theorem a8r{n:Nat}(h:n<256):(UInt8.ofNat n).toNat=n:=by rw[UInt8.toNat_ofNat'];omega
theorem Le: ∀ (u:Nat),1<=u->(Lib.decDigits u).all digB=true∧(Lib.decDigits u).head? ≠ some 48∧Lib.decDigits u≠[]:=by
 intro u
 induction u using Nat.strongRecOn with
 | _ u ih=>
  intro h1
  rw[Lib.decDigits]
  by_cases h:u<10
  ·rw[dif_pos h]
   refine⟨?_,?_,by simp⟩
   ·simp only[List.all_cons,List.all_nil,Bool.and_true]
    rw[Vk,a8r (by omega)]
    omega
   ·simp only[List.head?_cons,ne_eq,Option.some.injEq]
    intro e
    have:=congrArg UInt8.toNat e
    rw[a8r (by omega)]at this
    have e48:(48:UInt8).toNat=48:=rfl
    rw[e48]at this
    omega
  ·rw[dif_neg h]
   obtain⟨i1,i2,i3⟩:=ih (u / 10) (by omega) (by omega)
   refine⟨?_,?_,by simp⟩
   ·rw[List.all_append,i1]
    simp only[List.all_cons,List.all_nil,Bool.and_true,Bool.true_and]
    rw[Vk,a8r (by omega)]
    omega
   ·cases hd:Lib.decDigits (u / 10)with
    | nil=>exact absurd hd i3
    | cons c r=>rw[hd]at i2;simpa using i2
def Pd(r:List UInt8):Bool:=r.all digB&& !r.isEmpty&&decide (r.head? ≠ some 48)
theorem b6h(b:Bool):QC (enc (⟨b⟩:Er)) = !b:=by cases b <;> rfl
theorem b9f(e:Er):Rw (enc e)=true:=by obtain⟨b⟩:=e;cases b <;> rfl
theorem b0x(r:List UInt8)(hr:r.length<=9):(QC (enc (Y2 ⟨r⟩).2)&&decide ((Y2 ⟨r⟩).1>0)&&(Lib.itoa (Y2 ⟨r⟩).1==r))=Pd r:=by
 by_cases hn:Pd r=true
 ·rw[hn]
  simp only[Pd,Bool.and_eq_true,Bool.not_eq_true',decide_eq_true_eq]at hn
  obtain⟨⟨h1,h2⟩,h3⟩:=hn
  cases r with
  | nil=>simp at h2
  | cons c r=>
   have h1':=h1
   simp only[List.all_cons,Bool.and_eq_true,Vk]at h1
   have hc:c≠48:=by simpa using h3
   have hc':c.toNat≠48:=fun e=>hc (UInt8.toNat_inj.1 (by rw[e];rfl))
   have hv:=F6 (c::r) 0 h1'
   have hp:10 ^ (c::r).length<=10 ^ 9:=Nat.pow_le_pow_right (by omega) hr
   have hpm:=Ak (c::r) 0 h1' (by omega)
   have hat:Lib.atoiAll (c::r) = .ok (K8 0 (c::r):Int):=by
    have e1 : ¬ (c.toNat=43∨c.toNat=45):=by omega
    have e2 : ¬ c.toNat=45:=by omega
    simp only[Lib.atoiAll,if_neg e1,Lib.parseMag,if_neg (show ¬ (c::r=[]) by simp),hpm]
    rw[if_neg (by omega),if_neg (fun e=>e2 e.1),if_neg e2]
   have ha:Y2 ⟨c::r⟩=((K8 0 (c::r):Int),⟨false⟩):=by simp only[Y2,hat]
   have hvd:K8 0 (c::r)=K8 (c.toNat - 48) r:=by rw[U2];congr 1;omega
   have hpos:=SK r (c.toNat - 48)
   rw[ha]
   have h4:Lib.itoa (K8 0 (c::r):Int)=c::r:=by
    rw[Lib.itoa,if_neg (by omega),Int.toNat_natCast,hvd,Oq r _ (by omega) h1.2,Lib.decDigits,dif_pos (by omega)]
    have:UInt8.ofNat (48+(c.toNat - 48))=c:=by
     rw[show 48+(c.toNat - 48)=c.toNat by omega]
     exact UInt8.ofNat_toNat
    rw[this];rfl
   simp only[b6h,h4,beq_self_eq_true,Bool.and_true,Bool.not_false,Bool.true_and]
   exact decide_eq_true (by omega)
 ·have hn:Pd r=false:=by simpa using hn
  rw[hn]
  by_cases h1:decide ((Y2 ⟨r⟩).1>0)=true
  ·by_cases h2:(Lib.itoa (Y2 ⟨r⟩).1==r)=true
   ·exfalso
    have h1:(Y2 ⟨r⟩).1>0:=by simpa using h1
    have h2:Lib.itoa (Y2 ⟨r⟩).1=r:=by simpa using h2
    rw[Lib.itoa,if_neg (by omega)]at h2
    obtain⟨d1,d2,d3⟩:=Le (Y2 ⟨r⟩).1.toNat (by omega)
    rw[h2]at d1 d2 d3
    have:Pd r=true:=by simp only[Pd,d1,decide_eq_true d2,Bool.true_and,Bool.and_true];cases r <;> simp at d3 ⊢
    rw[this]at hn;cases hn
   ·simp[h2]
  ·simp[h1]
theorem a8z(r:List UInt8):Yu ⟨95::r⟩=(Pd r&&decide (r.length<=9)):=by simp[Yu,Pd]
end Go.Pl

namespace Go.Pl
open Go.RowKit
open Enc (enc dec is)
open EncL (encL decL isL)
theorem CF(s:List UInt8): ∀ m:List (Str×Int),BD (.str s) (Zn m)=some ((m.find? fun p=>p.1.s==s).map fun p=>.int .i64 p.2)
 | []=>rfl
 | p::m=>by
  simp only[Zn,List.map_cons,BD,Rx,List.find?_cons]
  by_cases h:s=p.1.s
  ·subst h
   simp
  ·have h1:(s==p.1.s)=false:=by simpa using h
   have h2:(p.1.s==s)=false:=by simpa using fun e:p.1.s=s=>h e.symm
   simp only[h1,h2]
   exact CF s m
theorem WT(s:List UInt8)(m:List (Str×Int)):Uw (.str s) (Zn m)=true:=by simp[Uw,CF]
theorem VC(s:List UInt8)(m:List (Str×Int)):Yi (.str s) (.int .i64 0) (Zn m) = .int .i64 (Ws m s):=by
 simp only[Yi,CF,Ws]
 cases m.find? fun p=>p.1.s==s <;> rfl
def VH(s:Str)(c:Int):List (Str×Int)->List (Str×Int)
 | []=>[(s,c)]
 | p::m=>if s.s=p.1.s then(s,c)::m else p::VH s c m
theorem TC(s:Str)(c:Int): ∀ m:List (Str×Int),upd (.str s.s) (.int .i64 c) (Zn m)=some (Zn (VH s c m))
 | []=>rfl
 | p::m=>by
  have ih:=TC s c m
  simp only[Zn]at ih
  simp only[Zn,List.map_cons,upd,Rx,VH]
  by_cases h:s.s=p.1.s
  ·simp[h]
  ·have h1:(s.s==p.1.s)=false:=by simpa using h
   simp[h1,h,ih]
def YK(k:Int):List Coef->List (Str×Int)->List (Str×Int)
 | [],m=>m
 | t::l,m=>YK k l (VH t.v (IntKind.i64.wrap (Ws m t.v.s+IntKind.i64.wrap (k*t.c))) m)
def ZF(m:List (Str×Int)):List (List UInt8):=m.map (·.1.s)
theorem Jh(s:Str)(c:Int): ∀ m:List (Str×Int),(ZF (VH s c m)=ZF m)∨(s.s ∉ ZF m∧ZF (VH s c m)=ZF m++[s.s])
 | []=>.inr ⟨by simp[ZF],rfl⟩
 | p::m=>by
  rw[VH]
  split
  ·rename_i h
   exact .inl (by simp[ZF,h])
  ·rename_i h
   rcases Jh s c m with e|⟨e1,e2⟩
   ·exact .inl (by simp only[ZF,List.map_cons]at e ⊢;rw[e])
   ·refine .inr ⟨?_,?_⟩
    ·simp only[ZF,List.map_cons,List.mem_cons,not_or]at e1 ⊢
     exact⟨h,e1⟩
    ·simp only[ZF,List.map_cons]at e2 ⊢
     rw[e2];rfl
theorem a1c{s:Str}{c:Int}{m:List (Str×Int)}(h:(ZF m).Nodup):(ZF (VH s c m)).Nodup:=by
 rcases Jh s c m with e|⟨e1,e2⟩
 ·rw[e];exact h
 ·rw[e2,List.nodup_append]
  exact⟨h,by simp,fun a ha b hb e=>by simp at hb;subst hb;subst e;exact e1 ha⟩
theorem KF(k:Int): ∀ (l:List Coef) (m:List (Str×Int)),(ZF m).Nodup->(ZF (YK k l m)).Nodup
 | [],m,h=>h
 | t::l,m,h=>KF k l _ (a1c h)
theorem Ex{m:List (Str×Int)}(h:(ZF m).Nodup):((Zn m).map (·.1)).Nodup:=by
 have e:(Zn m).map (·.1)=(ZF m).map PV.str:=by simp[Zn,ZF]
 rw[e,List.nodup_iff_pairwise_ne]at *
 exact List.Pairwise.map _ (fun a b hab e=>hab (by cases e;rfl)) h
theorem b3b(s:Str)(c:Int)(m:List (Str×Int)):(VH s c m).length<=m.length+1:=by
 have h:(VH s c m).length=(ZF (VH s c m)).length:=by simp[ZF]
 have h2:m.length=(ZF m).length:=by simp[ZF]
 rcases Jh s c m with e|⟨_,e⟩
 ·rw[h,e,<- h2];omega
 ·rw[h,e];simp;omega
theorem Jd(k:Int): ∀ (l:List Coef) (m:List (Str×Int)),(YK k l m).length<=m.length+l.length
 | [],m=>Nat.le_refl _
 | t::l,m=>by
  have h1:=Jd k l (VH t.v (IntKind.i64.wrap (Ws m t.v.s+IntKind.i64.wrap (k*t.c))) m)
  have h2:=b3b t.v (IntKind.i64.wrap (Ws m t.v.s+IntKind.i64.wrap (k*t.c))) m
  rw[YK,List.length_cons];omega
def Uf(m:List (Str×Int)):List (Str×Int):=m.filter fun p=>decide (p.2≠0)
theorem b3j(m:List (Str×Int)):(Zn m).filter (fun kv=> !Gw kv)=Zn (Uf m):=by
 unfold Zn Uf
 rw[List.filter_map]
 congr 1
 apply List.filter_congr
 intro p _
 show(!(p.2==0))=decide (p.2≠0)
 by_cases h:p.2=0 <;> simp[h]
def Zi(l:List Fact):Bool:=decide (l.length<=9223372036854775807)&&l.all fun f=>Zx f.l
def Zq(l:List Fact):Bool:=l.all fun f=>Zj f.l
def okQ(q:Int×Fact):Bool:= !decide (q.1 < -1000000000)&& !decide (q.1>1000000000)&&(!decide (q.1<0)||q.2.eq)
def WL(s:Int×List (Str×Int))(q:Int×Fact):Int×List (Str×Int):=(Ym (s.1+Ym (q.1*q.2.l.k)),YK q.1 q.2.l.t s.2)
def ZQ(fs:List Fact)(ms:List Int):Int×List (Str×Int):=(ms.zip fs).foldl WL (0,[])
def QZ(fs:List Fact)(ms:List Int):Bool:=decide (ms.length=fs.length)&&(ms.zip fs).all okQ
def UD(a b:PV):Int×List (Str×Int):=ZQ (dec a) (dec b)
def UN:AV×List AObj×List AObj:=(.tup [.pv (.int .i64 0),.pv .nilmap,.pv (.bool false)],[],[])
def Ov(s:Int×List (Str×Int)):AV×List AObj×List AObj:=(.tup [.pv (.int .i64 s.1),.map 0,.pv (.bool true)],[],[.map (Zn (Uf s.2))])
def Xi(ok:Bool)(a b:PV):Bool:=can (List Fact) a&&can (List Int) b&&decide ((dec a:List Fact).length<=9223372036854775807)&&(dec a:List Fact).all (fun f=>Zy f.l)&&(QZ (dec a) (dec b)==ok)
def Xj:List AV->List AObj->Bool
 | [.pv a,.pv b],[]=>Xi true a b
 | _,_=>false
def WO:List AV->List AObj->AV×List AObj×List AObj
 | [.pv a,.pv b],_=>Ov (UD a b)
 | _,_=>UN
def XV:List AV->List AObj->Bool
 | [.pv a,.pv b],[]=>Xi false a b
 | _,_=>false
def Vy:List AV->List AObj->AV×List AObj×List AObj:=fun _ _=>UN
def X6(m:List (Str×Int)):List Int:=m.map (·.2)
def VP(m:List (Str×Int)):List (List UInt8):=YV (ZF m)
def VO(m:List (Str×Int))(g:Int)(xs:List (List UInt8)):List Coef:=xs.map fun v=>⟨⟨v⟩,Ym ((Ws m v).tdiv g)⟩
def BF(n:Int)(m:List (Str×Int)):Lin×Int:=
 if m=[]then(⟨0,[]⟩,18)else
  if Zj ⟨(Kw n (YN (X6 m))).1,VO m (YN (X6 m)) (VP m)⟩then(⟨(Kw n (YN (X6 m))).1,VO m (YN (X6 m)) (VP m)⟩,0)else(⟨0,[]⟩,3)
def Yj(fs:List Fact)(ms:List Int):Lin×Int:=
 if Zq fs then(if QZ fs ms then BF (ZQ fs ms).1 (Uf (ZQ fs ms).2)else(⟨0,[]⟩,18))else(⟨0,[]⟩,1)
theorem Ad{a b:List Int}(h:a.Perm b):YN a=YN b:=by
 unfold YN
 refine h.foldl_eq' (fun x _ y _ z=> ?_) 0
 show((Int.gcd (Int.gcd z x:Int) y:Nat):Int)=((Int.gcd (Int.gcd z y:Int) x:Nat):Int)
 rw[Int.gcd_assoc,Int.gcd_comm x y,<- Int.gcd_assoc]
theorem b2r{l:List Int}(h : ∃ x∈l,x≠0):YN l≠0:=by
 have key : ∀ (l:List Int) (g:Int),(l.foldl (fun g n=>(Int.gcd g n:Int)) g=0)->g=0∧ ∀ x∈l,x=0:=by
  intro l
  induction l with
  | nil=>intro g h;exact⟨h,fun x hx=>by simp at hx⟩
  | cons y l ih=>
   intro g h
   rw[List.foldl_cons]at h
   obtain⟨h1,h2⟩:=ih _ h
   have h1:Int.gcd g y=0:=by omega
   rw[Int.gcd_eq_zero_iff]at h1
   refine⟨h1.1,fun x hx=> ?_⟩
   rcases List.mem_cons.1 hx with rfl|hx
   ·exact h1.2
   ·exact h2 x hx
 intro h0
 obtain⟨x,hx,hne⟩:=h
 exact hne ((key l 0 h0).2 x hx)
theorem Pn{a b:List (List UInt8)}(h:a.Perm b):YV a=YV b:=by
 have tr : ∀ x y z:List UInt8,decide (x<=y)=true->decide (y<=z)=true->decide (x<=z)=true:=fun x y z h k=>by simp only[decide_eq_true_eq]at *;exact List.le_trans h k
 have to : ∀ x y:List UInt8,(decide (x<=y)||decide (y<=x))=true:=fun x y=>by simp only[Bool.or_eq_true,decide_eq_true_eq];exact List.le_total x y
 refine List.Perm.eq_of_pairwise (le:=fun x y=>decide (x<=y)=true) (fun x y _ _ h1 h2=> ?_) (List.pairwise_mergeSort tr to a) (List.pairwise_mergeSort tr to b) (((List.mergeSort_perm a _).trans h).trans (List.mergeSort_perm b _).symm)
 simp only[decide_eq_true_eq]at h1 h2
 exact List.le_antisymm h1 h2
structure FnV (n:Nat) where
 u:Unit:=()
instance (n:Nat):Enc (FnV n) where
  sz:=1
  enc _:=.fn n
  dec _:={}
  is | .fn m=>m==n|_=>false
  is_enc _:=by simp
  dec_enc _:=rfl
  sub p h:=by
    cases p with
    | fn m => have : m = n := by simpa using h
              subst this;exact .refl _
    | _=>cases h
def VY{α:Type}(p:α->Bool)(l:List α):Int:=match l.findIdx? p with|some i=>i|none=> -1
theorem Bv{α:Type}(p:α->Bool)(l:List α):decide (VY p l ≥ 0)=l.any p:=by
 unfold VY
 cases h:l.findIdx? p with
 | none=>
  rw[List.findIdx?_eq_none_iff]at h
  have:l.any p=false:=by rw[List.any_eq_false];intro x hx;simp[h x hx]
  rw[this];rfl
 | some i=>
  have:l.any p=true:=by
   rw[List.findIdx?_eq_some_iff_getElem]at h
   obtain⟨hi,hp,_⟩:=h
   rw[List.any_eq_true]
   exact⟨_,List.getElem_mem hi,hp⟩
  rw[this]
  exact decide_eq_true (by show(i:Int) ≥ 0;omega)
theorem b3m{α:Type}(p:α->Bool)(l:List α)(i:Nat)(hlt:i<l.length)(hno : ∀ j (h:j<l.length),j<i->p l[j]=false)(hp:p l[i]=true):VY p l=i:=by
 unfold VY
 have:l.findIdx? p=some i:=by
  rw[List.findIdx?_eq_some_iff_getElem]
  exact⟨hlt,hp,fun j hj=>by simp[hno j (by omega) hj]⟩
 rw[this]
theorem b2l{α:Type}(p:α->Bool)(l:List α)(hno : ∀ j (h:j<l.length),p l[j]=false):VY p l = -1:=by
 unfold VY
 have:l.findIdx? p=none:=by
  rw[List.findIdx?_eq_none_iff]
  intro x hx
  obtain⟨j,hj,rfl⟩:=List.getElem_of_mem hx
  exact hno j hj
 rw[this]
end Go.Pl

namespace Go.Pl
open Go.RowKit
open Enc (enc dec is)
open EncL (encL decL isL)
set_option maxRecDepth 100000
def Um:IC:=(.seq (.reg [⟨(some 4),(.box 2 (.t 1)),0,none⟩] none) (.seq (.reg [⟨(some 8),(.mv (.t 0)),0,none⟩,⟨(some 9),(.nilchk (.t 8)),0,none⟩,⟨(some 10),(.faddr 0 (.t 9)),0,none⟩,⟨(some 11),(.load false [(.int .i64)] (.t 10)),0,none⟩,⟨(some 12),(.mv (.t 2)),0,none⟩,⟨(some 13),(.faddr 0 (.t 4)),0,none⟩,⟨(some 14),(.load false [(.int .i64)] (.t 13)),0,none⟩,⟨(some 15),(.bin .num .mul (.t 12) (.t 14)),0,none⟩,⟨(some 16),(.bin .num .add (.t 11) (.t 15)),0,none⟩,⟨(some 17),(.nilchk (.t 8)),0,none⟩,⟨(some 18),(.faddr 0 (.t 17)),0,none⟩,⟨none,(.store 1 (.t 18) (.t 16)),0,none⟩] (some [[],[0],[1,0],[2,1,0],[],[],[5],[4,6,5],[3,7,2,1,0,4,6,5],[0,1,2,3,4,5,6,7,8],[9,0,1,2,3,4,5,6,7,8],[10,8,0,1,2,3,4,5,6,7,9]])) (.seq (.reg [⟨(some 19),(.faddr 1 (.t 4)),0,none⟩,⟨(some 20),(.load false [(.sl 2)] (.t 19)),0,none⟩,⟨(some 21),(.len 1 (.t 20)),0,none⟩,⟨(some 22),(.mv (.c (.int .i64 0))),0,none⟩] none) (.block 0 (.loop [22,21,20,0,2] (.seq (.reg [⟨(some 23),(.bin .num .lss (.t 22) (.t 21)),0,none⟩] none) (.seq (.cond (.t 23) .skip (.exit 0)) (.seq (.block 1 (.seq (.reg [⟨(some 24),(.iaddr 2 (.t 20) (.t 22)),0,none⟩,⟨(some 25),(.load true [.str,(.int .i64)] (.t 24)),0,none⟩,⟨(some 7),(.alloc (.agg [(.str []),(.int .i64 0)])),0,none⟩,⟨none,(.store 2 (.t 7) (.t 25)),1,none⟩] none) (.reg [⟨(some 26),(.mv (.t 0)),0,none⟩,⟨(some 27),(.nilchk (.t 26)),0,none⟩,⟨(some 28),(.faddr 1 (.t 27)),0,none⟩,⟨(some 29),(.load false [.any] (.t 28)),0,none⟩,⟨(some 30),(.faddr 0 (.t 7)),0,none⟩,⟨(some 31),(.load false [.str] (.t 30)),0,none⟩,⟨(some 32),(.lookup true (.int .i64) (.int .i64 0) false (.t 29) (.t 31)),0,none⟩,⟨(some 33),(.mv (.t 2)),0,none⟩,⟨(some 34),(.faddr 1 (.t 7)),0,none⟩,⟨(some 35),(.load false [(.int .i64)] (.t 34)),0,none⟩,⟨(some 36),(.bin .num .mul (.t 33) (.t 35)),0,none⟩,⟨(some 37),(.bin .num .add (.t 32) (.t 36)),0,none⟩,⟨none,(.mapupd true (.t 29) (.t 31) (.t 37)),0,none⟩] (some [[],[0],[1,0],[2,1,0],[],[4],[3,5,2,1,0,4],[],[],[8],[7,9,8],[6,10,3,5,2,1,0,4,7,9,8],[3,5,11,0,1,2,4,6,7,8,9,10]])))) (.reg [⟨(some 38),(.bin .num .add (.t 22) (.c (.int .i64 1))),0,none⟩,⟨(some 22),(.mv (.t 38)),0,none⟩] none)))))))))
def Uu:List IRes:=[]
abbrev b4d:Nat:=39
def QA:ZH:=XI []
theorem b6g{G:AV×List AObj×List AObj->Prop}(n:Int)(m:List (Str×Int))(l:Lin)(k:Int)(h:At QA 2 (Zr 2 Uu G) Um 0 39 [(0,(.ptr 0 0)),(2,(.pv (.int .i64 k))),(20,(.pv (.sl 2 false (List.map enc l.t)))),(21,(.pv (.int .i64 (↑(List.length (List.map enc l.t)):Int)))),(22,(.pv (.int .i64 0)))] [(.obj (.box [(.pv (.int .i64 (IntKind.wrap IntKind.i64 (n+IntKind.wrap IntKind.i64 (k*l.k))))),(.map 1)])),(.obj (.map (Zn m)))]):Zc QA 2 (Zr 2 Uu G) Um [] (Uh 39 [.ptr 0 0,.pv (enc l),.pv (.int .i64 k)] [.box [.pv (.int .i64 n),.map 1],.map (Zn m)]):=Zc.to (.lit (.lit (.nil))) h (by kernel_rfl)
theorem Ow{G:AV×List AObj×List AObj->Prop}(n:Int)(m:List (Str×Int))(l:Lin)(k:Int)(i:Int)(h:if (decide (i<(↑(List.length l.t):Int)))=true then(decide (0<=i)&&decide (Int.toNat i<List.length (List.map enc l.t))&&Enc.sz Coef==2)=true∧(∃ y0:Coef,AV.pv (PV.rptr (PV.cells (List.getD (List.map enc l.t) (Int.toNat i) default)))=AV.pv (PV.rptr (PV.cells ((enc) y0)))∧((Uw (Sh.co Sh.str (List.getD (PV.cells (enc y0)) 0 default)) (Zn m)&&Sh.fit (Sh.int .i64) (Yi (Sh.co Sh.str (List.getD (PV.cells (enc y0)) 0 default)) (PV.int .i64 0) (Zn m)))=true∧((a8w (Sh.co Sh.str (List.getD (PV.cells (enc y0)) 0 default)) (PV.int .i64 (IntKind.wrap IntKind.i64 (PV.asInt (Yi (Sh.co Sh.str (List.getD (PV.cells (enc y0)) 0 default)) (PV.int .i64 0) (Zn m))+IntKind.wrap IntKind.i64 (k*PV.asInt (List.getD (PV.cells (enc y0)) (0+1) default))))) (Zn m))=true∧(At QA 2 (Zr 2 Uu G) Um 0 39 [(0,(.ptr 0 0)),(2,(.pv (.int .i64 k))),(20,(.pv (.sl 2 false (List.map enc l.t)))),(21,(.pv (.int .i64 (↑(List.length l.t):Int)))),(22,(.pv (.int .i64 (IntKind.wrap IntKind.i64 (i+1)))))] [(.obj (.box [(.pv (.int .i64 n)),(.map 1)])),(.obj (.map (Ty (Sh.co Sh.str (List.getD (PV.cells (enc y0)) 0 default)) (PV.int .i64 (IntKind.wrap IntKind.i64 (PV.asInt (Yi (Sh.co Sh.str (List.getD (PV.cells (enc y0)) 0 default)) (PV.int .i64 0) (Zn m))+IntKind.wrap IntKind.i64 (k*PV.asInt (List.getD (PV.cells (enc y0)) (0+1) default))))) (Zn m))))]))))else(G (((.tup []),([(.box [(.pv (.int .i64 n)),(.map 1)]),(.map (Zn m))],[]))))):At QA 2 (Zr 2 Uu G) Um 0 39 [(0,.ptr 0 0),(2,.pv (.int .i64 k)),(20,.pv (enc l.t)),(21,.pv (.int .i64 l.t.length)),(22,.pv (.int .i64 i))] [.obj (.box [.pv (.int .i64 n),.map 1]),.obj (.map (Zn m))]:=At.to (.lit (.ask (.req (.abs (Coef) (fun YY=>AV.pv (PV.rptr (PV.cells ((enc) YY)))) (.lit (.req (.keep (.lit (.lit (.req (.lit (.nil)))))))))) (.nil))) h (by kernel_rfl)
end Go.Pl

namespace Go.Pl
open Go.RowKit
open Enc (enc dec is)
open EncL (encL decL isL)
set_option maxRecDepth 100000
def Vl:IC:=(.seq (.reg [⟨(some 25),(.mv (.t 7)),0,none⟩,⟨(some 26),(.bin .num .neq (.t 25) (.c (.int .i64 0))),0,none⟩] none) (.cond (.t 26) (.reg [⟨(some 27),(.mv (.t 5)),0,none⟩,⟨(some 28),(.mv (.t 6)),0,none⟩,⟨(some 29),(.bslice 9 1 1 (.str []) [(0,(.t 28))]),0,none⟩,⟨(some 30),(.append 9 1 16 (.t 27) (.t 29)),1,none⟩,⟨(some 5),(.mv (.t 30)),2,none⟩] none) .skip))
def VX:List IRes:=[]
def Q5:ZH:=XI [(154,.own YW Wt),(73,.pure (preT (fun x:Lin×Unit=>Zx x.1)) (Zf (fun x:Lin×Unit=>Zj x.1)))]
theorem a4q{G:AV×List AObj×List AObj->Prop}(E:YO)(n:Int)(s:List UInt8)(c:Int)(h:if (c != 0)=true then E 99 ⟨XG 58 0 [(0,(.ptr 0 0)),(2,(.ptr 2 0)),(4,(.ptr 3 0)),(5,(.row 5 1 0 1)),(18,(.map 1)),(19,(.ptr 4 0))],[(.obj (.box [(.pv (.int .i64 n)),(.map 1)])),.dead,(.obj (.box [(.pv (.int .i64 0)),(.pv (.sl 0 true []))])),(.obj (.box [(.pv (.int .i64 n)),(.pv (.sl 0 true []))])),.dead,(.obj (.row false 9 1 [(.str s)]))]⟩ (fun x S'=>AfX Q5 E 5 (Zr 5 VX G) Vl 99 x S')else(E 99 ⟨XG 58 0 [(0,(.ptr 0 0)),(2,(.ptr 2 0)),(4,(.ptr 3 0)),(5,(.pv (.sl 0 true []))),(18,(.map 1)),(19,(.ptr 4 0))],[(.obj (.box [(.pv (.int .i64 n)),(.map 1)])),.dead,(.obj (.box [(.pv (.int .i64 0)),(.pv (.sl 0 true []))])),(.obj (.box [(.pv (.int .i64 n)),(.pv (.sl 0 true []))])),.dead]⟩ (fun x S'=>AfX Q5 E 5 (Zr 5 VX G) Vl 99 x S'))):Z6 Q5 E 5 (Zr 5 VX G) (.inl Vl) [.blk 1,.seq (.ext 99 [0,2,4,5,18,19])] ⟨XG 58 0 [(0,.ptr 0 0),(2,.ptr 2 0),(4,.ptr 3 0),(5,.pv (.sl 0 true [])),(6,.pv (.str s)),(7,.pv (.int .i64 c)),(18,.map 1),(19,.ptr 4 0),(22,.pv (.tup [.str s,.int .i64 c])),(23,.pv (.str s)),(24,.pv (.int .i64 c))],[.obj (.box [.pv (.int .i64 n),.map 1]),.dead,.obj (.box [.pv (.int .i64 0),.pv (.sl 0 true [])]),.obj (.box [.pv (.int .i64 n),.pv (.sl 0 true [])]),.dead]⟩:=Z6.mo (.lit (.ask (.lit (.lit (.lit (.lit (.lit (.nil)))))) (.nil))) h (by kernel_rfl)
theorem a5g{G:AV×List AObj×List AObj->Prop}(E:YO)(n:Int)(s:List UInt8)(c:Int)(l:Nat)(xs:List (List UInt8))(h:if (c != 0)=true then(List.length (List.map PV.str xs)==l&&l==l&&decide ((l+List.length (List.drop 0 (List.take 1 [PV.str s])))*16<=1099511627776)&&decide (l+List.length (List.drop 0 (List.take 1 [PV.str s]))<=1099511627776))=true∧(E 99 ⟨XG 58 0 [(0,(.ptr 0 0)),(2,(.ptr 2 0)),(4,(.ptr 3 0)),(5,(.row 5 (l+List.length (List.drop 0 (List.take 1 [PV.str s]))) 0 (l+List.length (List.drop 0 (List.take 1 [PV.str s]))))),(18,(.map 1)),(19,(.ptr 4 0))],[(.obj (.box [(.pv (.int .i64 n)),(.map 1)])),.dead,(.obj (.box [(.pv (.int .i64 0)),(.pv (.sl 0 true []))])),(.obj (.box [(.pv (.int .i64 n)),(.pv (.sl 0 true []))])),.dead,(.obj (.row false 9 1 (List.map PV.str xs++List.drop 0 (List.take 1 [PV.str s]))))]⟩ (fun x S'=>AfX Q5 E 6 (Zr 6 VX G) Vl 99 x S'))else(E 99 ⟨XG 58 0 [(0,(.ptr 0 0)),(2,(.ptr 2 0)),(4,(.ptr 3 0)),(5,(.row 5 l 0 l)),(18,(.map 1)),(19,(.ptr 4 0))],[(.obj (.box [(.pv (.int .i64 n)),(.map 1)])),.dead,(.obj (.box [(.pv (.int .i64 0)),(.pv (.sl 0 true []))])),(.obj (.box [(.pv (.int .i64 n)),(.pv (.sl 0 true []))])),.dead,(.obj (.row false 9 1 (List.map PV.str xs)))]⟩ (fun x S'=>AfX Q5 E 6 (Zr 6 VX G) Vl 99 x S'))):Z6 Q5 E 6 (Zr 6 VX G) (.inl Vl) [.blk 1,.seq (.ext 99 [0,2,4,5,18,19])] ⟨XG 58 0 [(0,.ptr 0 0),(2,.ptr 2 0),(4,.ptr 3 0),(5,.row 5 l 0 l),(6,.pv (.str s)),(7,.pv (.int .i64 c)),(18,.map 1),(19,.ptr 4 0),(22,.pv (.tup [.str s,.int .i64 c])),(23,.pv (.str s)),(24,.pv (.int .i64 c))],[.obj (.box [.pv (.int .i64 n),.map 1]),.dead,.obj (.box [.pv (.int .i64 0),.pv (.sl 0 true [])]),.obj (.box [.pv (.int .i64 n),.pv (.sl 0 true [])]),.dead,.obj (.row false 9 1 (xs.map .str))]⟩:=Z6.mo (.lit (.ask (.lit (.lit (.req (.nil)))) (.nil))) h (by kernel_rfl)
def YP:IC:=(.seq (.reg [⟨(some 2),(.alloc (.agg [(.int .i64 0),(.sl 0 true [])])),0,none⟩,⟨(some 3),(.mv (.c (.int .i64 0))),1,none⟩] none) (.seq (.reg [⟨(some 10),(.mv (.t 0)),0,none⟩,⟨(some 11),(.nilchk (.t 10)),0,none⟩,⟨(some 12),(.faddr 0 (.t 11)),0,none⟩,⟨(some 13),(.load false [(.int .i64)] (.t 12)),0,none⟩,⟨(some 14),(.build [(.int .i64 0),(.sl 0 true [])] [(0,(1,(.t 13)))]),0,none⟩,⟨(some 4),(.alloc (.agg [(.int .i64 0),(.sl 0 true [])])),0,none⟩,⟨none,(.store 2 (.t 4) (.t 14)),1,none⟩] none) (.seq (.reg [⟨(some 5),(.mv (.c (.sl 0 true []))),0,none⟩] none) (.seq (.ext 0 [0,15,16,17,18,19,20,21,22,23,24,7,25,26,5,6,28,27,29,30,4,2]) (.seq (.reg [⟨(some 31),(.mv (.t 5)),0,none⟩,⟨(some 32),(.call (.c (.fn 154)) [(.t 31)]),0,none⟩] none) (.seq (.seq (.reg [⟨(some 33),(.mv (.t 5)),0,none⟩,⟨(some 34),(.len 1 (.t 33)),0,none⟩,⟨(some 35),(.mv (.c (.int .i64 0))),0,none⟩] none) (.block 2 (.loop [35,34,33,4,0,2] (.seq (.reg [⟨(some 36),(.bin .num .lss (.t 35) (.t 34)),0,none⟩] none) (.seq (.cond (.t 36) .skip (.exit 2)) (.seq (.block 3 (.seq (.reg [⟨(some 37),(.iaddr 1 (.t 33) (.t 35)),0,none⟩,⟨(some 38),(.load false [.str] (.t 37)),0,none⟩,⟨(some 9),(.mv (.t 38)),0,none⟩] none) (.reg [⟨(some 39),(.faddr 1 (.t 4)),0,none⟩,⟨(some 40),(.load false [(.sl 2)] (.t 39)),0,none⟩,⟨(some 41),(.mv (.t 9)),0,none⟩,⟨(some 42),(.mv (.t 0)),0,none⟩,⟨(some 43),(.nilchk (.t 42)),0,none⟩,⟨(some 44),(.faddr 1 (.t 43)),0,none⟩,⟨(some 45),(.load false [.any] (.t 44)),0,none⟩,⟨(some 46),(.mv (.t 9)),0,none⟩,⟨(some 47),(.lookup true (.int .i64) (.int .i64 0) false (.t 45) (.t 46)),0,none⟩,⟨(some 48),(.build [(.str []),(.int .i64 0)] [(0,(1,(.t 41))),(1,(1,(.t 47)))]),0,none⟩,⟨(some 49),(.bslice 61 2 1 (.agg [(.str []),(.int .i64 0)]) [(0,(.t 48))]),0,none⟩,⟨(some 50),(.append 61 2 24 (.t 40) (.t 49)),1,none⟩,⟨(some 51),(.faddr 1 (.t 4)),2,none⟩,⟨none,(.store 1 (.t 51) (.t 50)),2,none⟩] (some [[],[0],[],[],[3],[4,3],[5,4,3],[],[6,7,5,4,3],[2,8,6,7,5,4,3],[9,2,8,6,7,5,4,3],[1,10,0,9,2,8,6,7,5,4,3],[0,1,2,3,4,5,6,7,8,9,10,11],[12,11,0,1,2,3,4,5,6,7,8,9,10]])))) (.reg [⟨(some 52),(.bin .num .add (.t 35) (.c (.int .i64 1))),0,none⟩,⟨(some 35),(.mv (.t 52)),0,none⟩] none))))))) (.seq (.seq (.reg [⟨(some 53),(.load true [(.int .i64),(.sl 2)] (.t 4)),0,none⟩,⟨(some 54),(.call (.c (.fn 73)) [(.t 53)]),0,none⟩,⟨(some 55),(.un .not (.t 54)),2,none⟩] none) (.cond (.t 55) (.seq (.reg [⟨(some 56),(.build [(.int .i64 0),(.sl 0 true [])] []),0,none⟩,⟨none,(.store 2 (.t 2) (.t 56)),0,none⟩,⟨(some 3),(.mv (.c (.int .i64 3))),0,none⟩] none) .ret) .skip)) (.seq (.reg [⟨(some 57),(.load true [(.int .i64),(.sl 2)] (.t 4)),0,none⟩,⟨none,(.store 2 (.t 2) (.t 57)),0,none⟩,⟨(some 3),(.mv (.c (.int .i64 0))),0,none⟩] none) .ret))))))))
def YR:List IRes:=[(.cell true 2 2),(.tmp 3)]
abbrev b0s:Nat:=58
def YX:ZH:=XI [(154,.own YW Wt),(73,.pure (preT (fun x:Lin×Unit=>Zx x.1)) (Zf (fun x:Lin×Unit=>Zj x.1)))]
theorem b6m{G:AV×List AObj×List AObj->Prop}(E:YO)(n:Int)(m:List (Str×Int))(h:E 0 ⟨XG 58 0 [(0,(.ptr 0 0)),(2,(.ptr 2 0)),(4,(.ptr 3 0)),(5,(.pv (.sl 0 true []))),(6,.undef),(7,.undef),(15,.undef),(16,.undef),(17,.undef),(18,.undef),(19,.undef),(20,.undef),(21,.undef),(22,.undef),(23,.undef),(24,.undef),(25,.undef),(26,.undef),(27,.undef),(28,.undef),(29,.undef),(30,.undef)],[(.obj (.box [(.pv (.int .i64 n)),(.map 1)])),(.obj (.map (Zn m))),(.obj (.box [(.pv (.int .i64 0)),(.pv (.sl 0 true []))])),(.obj (.box [(.pv (.int .i64 n)),(.pv (.sl 0 true []))]))]⟩ (fun x S'=>AfX YX E 2 (Zr 2 YR G) YP 0 x S')):Z6 YX E 2 (Zr 2 YR G) (.inl YP) [] (Uh 58 [.ptr 0 0] [.box [.pv (.int .i64 n),.map 1],.map (Zn m)]):=Z6.mo (.nil) h (by kernel_rfl)
-- IMPOSSIBLE
theorem a9g{G:AV×List AObj×List AObj->Prop}(E:YO)(n:Int)(m:List (Str×Int))(i:Int)(h:if (decide (i<0))=true then(decide (0<=i)&&decide (Int.toNat i<List.length ([]:List PV))&&0==1)=true∧(False)else(∃ y0:Bool,AV.pv (Zf (fun(x:Lin×Unit)=>Zj x.1) [(.agg [(.int .i64 n),(.sl 0 true [])])])=AV.pv (enc y0)∧(if (!y0)=true then G (((.tup [(.pv (.agg [(.int .i64 0),(.sl 0 true [])])),(.pv (.int .i64 3))]),([(.box [(.pv (.int .i64 n)),(.map 1)]),(.map (Zn m))],[])))else(G (((.tup [(.pv (.agg [(.int .i64 n),(.sl 0 true [])])),(.pv (.int .i64 0))]),([(.box [(.pv (.int .i64 n)),(.map 1)]),(.map (Zn m))],[]))))))):JX YX E 2 (Zr 2 YR G) YP 0 58 [(0,.ptr 0 0),(2,.ptr 2 0),(4,.ptr 3 0),(33,.pv (.sl 0 true [])),(34,.pv (.int .i64 0)),(35,.pv (.int .i64 i))] [.obj (.box [.pv (.int .i64 n),.map 1]),.obj (.map (Zn m)),.obj (.box [.pv (.int .i64 0),.pv (.sl 0 true [])]),.obj (.box [.pv (.int .i64 n),.pv (.sl 0 true [])])]:=Z6.mo (.lit (.ask (.req (.keep (.lit (.nil)))) (.lit (.abs (Bool) (fun YY=>AV.pv (enc YY)) (.ask (.nil) (.nil)))))) h (by kernel_rfl)
theorem a5e{G:AV×List AObj×List AObj->Prop}(E:YO)(n:Int)(m:List (Str×Int))(l:Nat)(xs:List (List UInt8))(i:Int)(h:if (decide (i<(↑l:Int)))=true then(decide (0<=i)&&decide (0+Int.toNat i<l)&&List.length (List.map PV.str xs)==l)=true∧((List.length (List.map PV.str xs)==l&&decide (0+Int.toNat i<List.length (List.map PV.str xs)))=true∧((decide (0+List.length [Sh.str]<=List.length (PV.cells (List.getD (List.map PV.str xs) (0+Int.toNat i) default)))&&Yk (PV.cells (List.getD (List.map PV.str xs) (0+Int.toNat i) default)) 0 [Sh.str])=true∧((Uw (Sh.co Sh.str (List.getD (PV.cells (List.getD (List.map PV.str xs) (0+Int.toNat i) default)) 0 default)) (Zn m)&&Sh.fit (Sh.int .i64) (Yi (Sh.co Sh.str (List.getD (PV.cells (List.getD (List.map PV.str xs) (0+Int.toNat i) default)) 0 default)) (PV.int .i64 0) (Zn m)))=true∧(JX YX E 2 (Zr 2 YR G) YP 0 58 [(0,(.ptr 0 0)),(2,(.ptr 2 0)),(4,(.ptr 3 0)),(33,(.row 4 l 0 l)),(34,(.pv (.int .i64 (↑l:Int)))),(35,(.pv (.int .i64 (IntKind.wrap IntKind.i64 (i+1)))))] [(.obj (.box [(.pv (.int .i64 n)),(.map 1)])),(.obj (.map (Zn m))),(.obj (.box [(.pv (.int .i64 0)),(.pv (.sl 0 true []))])),(.obj (.box [(.pv (.int .i64 n)),(.row 5 1 0 1)])),(.obj (.row false 9 1 (List.map PV.str xs))),(.obj (.row false 61 2 [(.agg [(.str (PV.asStr (List.getD (PV.cells (List.getD (List.map PV.str xs) (0+Int.toNat i) default)) 0 default))),(.int .i64 (PV.asInt (Yi (Sh.co Sh.str (List.getD (PV.cells (List.getD (List.map PV.str xs) (0+Int.toNat i) default)) 0 default)) (PV.int .i64 0) (Zn m))))])]))]))))else(∃ y0:Bool,AV.pv (Zf (fun(x:Lin×Unit)=>Zj x.1) [(.agg [(.int .i64 n),(.sl 0 true [])])])=AV.pv (enc y0)∧(if (!y0)=true then G (((.tup [(.pv (.agg [(.int .i64 0),(.sl 0 true [])])),(.pv (.int .i64 3))]),([(.box [(.pv (.int .i64 n)),(.map 1)]),(.map (Zn m))],[])))else(G (((.tup [(.pv (.agg [(.int .i64 n),(.sl 0 true [])])),(.pv (.int .i64 0))]),([(.box [(.pv (.int .i64 n)),(.map 1)]),(.map (Zn m))],[]))))))):JX YX E 2 (Zr 2 YR G) YP 0 58 [(0,.ptr 0 0),(2,.ptr 2 0),(4,.ptr 3 0),(33,.row 4 l 0 l),(34,.pv (.int .i64 l)),(35,.pv (.int .i64 i))] [.obj (.box [.pv (.int .i64 n),.map 1]),.obj (.map (Zn m)),.obj (.box [.pv (.int .i64 0),.pv (.sl 0 true [])]),.obj (.box [.pv (.int .i64 n),.pv (.sl 0 true [])]),.obj (.row false 9 1 (xs.map .str))]:=Z6.mo (.lit (.ask (.req (.keep (.req (.req (.req (.keep (.lit (.lit (.lit (.lit (.lit (.lit (.nil))))))))))))) (.lit (.abs (Bool) (fun YY=>AV.pv (enc YY)) (.ask (.nil) (.nil)))))) h (by kernel_rfl)
theorem RH{G:AV×List AObj×List AObj->Prop}(E:YO)(n:Int)(m:List (Str×Int))(l:Nat)(xs:List (List UInt8))(i:Int)(q:Nat)(ts:List Coef)(h:if (decide (i<(↑l:Int)))=true then(decide (0<=i)&&decide (0+Int.toNat i<l)&&List.length (List.map PV.str xs)==l)=true∧((List.length (List.map PV.str xs)==l&&decide (0+Int.toNat i<List.length (List.map PV.str xs)))=true∧((decide (0+List.length [Sh.str]<=List.length (PV.cells (List.getD (List.map PV.str xs) (0+Int.toNat i) default)))&&Yk (PV.cells (List.getD (List.map PV.str xs) (0+Int.toNat i) default)) 0 [Sh.str])=true∧((Uw (Sh.co Sh.str (List.getD (PV.cells (List.getD (List.map PV.str xs) (0+Int.toNat i) default)) 0 default)) (Zn m)&&Sh.fit (Sh.int .i64) (Yi (Sh.co Sh.str (List.getD (PV.cells (List.getD (List.map PV.str xs) (0+Int.toNat i) default)) 0 default)) (PV.int .i64 0) (Zn m)))=true∧((List.length (List.map enc ts)==q&&q==q&&decide ((q+List.length (List.drop 0 (List.take 1 [PV.agg [Sh.co Sh.str (List.getD (PV.cells (List.getD (List.map PV.str xs) (0+Int.toNat i) default)) 0 default),if false=true then PV.tup [Sh.co (Sh.int .i64) (Yi (Sh.co Sh.str (List.getD (PV.cells (List.getD (List.map PV.str xs) (0+Int.toNat i) default)) 0 default)) (PV.int .i64 0) (Zn m)),PV.bool (Va (Sh.co Sh.str (List.getD (PV.cells (List.getD (List.map PV.str xs) (0+Int.toNat i) default)) 0 default)) (Zn m))]else Sh.co (Sh.int .i64) (Yi (Sh.co Sh.str (List.getD (PV.cells (List.getD (List.map PV.str xs) (0+Int.toNat i) default)) 0 default)) (PV.int .i64 0) (Zn m))]])))*24<=1099511627776)&&decide (q+List.length (List.drop 0 (List.take 1 [PV.agg [Sh.co Sh.str (List.getD (PV.cells (List.getD (List.map PV.str xs) (0+Int.toNat i) default)) 0 default),if false=true then PV.tup [Sh.co (Sh.int .i64) (Yi (Sh.co Sh.str (List.getD (PV.cells (List.getD (List.map PV.str xs) (0+Int.toNat i) default)) 0 default)) (PV.int .i64 0) (Zn m)),PV.bool (Va (Sh.co Sh.str (List.getD (PV.cells (List.getD (List.map PV.str xs) (0+Int.toNat i) default)) 0 default)) (Zn m))]else Sh.co (Sh.int .i64) (Yi (Sh.co Sh.str (List.getD (PV.cells (List.getD (List.map PV.str xs) (0+Int.toNat i) default)) 0 default)) (PV.int .i64 0) (Zn m))]]))<=1099511627776))=true∧(JX YX E 2 (Zr 2 YR G) YP 0 58 [(0,(.ptr 0 0)),(2,(.ptr 2 0)),(4,(.ptr 3 0)),(33,(.row 4 l 0 l)),(34,(.pv (.int .i64 (↑l:Int)))),(35,(.pv (.int .i64 (IntKind.wrap IntKind.i64 (i+1)))))] [(.obj (.box [(.pv (.int .i64 n)),(.map 1)])),(.obj (.map (Zn m))),(.obj (.box [(.pv (.int .i64 0)),(.pv (.sl 0 true []))])),(.obj (.box [(.pv (.int .i64 n)),(.row 5 (q+List.length (List.drop 0 (List.take 1 [PV.agg [Sh.co Sh.str (List.getD (PV.cells (List.getD (List.map PV.str xs) (0+Int.toNat i) default)) 0 default),if false=true then PV.tup [Sh.co (Sh.int .i64) (Yi (Sh.co Sh.str (List.getD (PV.cells (List.getD (List.map PV.str xs) (0+Int.toNat i) default)) 0 default)) (PV.int .i64 0) (Zn m)),PV.bool (Va (Sh.co Sh.str (List.getD (PV.cells (List.getD (List.map PV.str xs) (0+Int.toNat i) default)) 0 default)) (Zn m))]else Sh.co (Sh.int .i64) (Yi (Sh.co Sh.str (List.getD (PV.cells (List.getD (List.map PV.str xs) (0+Int.toNat i) default)) 0 default)) (PV.int .i64 0) (Zn m))]]))) 0 (q+List.length (List.drop 0 (List.take 1 [PV.agg [Sh.co Sh.str (List.getD (PV.cells (List.getD (List.map PV.str xs) (0+Int.toNat i) default)) 0 default),if false=true then PV.tup [Sh.co (Sh.int .i64) (Yi (Sh.co Sh.str (List.getD (PV.cells (List.getD (List.map PV.str xs) (0+Int.toNat i) default)) 0 default)) (PV.int .i64 0) (Zn m)),PV.bool (Va (Sh.co Sh.str (List.getD (PV.cells (List.getD (List.map PV.str xs) (0+Int.toNat i) default)) 0 default)) (Zn m))]else Sh.co (Sh.int .i64) (Yi (Sh.co Sh.str (List.getD (PV.cells (List.getD (List.map PV.str xs) (0+Int.toNat i) default)) 0 default)) (PV.int .i64 0) (Zn m))]]))))])),(.obj (.row false 9 1 (List.map PV.str xs))),(.obj (.row false 61 2 (List.map enc ts++List.drop 0 (List.take 1 [PV.agg [Sh.co Sh.str (List.getD (PV.cells (List.getD (List.map PV.str xs) (0+Int.toNat i) default)) 0 default),if false=true then PV.tup [Sh.co (Sh.int .i64) (Yi (Sh.co Sh.str (List.getD (PV.cells (List.getD (List.map PV.str xs) (0+Int.toNat i) default)) 0 default)) (PV.int .i64 0) (Zn m)),PV.bool (Va (Sh.co Sh.str (List.getD (PV.cells (List.getD (List.map PV.str xs) (0+Int.toNat i) default)) 0 default)) (Zn m))]else Sh.co (Sh.int .i64) (Yi (Sh.co Sh.str (List.getD (PV.cells (List.getD (List.map PV.str xs) (0+Int.toNat i) default)) 0 default)) (PV.int .i64 0) (Zn m))]]))))])))))else((List.length (List.map enc ts)==q)=true∧((Go.Pl.preT (fun(x:Lin×Unit)=>Zx x.1) [(.agg [(.int .i64 n),(.sl 2 false (List.drop 0 (List.take q (List.map enc ts))))])])=true∧(∃ y0:Bool,AV.pv (Zf (fun(x:Lin×Unit)=>Zj x.1) [(.agg [(.int .i64 n),(.sl 2 false (List.drop 0 (List.take q (List.map enc ts))))])])=AV.pv (enc y0)∧(if (!y0)=true then G (((.tup [(.pv (.agg [(.int .i64 0),(.sl 0 true [])])),(.pv (.int .i64 3))]),([(.box [(.pv (.int .i64 n)),(.map 1)]),(.map (Zn m))],[])))else(G (((.tup [(.agg [(.pv (.int .i64 n)),(.row 2 q 0 q)]),(.pv (.int .i64 0))]),([(.box [(.pv (.int .i64 n)),(.map 1)]),(.map (Zn m))],[(.row true 61 2 (List.map enc ts))]))))))))):JX YX E 2 (Zr 2 YR G) YP 0 58 [(0,.ptr 0 0),(2,.ptr 2 0),(4,.ptr 3 0),(33,.row 4 l 0 l),(34,.pv (.int .i64 l)),(35,.pv (.int .i64 i))] [.obj (.box [.pv (.int .i64 n),.map 1]),.obj (.map (Zn m)),.obj (.box [.pv (.int .i64 0),.pv (.sl 0 true [])]),.obj (.box [.pv (.int .i64 n),.row 5 q 0 q]),.obj (.row false 9 1 (xs.map .str)),.obj (.row false 61 2 (ts.map enc))]:=Z6.mo (.lit (.ask (.req (.keep (.req (.req (.req (.keep (.lit (.lit (.req (.lit (.nil))))))))))) (.req (.req (.abs (Bool) (fun YY=>AV.pv (enc YY)) (.ask (.nil) (.nil))))))) h (by kernel_rfl)
theorem a3v{G:AV×List AObj×List AObj->Prop}(E:YO)(n:Int)(m:List (Str×Int))(h:JX YX E 2 (Zr 2 YR G) YP 0 58 [(0,(.ptr 0 0)),(2,(.ptr 2 0)),(4,(.ptr 3 0)),(33,(.pv (.sl 0 true []))),(34,(.pv (.int .i64 0))),(35,(.pv (.int .i64 0)))] [(.obj (.box [(.pv (.int .i64 n)),(.map 1)])),(.obj (.map (Zn m))),(.obj (.box [(.pv (.int .i64 0)),(.pv (.sl 0 true []))])),(.obj (.box [(.pv (.int .i64 n)),(.pv (.sl 0 true []))]))]):AfX YX E 2 (Zr 2 YR G) YP 0 .normal ⟨XG 58 0 [(0,.ptr 0 0),(2,.ptr 2 0),(4,.ptr 3 0),(5,.pv (.sl 0 true [])),(18,.map 1),(19,.ptr 4 0)],[.obj (.box [.pv (.int .i64 n),.map 1]),.obj (.map (Zn m)),.obj (.box [.pv (.int .i64 0),.pv (.sl 0 true [])]),.obj (.box [.pv (.int .i64 n),.pv (.sl 0 true [])]),.dead]⟩:=Z6.mo (.lit (.keep (.nil))) h (by kernel_rfl)
theorem a2y{G:AV×List AObj×List AObj->Prop}(E:YO)(n:Int)(m:List (Str×Int))(l:Nat)(xs:List (List UInt8))(h:(YW [(.row 0 l 0 l)] [(.row false 9 1 (List.map PV.str xs))])=true∧(JX YX E 2 (Zr 2 YR G) YP 0 58 [(0,(.ptr 0 0)),(2,(.ptr 2 0)),(4,(.ptr 3 0)),(33,(.row 4 l 0 l)),(34,(.pv (.int .i64 (↑(l - 0):Int)))),(35,(.pv (.int .i64 0)))] [(.obj (.box [(.pv (.int .i64 n)),(.map 1)])),(.obj (.map (Zn m))),(.obj (.box [(.pv (.int .i64 0)),(.pv (.sl 0 true []))])),(.obj (.box [(.pv (.int .i64 n)),(.pv (.sl 0 true []))])),(.obj (.row false 9 1 (List.map PV.str (YV (List.map UX (List.map PV.str xs))))))])):AfX YX E 2 (Zr 2 YR G) YP 0 .normal ⟨XG 58 0 [(0,.ptr 0 0),(2,.ptr 2 0),(4,.ptr 3 0),(5,.row 5 l 0 l),(18,.map 1),(19,.ptr 4 0)],[.obj (.box [.pv (.int .i64 n),.map 1]),.obj (.map (Zn m)),.obj (.box [.pv (.int .i64 0),.pv (.sl 0 true [])]),.obj (.box [.pv (.int .i64 n),.pv (.sl 0 true [])]),.dead,.obj (.row false 9 1 (xs.map .str))]⟩:=Z6.mo (.req (.keep (.nil))) h (by kernel_rfl)
end Go.Pl

namespace Go.Pl
open Go.RowKit
open Enc (enc dec is)
open EncL (encL decL isL)
def Yh(m:List (Str×Int))(xs:List (List UInt8)):List Coef:=xs.map fun s=>⟨⟨s⟩,Ws m s⟩
def Jj(n:Int)(m:List (Str×Int))(l:List Coef):AV×List AObj×List AObj:=
 if Zj ⟨n,l⟩then
  if l.isEmpty then(.tup [.pv (.agg [.int .i64 n,.sl 0 true []]),.pv (.int .i64 0)],[.box [.pv (.int .i64 n),.map 1],.map (Zn m)],[])
  else(.tup [.agg [.pv (.int .i64 n),.row 2 l.length 0 l.length],.pv (.int .i64 0)],[.box [.pv (.int .i64 n),.map 1],.map (Zn m)],[.row true 61 2 (l.map enc)])
 else(.tup [.pv (.agg [.int .i64 0,.sl 0 true []]),.pv (.int .i64 3)],[.box [.pv (.int .i64 n),.map 1],.map (Zn m)],[])
theorem a6c(n:Int)(m:List (Str×Int)){xs:List (List UInt8)}(hx:xs.length<=1000000)(hsx : ∀ x∈xs,x.length<=1000000):Zx ⟨n,Yh m xs⟩=true:=by
 simp only[Zx,Zy,Yh,List.length_map,Bool.and_eq_true,decide_eq_true_eq,List.all_eq_true,List.mem_map]
 refine⟨by omega,?_⟩
 rintro t ⟨x,hxm,rfl⟩
 exact hsx x hxm
theorem a6g{E:YO}(n:Int)(m:List (Str×Int))(xs:List (List UInt8))(hx:xs.length<=1000000)(hsx : ∀ x∈xs,x.length<=1000000): ∀ (j k:Nat),j+k=xs.length->0<k ->
  JX YX E 2 (Zr 2 YR fun r=>r=Jj n m (Yh m xs)) YP 0 58 [(0,.ptr 0 0),(2,.ptr 2 0),(4,.ptr 3 0),(33,.row 4 xs.length 0 xs.length),(34,.pv (.int .i64 xs.length)),(35,.pv (.int .i64 k))]
   [.obj (.box [.pv (.int .i64 n),.map 1]),.obj (.map (Zn m)),.obj (.box [.pv (.int .i64 0),.pv (.sl 0 true [])]),.obj (.box [.pv (.int .i64 n),.row 5 k 0 k]),.obj (.row false 9 1 (xs.map .str)),.obj (.row false 61 2 ((Yh m (xs.take k)).map enc))]:=by
 intro j
 induction j with
 | zero=>
  intro k hk h0
  obtain rfl:k=xs.length:=by omega
  refine RH E n m xs.length xs xs.length xs.length (Yh m (xs.take xs.length)) ?_
  rw[if_neg (by simp)]
  have e1:Yh m (xs.take xs.length)=Yh m xs:=by rw[List.take_length]
  rw[e1]
  have e2:List.drop 0 (List.take xs.length (List.map (enc:Coef->PV) (Yh m xs)))=(Yh m xs).map enc:=by rw[List.drop_zero,List.take_of_length_le (by simp[Yh])]
  rw[e2]
  refine⟨by simp[Yh],Zd (⟨n,Yh m xs⟩,()) rfl (a6c n m hx hsx),Ze (⟨n,Yh m xs⟩,()) rfl ?_⟩
  have hne:(Yh m xs).isEmpty=false:=by cases xs <;> simp[Yh]at h0 ⊢
  by_cases hv:Zj ⟨n,Yh m xs⟩=true
  ·rw[if_neg (by simp[hv])]
   unfold Jj
   rw[if_pos hv,hne]
   simp[Yh]
  ·rw[if_pos (by simpa using hv)]
   simp[Jj,hv]
 | succ j ih=>
  intro k hk h0
  have hlt:k<xs.length:=by omega
  refine RH E n m xs.length xs k k (Yh m (xs.take k)) ?_
  rw[if_pos (by simp;omega)]
  have eg:List.getD (List.map PV.str xs) (0+Int.toNat (k:Int)) default = .str xs[k]:=by simp[List.getD,hlt]
  rw[eg]
  have ec:Sh.co Sh.str (List.getD (PV.cells (.str xs[k])) 0 default) = .str xs[k]:=rfl
  rw[ec,VC]
  refine⟨by simp;omega,by simp;omega,rfl,by rw[WT];rfl,?_,?_⟩
  ·simp[Yh];omega
  ·have h:=ih (k+1) (by omega) (by omega)
   have et:xs.take (k+1)=xs.take k++[xs[k]]:=by rw[List.take_add_one,List.getElem?_eq_getElem hlt];rfl
   rw[et]at h
   rw[next (by omega)]
   simp only[Yh,List.map_append,List.map_cons,List.map_nil]at h ⊢
   exact h
def a7v:MapParts:=⟨[⟨(some 15),(.mv (.t 0)),0,none⟩,⟨(some 16),(.nilchk (.t 15)),0,none⟩,⟨(some 17),(.faddr 1 (.t 16)),0,none⟩,⟨(some 18),(.load false [.any] (.t 17)),0,none⟩],.t 18,19,20,21,22,1,[⟨(some 23),(.extract (.t 22) 0),0,none⟩,⟨(some 24),(.extract (.t 22) 1),0,none⟩,⟨(some 6),(.mv (.t 23)),0,none⟩,⟨(some 7),(.mv (.t 24)),0,none⟩],Vl⟩
def SB:YO:=fun nn st q=>nn=0∧b6j YX 2 a7v st q
def kz(vis:List (PV×PV)):List (List UInt8):=vis.filterMap fun p=>match p with|(.str s,.int _ c)=>if c=0 then none else some s|_=>none
def Qf(m:List (Str×Int)):List (List UInt8):=YV (kz (Zn m))
def b6w(n:Int):ZB:=[.obj (.box [.pv (.int .i64 n),.map 1]),.dead,.obj (.box [.pv (.int .i64 0),.pv (.sl 0 true [])]),.obj (.box [.pv (.int .i64 n),.pv (.sl 0 true [])]),.dead]
def Sy(x:AV):List AV:=XG 58 0 [(0,.ptr 0 0),(2,.ptr 2 0),(4,.ptr 3 0),(5,x),(18,.map 1),(19,.ptr 4 0)]
def b5m(n:Int)(vis:List (PV×PV))(s:St):Prop:=
 (kz vis=[]∧s=⟨Sy (.pv (.sl 0 true [])),b6w n⟩)∨(kz vis≠[]∧s=⟨Sy (.row 5 (kz vis).length 0 (kz vis).length),b6w n++[.obj (.row false 9 1 ((kz vis).map .str))]⟩)
theorem NE{a b:List (List UInt8)}(h:a.Perm b):YV a=YV b:=by
 have tr : ∀ x y z:List UInt8,decide (x<=y)=true->decide (y<=z)=true->decide (x<=z)=true:=fun x y z h k=>by simp only[decide_eq_true_eq]at *;exact List.le_trans h k
 have to : ∀ x y:List UInt8,(decide (x<=y)||decide (y<=x))=true:=fun x y=>by simp only[Bool.or_eq_true,decide_eq_true_eq];exact List.le_total x y
 refine List.Perm.eq_of_pairwise (le:=fun x y=>decide (x<=y)=true) (fun x y _ _ h1 h2=> ?_) (List.pairwise_mergeSort tr to a) (List.pairwise_mergeSort tr to b) (((List.mergeSort_perm a _).trans h).trans (List.mergeSort_perm b _).symm)
 simp only[decide_eq_true_eq]at h1 h2
 exact List.le_antisymm h1 h2
theorem a0h(n:Int)(vis:List (PV×PV))(s:List UInt8)(c:Int)(st:St)(hl:(kz vis).length<1000000)(h:b5m n vis st):
  ∃ s2,UY YX st.heap.length a7v.psE (grow ⟨((st.env.set 20 .junk).set 21 .junk).set 22 (.pv (.tup [.str s,.int .i64 c])),st.heap⟩ (news a7v.psE))=some s2∧ ∃ F',(∀ x,¬ F' x) ∧
   Z6 YX (fun n' S' _=>n'=99∧b5m n (vis++[(.str s,.int .i64 c)]) S') st.heap.length F' (.inl Vl) [.blk 1,.seq (.ext 99 [0,2,4,5,18,19])] s2:=by
 have hno : ∀ k,∀ x,¬ Zr k VX (fun _=>False) x:=by rintro k x ⟨r,_,h⟩;exact h
 have ek:kz (vis++[(.str s,.int .i64 c)])=kz vis++(if c=0 then []else [s]):=by
  unfold kz
  rw[List.filterMap_append]
  by_cases hc:c=0 <;> simp[hc]
 rcases h with ⟨h1,rfl⟩|⟨h1,rfl⟩
 ·refine⟨_,by kernel_rfl,_,hno 5,a4q (G:=fun _=>False) _ n s c ?_⟩
  by_cases hc:c=0
  ·rw[if_neg (by simp[hc])]
   refine⟨rfl,.inl ⟨by rw[ek,h1];simp[hc],rfl⟩⟩
  ·rw[if_pos (by simpa using hc)]
   refine⟨rfl,.inr ⟨by rw[ek,h1];simp[hc],?_⟩⟩
   rw[ek,h1]
   simp[hc]
   exact⟨rfl,rfl⟩
 ·refine⟨_,by kernel_rfl,_,hno 6,a5g (G:=fun _=>False) _ n s c (kz vis).length (kz vis) ?_⟩
  by_cases hc:c=0
  ·rw[if_neg (by simp[hc])]
   refine⟨rfl,.inr ⟨by rw[ek];simp[hc,h1],?_⟩⟩
   rw[ek]
   simp[hc]
   exact⟨rfl,rfl⟩
  ·rw[if_pos (by simpa using hc)]
   refine⟨by simp;omega,rfl,.inr ⟨by rw[ek];simp[hc],?_⟩⟩
   rw[ek]
   simp[hc]
   exact⟨rfl,rfl⟩
theorem En{E:YO}(n:Int)(m:List (Str×Int))(xs:List (List UInt8))(hx:xs.length<=1000000)(hsx : ∀ x∈xs,x.length<=1000000)(h0:0<xs.length):
  JX YX E 2 (Zr 2 YR fun r=>r=Jj n m (Yh m xs)) YP 0 58 [(0,.ptr 0 0),(2,.ptr 2 0),(4,.ptr 3 0),(33,.row 4 xs.length 0 xs.length),(34,.pv (.int .i64 xs.length)),(35,.pv (.int .i64 0))]
   [.obj (.box [.pv (.int .i64 n),.map 1]),.obj (.map (Zn m)),.obj (.box [.pv (.int .i64 0),.pv (.sl 0 true [])]),.obj (.box [.pv (.int .i64 n),.pv (.sl 0 true [])]),.obj (.row false 9 1 (xs.map .str))]:=by
 refine a5e E n m xs.length xs 0 ?_
 rw[if_pos (by simp;omega)]
 have eg:List.getD (List.map PV.str xs) (0+Int.toNat (0:Int)) default = .str xs[0]:=by simp[List.getD,h0]
 rw[eg]
 have ec:Sh.co Sh.str (List.getD (PV.cells (.str xs[0])) 0 default) = .str xs[0]:=rfl
 rw[ec,VC]
 refine⟨by simp;omega,by simp;omega,rfl,by rw[WT];rfl,?_⟩
 have h:=a6g (E:=E) n m xs hx hsx (xs.length - 1) 1 (by omega) (by omega)
 have et:xs.take 1=[xs[0]]:=by cases xs <;> simp at h0 ⊢
 rw[et]at h
 exact h
theorem a6d(n:Int)(m:List (Str×Int))(hm:m.length<1000000)(hkm : ∀ x∈Qf m,x.length<=1000000):
  UZ YX SB 2 (Zr 2 YR fun r=>r=Jj n m (Yh m (Qf m))) YP [] (Uh 58 [.ptr 0 0] [.box [.pv (.int .i64 n),.map 1],.map (Zn m)]):=by
 refine b6m SB n m ?_
 have elen : ∀ x,(Sy x).length=58:=fun x=>rfl
 refine⟨rfl,⟨((((XG 58 0 [(0,.ptr 0 0),(2,.ptr 2 0),(4,.ptr 3 0),(5,.pv (.sl 0 true [])),(6,.undef),(7,.undef),(15,.undef),(16,.undef),(17,.undef),(18,.undef),(19,.undef),(20,.undef),(21,.undef),(22,.undef),(23,.undef),(24,.undef),(25,.undef),(26,.undef),(27,.undef),(28,.undef),(29,.undef),(30,.undef)]).set 15 (.ptr 0 0)).set 16 (.ptr 0 0)).set 17 (.ptr 0 1)).set 18 (.map 1),
   [.obj (.box [.pv (.int .i64 n),.map 1]),.obj (.map (Zn m)),.obj (.box [.pv (.int .i64 0),.pv (.sl 0 true [])]),.obj (.box [.pv (.int .i64 n),.pv (.sl 0 true [])])]⟩,⟨Sy (.pv (.sl 0 true [])),b6w n⟩,1,4,18,1,Zn m,[0,2,4,5,18,19],[0,2,4,5,18,19],b5m n,by kernel_rfl,rfl,rfl,by kernel_rfl,rfl,by decide,rfl,.inl ⟨rfl,rfl⟩,?_,?_,?_⟩
 ·intro vis s h
  rcases h with ⟨_,rfl⟩|⟨_,rfl⟩
  ·exact⟨⟨rfl,by show 20<_;rw[elen];omega,by show 21<_;rw[elen];omega,by show 22<_;rw[elen];omega⟩,rfl⟩
  ·exact⟨⟨rfl,by show 20<_;rw[elen];omega,by show 21<_;rw[elen];omega,by show 22<_;rw[elen];omega⟩,rfl⟩
 ·intro vis kv s rest hp hI
  have hin:kv∈Zn m:=hp.mem_iff.2 (by simp)
  obtain⟨p,_,rfl⟩:=List.mem_map.1 hin
  have hl:=hp.length_eq
  simp[Zn]at hl
  have hk:(kz vis).length<=vis.length:=List.length_filterMap_le _ _
  exact a0h n vis p.1.s p.2 s (by omega) hI
 ·intro vis s hp hI
  have hpk:(kz vis).Perm (kz (Zn m)):=hp.filterMap _
  have hs:YV (kz vis)=Qf m:=NE hpk
  have hkl:(kz vis).length<=1000000:=by
   have h1:(kz vis).length<=vis.length:=List.length_filterMap_le _ _
   have h2:=hp.length_eq
   simp[Zn]at h2
   omega
  rcases hI with ⟨h1,rfl⟩|⟨h1,rfl⟩
  ·refine a3v SB n m ?_
   have hn:Qf m=[]:=by rw[<- hs,h1];simp[YV]
   rw[hn]
   refine a9g SB n m 0 ?_
   rw[if_neg (by simp)]
   refine CB (⟨n,[]⟩,()) (by simp) ?_
   by_cases hv:Zj ⟨n,[]⟩=true
   ·rw[if_neg (by simp[hv])]
    simp[Jj,Yh,hv]
   ·rw[if_pos (by simpa using hv)]
    simp[Jj,Yh,hv]
  ·refine a2y SB n m (kz vis).length (kz vis) ?_
   have e1:List.map UX (List.map PV.str (kz vis))=kz vis:=by rw[List.map_map];exact List.map_id _
   rw[e1,hs]
   have e2:(Qf m).length=(kz vis).length:=by rw[<- hs];exact(List.mergeSort_perm _ _).length_eq
   refine⟨?_,?_⟩
   ·simp[YW,J4]
    omega
   ·have:=En (E:=SB) n m (Qf m) (by omega) hkm (by rw[e2];exact List.length_pos_iff.2 h1)
    rw[e2]at this
    simpa using this
end Go.Pl

namespace Go.Pl
open Go.RowKit
open Enc (enc dec is)
open EncL (encL decL isL)
def b7s(n:Int)(m:List (Str×Int)):AV×List AObj×List AObj:=(.tup [],[.box [.pv (.int .i64 n),.map 1],.map (Zn m)],[])
theorem a0g(n:Int)(l:Lin)(k:Int)(hl:l.t.length<=1000000): ∀ (j i:Nat) (m:List (Str×Int)),j+i=l.t.length ->
  At QA 2 (Zr 2 Uu fun r=>r=b7s n (YK k (l.t.drop i) m)) Um 0 39 [(0,.ptr 0 0),(2,.pv (.int .i64 k)),(20,.pv (enc l.t)),(21,.pv (.int .i64 l.t.length)),(22,.pv (.int .i64 i))] [.obj (.box [.pv (.int .i64 n),.map 1]),.obj (.map (Zn m))]:=by
 intro j
 induction j with
 | zero=>
  intro i m hi
  refine Ow n m l k i ?_
  rw[if_neg (by simp;omega),List.drop_of_length_le (by omega)]
  rfl
 | succ j ih=>
  intro i m hi
  have hlt:i<l.t.length:=by omega
  refine Ow n m l k i ?_
  rw[if_pos (by simp;omega)]
  refine⟨by simp[Enc.sz];omega,l.t[i],by simp[List.getD,hlt],?_⟩
  have ec:Sh.co Sh.str (List.getD (PV.cells (enc l.t[i])) 0 default) = .str l.t[i].v.s:=rfl
  rw[ec,VC]
  have ev:PV.asInt (List.getD (PV.cells (enc l.t[i])) (0+1) default)=l.t[i].c:=rfl
  have ea:PV.asInt (.int .i64 (Ws m l.t[i].v.s))=Ws m l.t[i].v.s:=rfl
  rw[ev,ea]
  have eu:=TC l.t[i].v (IntKind.i64.wrap (Ws m l.t[i].v.s+IntKind.i64.wrap (k*l.t[i].c))) m
  refine⟨by rw[WT];rfl,?_,?_⟩
  ·show(upd _ _ _).isSome=true
   exact(congrArg Option.isSome eu).trans rfl
  ·have h:=ih (i+1) (VH l.t[i].v (IntKind.i64.wrap (Ws m l.t[i].v.s+IntKind.i64.wrap (k*l.t[i].c))) m) (by omega)
   rw[next (by omega)]
   have ed:l.t.drop i=l.t[i]::l.t.drop (i+1):=List.drop_eq_getElem_cons hlt
   rw[ed]
   have e2:Ty (.str l.t[i].v.s) (.int .i64 (IntKind.i64.wrap (Ws m l.t[i].v.s+IntKind.i64.wrap (k*l.t[i].c)))) (Zn m)=Zn (VH l.t[i].v (IntKind.i64.wrap (Ws m l.t[i].v.s+IntKind.i64.wrap (k*l.t[i].c))) m):=by
    unfold Ty
    rw[eu]
    rfl
   rw[<- e2]at h
   exact h
theorem a6e(n:Int)(m:List (Str×Int))(l:Lin)(k:Int)(hl:l.t.length<=1000000):
  Zc QA 2 (Zr 2 Uu fun r=>r=b7s (IntKind.i64.wrap (n+IntKind.i64.wrap (k*l.k))) (YK k l.t m)) Um [] (Uh 39 [.ptr 0 0,.pv (enc l),.pv (.int .i64 k)] [.box [.pv (.int .i64 n),.map 1],.map (Zn m)]):=by
 refine b6g n m l k ?_
 have h:=a0g (IntKind.i64.wrap (n+IntKind.i64.wrap (k*l.k))) l k hl l.t.length 0 m rfl
 rw[List.drop_zero]at h
 have e:List.length (List.map (enc:Coef->PV) l.t)=l.t.length:=by simp
 rw[e]
 exact h
end Go.Pl

namespace Go.Pl
open Go.RowKit
open Enc (enc dec is)
open EncL (encL decL isL)
set_option maxRecDepth 100000
def Yr:IC:=(.seq (.reg [⟨(some 4),(.mv (.c (.int .i64 0))),0,none⟩,⟨(some 5),(.mv (.c .nilmap)),0,none⟩,⟨(some 6),(.mv (.c (.bool false))),0,none⟩] none) (.seq (.seq (.reg [⟨(some 16),(.mv (.t 1)),0,none⟩,⟨(some 17),(.len 1 (.t 16)),0,none⟩,⟨(some 18),(.mv (.t 0)),0,none⟩,⟨(some 19),(.len 1 (.t 18)),0,none⟩,⟨(some 20),(.bin .num .neq (.t 17) (.t 19)),0,none⟩] none) (.cond (.t 20) (.seq (.reg [⟨(some 4),(.mv (.c (.int .i64 0))),0,none⟩,⟨(some 5),(.mv (.c .nilmap)),0,none⟩,⟨(some 6),(.mv (.c (.bool false))),0,none⟩] none) .ret) .skip)) (.seq (.reg [⟨(some 21),.mkmap,0,none⟩,⟨(some 7),(.mv (.c (.int .i64 0))),1,none⟩,⟨(some 8),(.mv (.t 21)),1,none⟩] none) (.seq (.seq (.reg [⟨(some 22),(.mv (.t 0)),0,none⟩,⟨(some 23),(.len 1 (.t 22)),0,none⟩,⟨(some 24),(.mv (.c (.int .i64 0))),0,none⟩] none) (.block 0 (.loop [24,23,22,1,7,8,74,75,76,77,78,79,80,15,81,82,14,83,84] (.seq (.reg [⟨(some 25),(.bin .num .lss (.t 24) (.t 23)),0,none⟩] none) (.seq (.cond (.t 25) .skip (.exit 0)) (.seq (.block 1 (.seq (.reg [⟨(some 26),(.mv (.t 24)),0,none⟩,⟨(some 27),(.iaddr 3 (.t 22) (.t 24)),0,none⟩,⟨(some 28),(.load true [.bool,(.int .i64),(.sl 2)] (.t 27)),0,none⟩,⟨(some 10),(.alloc (.agg [(.bool false),(.int .i64 0),(.sl 0 true [])])),0,none⟩,⟨(some 9),(.mv (.t 26)),1,none⟩,⟨none,(.store 3 (.t 10) (.t 28)),1,none⟩] none) (.seq (.reg [⟨(some 29),(.mv (.t 1)),0,none⟩,⟨(some 30),(.mv (.t 9)),0,none⟩,⟨(some 31),(.iaddr 1 (.t 29) (.t 30)),0,none⟩,⟨(some 32),(.load false [(.int .i64)] (.t 31)),0,none⟩,⟨(some 11),(.mv (.t 32)),0,none⟩] none) (.seq (.seq (.reg [⟨(some 33),(.mv (.t 11)),0,none⟩,⟨(some 34),(.bin .num .lss (.t 33) (.c (.int .i64 (-1000000000)))),0,none⟩,⟨(some 35),(.mv (.t 34)),0,none⟩,⟨(some 36),(.mv (.t 11)),0,(some (35,false))⟩,⟨(some 37),(.bin .num .gtr (.t 36) (.c (.int .i64 1000000000))),0,(some (35,false))⟩,⟨(some 38),(.pick (.t 35) (.c (.bool true)) (.t 37)),0,none⟩,⟨(some 39),(.mv (.t 38)),0,none⟩,⟨(some 40),(.mv (.t 11)),0,(some (39,false))⟩,⟨(some 41),(.bin .num .lss (.t 40) (.c (.int .i64 0))),0,(some (39,false))⟩,⟨(some 42),(.mv (.t 41)),0,(some (39,false))⟩,⟨(some 43),(.faddr 0 (.t 10)),0,(some (42,true))⟩,⟨(some 44),(.load false [.bool] (.t 43)),0,(some (42,true))⟩,⟨(some 45),(.un .not (.t 44)),0,(some (42,true))⟩,⟨(some 46),(.pick (.t 42) (.t 45) (.c (.bool false))),0,(some (39,false))⟩,⟨(some 47),(.pick (.t 39) (.c (.bool true)) (.t 46)),0,none⟩] none) (.cond (.t 47) (.seq (.reg [⟨(some 4),(.mv (.c (.int .i64 0))),0,none⟩,⟨(some 5),(.mv (.c .nilmap)),0,none⟩,⟨(some 6),(.mv (.c (.bool false))),0,none⟩] none) .ret) .skip)) (.seq (.reg [⟨(some 48),(.mv (.t 7)),0,none⟩,⟨(some 49),(.mv (.t 11)),0,none⟩,⟨(some 50),(.faddr 1 (.t 10)),0,none⟩,⟨(some 51),(.faddr 0 (.t 50)),0,none⟩,⟨(some 52),(.load false [(.int .i64)] (.t 51)),0,none⟩,⟨(some 53),(.bin .num .mul (.t 49) (.t 52)),0,none⟩,⟨(some 54),(.bin .num .add (.t 48) (.t 53)),0,none⟩,⟨(some 7),(.mv (.t 54)),0,none⟩] none) (.seq (.reg [⟨(some 55),(.faddr 1 (.t 10)),0,none⟩,⟨(some 56),(.faddr 1 (.t 55)),0,none⟩,⟨(some 57),(.load false [(.sl 2)] (.t 56)),0,none⟩,⟨(some 58),(.len 1 (.t 57)),0,none⟩,⟨(some 59),(.mv (.c (.int .i64 0))),0,none⟩] none) (.block 2 (.loop [59,58,57,8,11,24,23,22,1,7,74,75,76,77,78,79,80,15,81,82,14,83,84] (.seq (.reg [⟨(some 60),(.bin .num .lss (.t 59) (.t 58)),0,none⟩] none) (.seq (.cond (.t 60) .skip (.exit 2)) (.seq (.block 3 (.seq (.reg [⟨(some 61),(.iaddr 2 (.t 57) (.t 59)),0,none⟩,⟨(some 62),(.load true [.str,(.int .i64)] (.t 61)),0,none⟩,⟨(some 13),(.alloc (.agg [(.str []),(.int .i64 0)])),0,none⟩,⟨none,(.store 2 (.t 13) (.t 62)),1,none⟩] none) (.reg [⟨(some 63),(.mv (.t 8)),0,none⟩,⟨(some 64),(.faddr 0 (.t 13)),0,none⟩,⟨(some 65),(.load false [.str] (.t 64)),0,none⟩,⟨(some 66),(.lookup true (.int .i64) (.int .i64 0) false (.t 63) (.t 65)),0,none⟩,⟨(some 67),(.mv (.t 11)),0,none⟩,⟨(some 68),(.faddr 1 (.t 13)),0,none⟩,⟨(some 69),(.load false [(.int .i64)] (.t 68)),0,none⟩,⟨(some 70),(.bin .num .mul (.t 67) (.t 69)),0,none⟩,⟨(some 71),(.bin .num .add (.t 66) (.t 70)),0,none⟩,⟨none,(.mapupd true (.t 63) (.t 65) (.t 71)),0,none⟩] none))) (.reg [⟨(some 72),(.bin .num .add (.t 59) (.c (.int .i64 1))),0,none⟩,⟨(some 59),(.mv (.t 72)),0,none⟩] none)))))))))))) (.reg [⟨(some 73),(.bin .num .add (.t 24) (.c (.int .i64 1))),0,none⟩,⟨(some 24),(.mv (.t 73)),0,none⟩] none))))))) (.seq (.ext 0 [8,74,75,76,77,78,79,80,15,81,82,14,83,84,7]) (.seq (.reg [⟨(some 85),(.mv (.t 7)),0,none⟩,⟨(some 86),(.mv (.t 8)),0,none⟩,⟨(some 4),(.mv (.t 85)),0,none⟩,⟨(some 5),(.mv (.t 86)),0,none⟩,⟨(some 6),(.mv (.c (.bool true))),0,none⟩] none) .ret))))))
def Yt:List IRes:=[(.tmp 4),(.tmp 5),(.tmp 6)]
abbrev LM:Nat:=87
def Y1:ZH:=XI []
theorem b5w{G:AV×List AObj×List AObj->Prop}(E:YO)(fs:List Fact)(ms:List Int)(h:if ((↑(List.length (List.map enc ms)):Int) != (↑(List.length (List.map enc fs)):Int))=true then G (((.tup [(.pv (.int .i64 0)),(.pv .nilmap),(.pv (.bool false))]),([],[])))else(JX Y1 E 0 (Zr 0 Yt G) Yr 0 87 [(1,(.pv (.sl 1 false (List.map enc ms)))),(7,(.pv (.int .i64 0))),(8,(.map 0)),(14,.undef),(15,.undef),(22,(.pv (.sl 3 false (List.map enc fs)))),(23,(.pv (.int .i64 (↑(List.length (List.map enc fs)):Int)))),(24,(.pv (.int .i64 0))),(74,.undef),(75,.undef),(76,.undef),(77,.undef),(78,.undef),(79,.undef),(80,.undef),(81,.undef),(82,.undef),(83,.undef),(84,.undef)] [(.obj (.map []))])):Z6 Y1 E 0 (Zr 0 Yt G) (.inl Yr) [] (Uh 87 [.pv (enc fs),.pv (enc ms)] []):=Z6.mo (.lit (.ask (.nil) (.nil))) h (by kernel_rfl)
theorem Fz{G:AV×List AObj×List AObj->Prop}(E:YO)(fs:List Fact)(ms:List Int)(n:Int)(M:List (Str×Int))(i:Int)(h:if (decide (i<(↑(List.length fs):Int)))=true then(decide (0<=i)&&decide (Int.toNat i<List.length (List.map enc fs))&&Enc.sz Fact==3)=true∧(∃ y0:Fact,AV.pv (PV.rptr (PV.cells (List.getD (List.map enc fs) (Int.toNat i) default)))=AV.pv (PV.rptr (PV.cells ((enc) y0)))∧((decide (0<=i)&&decide (Int.toNat i<List.length (List.map enc ms))&&Enc.sz Int==1)=true∧(∃ y1:Int,AV.pv (PV.rptr (PV.cells (List.getD (List.map enc ms) (Int.toNat i) default)))=AV.pv (PV.rptr (PV.cells ((enc) y1)))∧(if (decide (PV.asInt (List.getD (PV.cells (enc y1)) 0 default)<(-1000000000:Int)))=true then G (((.tup [(.pv (.int .i64 0)),(.pv .nilmap),(.pv (.bool false))]),([],[])))else(if (decide (PV.asInt (List.getD (PV.cells (enc y1)) 0 default)>1000000000))=true then G (((.tup [(.pv (.int .i64 0)),(.pv .nilmap),(.pv (.bool false))]),([],[])))else(if (decide (PV.asInt (List.getD (PV.cells (enc y1)) 0 default)<0))=true then if (!PV.asBool (List.getD (PV.cells (enc y0)) 0 default))=true then G (((.tup [(.pv (.int .i64 0)),(.pv .nilmap),(.pv (.bool false))]),([],[])))else(JX Y1 E 0 (Zr 0 Yt G) Yr 1 87 [(1,(.pv (.sl 1 false (List.map enc ms)))),(7,(.pv (.int .i64 (IntKind.wrap IntKind.i64 (n+IntKind.wrap IntKind.i64 (PV.asInt (List.getD (PV.cells (enc y1)) 0 default)*PV.asInt (List.getD (PV.cells (enc y0)) (0+1) default))))))),(8,(.map 0)),(11,(.pv (.int .i64 (PV.asInt (List.getD (PV.cells (enc y1)) 0 default))))),(14,.undef),(15,.undef),(22,(.pv (.sl 3 false (List.map enc fs)))),(23,(.pv (.int .i64 (↑(List.length fs):Int)))),(24,(.pv (.int .i64 i))),(57,(.pv (.sl 2 false (PV.asXs (List.getD (PV.cells (enc y0)) (0+1+1) default))))),(58,(.pv (.int .i64 (↑(List.length (PV.asXs (List.getD (PV.cells (enc y0)) (0+1+1) default))):Int)))),(59,(.pv (.int .i64 0))),(74,.undef),(75,.undef),(76,.undef),(77,.undef),(78,.undef),(79,.undef),(80,.undef),(81,.undef),(82,.undef),(83,.undef),(84,.undef)] [(.obj (.map (Zn M)))])else(JX Y1 E 0 (Zr 0 Yt G) Yr 1 87 [(1,(.pv (.sl 1 false (List.map enc ms)))),(7,(.pv (.int .i64 (IntKind.wrap IntKind.i64 (n+IntKind.wrap IntKind.i64 (PV.asInt (List.getD (PV.cells (enc y1)) 0 default)*PV.asInt (List.getD (PV.cells (enc y0)) (0+1) default))))))),(8,(.map 0)),(11,(.pv (.int .i64 (PV.asInt (List.getD (PV.cells (enc y1)) 0 default))))),(14,.undef),(15,.undef),(22,(.pv (.sl 3 false (List.map enc fs)))),(23,(.pv (.int .i64 (↑(List.length fs):Int)))),(24,(.pv (.int .i64 i))),(57,(.pv (.sl 2 false (PV.asXs (List.getD (PV.cells (enc y0)) (0+1+1) default))))),(58,(.pv (.int .i64 (↑(List.length (PV.asXs (List.getD (PV.cells (enc y0)) (0+1+1) default))):Int)))),(59,(.pv (.int .i64 0))),(74,.undef),(75,.undef),(76,.undef),(77,.undef),(78,.undef),(79,.undef),(80,.undef),(81,.undef),(82,.undef),(83,.undef),(84,.undef)] [(.obj (.map (Zn M)))])))))))else(E 0 ⟨XG 87 0 [(7,(.pv (.int .i64 n))),(8,(.map 0)),(14,.undef),(15,.undef),(74,.undef),(75,.undef),(76,.undef),(77,.undef),(78,.undef),(79,.undef),(80,.undef),(81,.undef),(82,.undef),(83,.undef),(84,.undef)],[(.obj (.map (Zn M)))]⟩ (fun x S'=>AfX Y1 E 0 (Zr 0 Yt G) Yr 0 x S'))):JX Y1 E 0 (Zr 0 Yt G) Yr 0 87 [(1,.pv (enc ms)),(7,.pv (.int .i64 n)),(8,.map 0),(14,.undef),(15,.undef),(22,.pv (enc fs)),(23,.pv (.int .i64 fs.length)),(24,.pv (.int .i64 i)),(74,.undef),(75,.undef),(76,.undef),(77,.undef),(78,.undef),(79,.undef),(80,.undef),(81,.undef),(82,.undef),(83,.undef),(84,.undef)] [.obj (.map (Zn M))]:=Z6.mo (.lit (.ask (.req (.abs (Fact) (fun YY=>AV.pv (PV.rptr (PV.cells ((enc) YY)))) (.lit (.req (.abs (Int) (fun YY=>AV.pv (PV.rptr (PV.cells ((enc) YY)))) (.lit (.lit (.ask (.lit (.lit (.lit (.lit (.lit (.lit (.lit (.lit (.nil))))))))) (.lit (.lit (.lit (.ask (.lit (.lit (.lit (.lit (.lit (.nil)))))) (.lit (.lit (.lit (.ask (.lit (.lit (.lit (.lit (.lit (.ask (.nil) (.lit (.lit (.nil))))))))) (.lit (.lit (.lit (.lit (.lit (.lit (.lit (.lit (.nil))))))))))))))))))))))))) (.nil))) h (by kernel_rfl)
theorem F7{G:AV×List AObj×List AObj->Prop}(E:YO)(fs:List Fact)(ms:List Int)(n m:Int)(M:List (Str×Int))(ts:List Coef)(i j:Int)(h:if (decide (j<(↑(List.length ts):Int)))=true then(decide (0<=j)&&decide (Int.toNat j<List.length (List.map enc ts))&&Enc.sz Coef==2)=true∧(∃ y0:Coef,AV.pv (PV.rptr (PV.cells (List.getD (List.map enc ts) (Int.toNat j) default)))=AV.pv (PV.rptr (PV.cells ((enc) y0)))∧((Uw (Sh.co Sh.str (List.getD (PV.cells (enc y0)) 0 default)) (Zn M)&&Sh.fit (Sh.int .i64) (Yi (Sh.co Sh.str (List.getD (PV.cells (enc y0)) 0 default)) (PV.int .i64 0) (Zn M)))=true∧((a8w (Sh.co Sh.str (List.getD (PV.cells (enc y0)) 0 default)) (PV.int .i64 (IntKind.wrap IntKind.i64 (PV.asInt (Yi (Sh.co Sh.str (List.getD (PV.cells (enc y0)) 0 default)) (PV.int .i64 0) (Zn M))+IntKind.wrap IntKind.i64 (m*PV.asInt (List.getD (PV.cells (enc y0)) (0+1) default))))) (Zn M))=true∧(JX Y1 E 0 (Zr 0 Yt G) Yr 1 87 [(1,(.pv (.sl 1 false (List.map enc ms)))),(7,(.pv (.int .i64 n))),(8,(.map 0)),(11,(.pv (.int .i64 m))),(14,.undef),(15,.undef),(22,(.pv (.sl 3 false (List.map enc fs)))),(23,(.pv (.int .i64 (↑(List.length fs):Int)))),(24,(.pv (.int .i64 i))),(57,(.pv (.sl 2 false (List.map enc ts)))),(58,(.pv (.int .i64 (↑(List.length ts):Int)))),(59,(.pv (.int .i64 (IntKind.wrap IntKind.i64 (j+1))))),(74,.undef),(75,.undef),(76,.undef),(77,.undef),(78,.undef),(79,.undef),(80,.undef),(81,.undef),(82,.undef),(83,.undef),(84,.undef)] [(.obj (.map (Ty (Sh.co Sh.str (List.getD (PV.cells (enc y0)) 0 default)) (PV.int .i64 (IntKind.wrap IntKind.i64 (PV.asInt (Yi (Sh.co Sh.str (List.getD (PV.cells (enc y0)) 0 default)) (PV.int .i64 0) (Zn M))+IntKind.wrap IntKind.i64 (m*PV.asInt (List.getD (PV.cells (enc y0)) (0+1) default))))) (Zn M))))]))))else(JX Y1 E 0 (Zr 0 Yt G) Yr 0 87 [(1,(.pv (.sl 1 false (List.map enc ms)))),(7,(.pv (.int .i64 n))),(8,(.map 0)),(14,.undef),(15,.undef),(22,(.pv (.sl 3 false (List.map enc fs)))),(23,(.pv (.int .i64 (↑(List.length fs):Int)))),(24,(.pv (.int .i64 (IntKind.wrap IntKind.i64 (i+1))))),(74,.undef),(75,.undef),(76,.undef),(77,.undef),(78,.undef),(79,.undef),(80,.undef),(81,.undef),(82,.undef),(83,.undef),(84,.undef)] [(.obj (.map (Zn M)))])):JX Y1 E 0 (Zr 0 Yt G) Yr 1 87 [(1,.pv (enc ms)),(7,.pv (.int .i64 n)),(8,.map 0),(11,.pv (.int .i64 m)),(14,.undef),(15,.undef),(22,.pv (enc fs)),(23,.pv (.int .i64 fs.length)),(24,.pv (.int .i64 i)),(57,.pv (enc ts)),(58,.pv (.int .i64 ts.length)),(59,.pv (.int .i64 j)),(74,.undef),(75,.undef),(76,.undef),(77,.undef),(78,.undef),(79,.undef),(80,.undef),(81,.undef),(82,.undef),(83,.undef),(84,.undef)] [.obj (.map (Zn M))]:=Z6.mo (.lit (.ask (.req (.abs (Coef) (fun YY=>AV.pv (PV.rptr (PV.cells ((enc) YY)))) (.lit (.req (.keep (.lit (.lit (.req (.lit (.nil)))))))))) (.lit (.nil)))) h (by kernel_rfl)
theorem b3o{G:AV×List AObj×List AObj->Prop}(E:YO)(fs:List Fact)(ms:List Int)(n:Int)(M:List (Str×Int))(h:G (((.tup [(.pv (.int .i64 n)),(.map 0),(.pv (.bool true))]),([],[(.map (Zn M))])))):AfX Y1 E 0 (Zr 0 Yt G) Yr 0 .normal ⟨XG 87 0 [(7,.pv (.int .i64 n)),(8,.map 0)],[.obj (.map (Zn M))]⟩:=Z6.mo (.nil) h (by kernel_rfl)
end Go.Pl

namespace Go.Pl
open Go.RowKit
open Enc (enc dec is)
open EncL (encL decL isL)
def QV(s:Int×List (Str×Int))(l:List (Int×Fact)):AV×List AObj×List AObj:=if l.all okQ then Ov (l.foldl WL s)else UN
def Vp:YO:=fun nn st q=>nn=0∧b8v ⟨8,74,14,15⟩ st q
abbrev u87:List (Nat×AV):=[(74,.undef),(75,.undef),(76,.undef),(77,.undef),(78,.undef),(79,.undef),(80,.undef),(81,.undef),(82,.undef),(83,.undef),(84,.undef)]
theorem b2o(fs:List Fact)(ms:List Int)(i:Nat)(n m:Int)(ts:List Coef)(H:AV×List AObj×List AObj->Prop)(hts:ts.length<=9223372036854775807)(hi:i<9223372036854775807): ∀ (k j:Nat) (M:List (Str×Int)),k+j=ts.length ->
  JX Y1 Vp 0 (Zr 0 Yt H) Yr 0 87 ([(1,.pv (enc ms)),(7,.pv (.int .i64 n)),(8,.map 0),(14,.undef),(15,.undef),(22,.pv (enc fs)),(23,.pv (.int .i64 fs.length)),(24,.pv (.int .i64 ((i+1:Nat):Int)))]++u87) [.obj (.map (Zn (YK m (ts.drop j) M)))] ->
  JX Y1 Vp 0 (Zr 0 Yt H) Yr 1 87 ([(1,.pv (enc ms)),(7,.pv (.int .i64 n)),(8,.map 0),(11,.pv (.int .i64 m)),(14,.undef),(15,.undef),(22,.pv (enc fs)),(23,.pv (.int .i64 fs.length)),(24,.pv (.int .i64 i)),(57,.pv (enc ts)),(58,.pv (.int .i64 ts.length)),(59,.pv (.int .i64 j))]++u87) [.obj (.map (Zn M))]:=by
 intro k
 induction k with
 | zero=>
  intro j M hj h
  refine F7 Vp fs ms n m M ts i j (Yc (X4 (by omega)) ?_)
  rw[List.drop_of_length_le (show ts.length<=j by omega)]at h
  rw[next hi]
  exact h
 | succ k ih=>
  intro j M hj h
  have hlt:j<ts.length:=by omega
  refine F7 Vp fs ms n m M ts i j (Z8 (Xm hlt) ⟨ZN hlt rfl,Yf hlt ?_⟩)
  rw[List.drop_eq_getElem_cons hlt,YK]at h
  have ec:Sh.co Sh.str (List.getD (PV.cells (enc ts[j])) 0 default) = .str ts[j].v.s:=rfl
  rw[ec,VC]
  have ev:PV.asInt (List.getD (PV.cells (enc ts[j])) (0+1) default)=ts[j].c:=rfl
  have ea:PV.asInt (.int .i64 (Ws M ts[j].v.s))=Ws M ts[j].v.s:=rfl
  rw[ev,ea]
  have eu:=TC ts[j].v (IntKind.i64.wrap (Ws M ts[j].v.s+IntKind.i64.wrap (m*ts[j].c))) M
  refine⟨by rw[WT];rfl,(congrArg Option.isSome eu).trans rfl,?_⟩
  have e2:Ty (.str ts[j].v.s) (.int .i64 (IntKind.i64.wrap (Ws M ts[j].v.s+IntKind.i64.wrap (m*ts[j].c)))) (Zn M)=Zn (VH ts[j].v (IntKind.i64.wrap (Ws M ts[j].v.s+IntKind.i64.wrap (m*ts[j].c))) M):=by
   unfold Ty
   rw[eu]
   rfl
  rw[e2,next (by omega)]
  exact ih (j+1) _ (by omega) h
theorem EQ(n:Int):(DelParts.sc ⟨8,74,14,15⟩).foldl (fun(e:List AV) i=>e.set i .junk) (XG 87 0 ([(7,.pv (.int .i64 n)),(8,.map 0),(14,.undef),(15,.undef)]++u87))=XG 87 0 [(7,.pv (.int .i64 n)),(8,.map 0)]:=by kernel_rfl
theorem a9f(n:Int):decide (85<=(XG 87 0 ([(7,.pv (.int .i64 n)),(8,.map 0),(14,.undef),(15,.undef)]++u87)).length)=true:=by kernel_rfl
theorem EA(n:Int):(XG 87 0 ([(7,.pv (.int .i64 n)),(8,.map 0),(14,.undef),(15,.undef)]++u87))[8]? = some (.map 0):=by kernel_rfl
theorem Ec(fs:List Fact)(ms:List Int)(hn:ms.length=fs.length)(hl:fs.length<=9223372036854775807)(hk:fs.all (fun f=>Zy f.l)=true): ∀ (k i:Nat) (n:Int) (M:List (Str×Int)),k+i=fs.length->(ZF M).Nodup ->
  JX Y1 Vp 0 (Zr 0 Yt fun r=>r=QV (n,M) ((ms.zip fs).drop i)) Yr 0 87 ([(1,.pv (enc ms)),(7,.pv (.int .i64 n)),(8,.map 0),(14,.undef),(15,.undef),(22,.pv (enc fs)),(23,.pv (.int .i64 fs.length)),(24,.pv (.int .i64 i))]++u87) [.obj (.map (Zn M))]:=by
 intro k
 induction k with
 | zero=>
  intro i n M hi hM
  refine Fz Vp fs ms n M i (Yc (X4 (by omega)) ⟨rfl,0,Zn M,EA n,of_decide_eq_true (a9f n),rfl,?_,Ex hM,?_⟩)
  ·intro kv hkv
   obtain⟨p,_,rfl⟩:=List.mem_map.1 hkv
   exact⟨_,_,rfl⟩
  ·have e:(ms.zip fs).drop i=[]:=List.drop_of_length_le (by simp;omega)
   rw[e,b3j]
   have h:=b3o (G:=fun r=>r=QV (n,M) []) Vp fs ms n (Uf M) rfl
   rw[<- EQ n]at h
   exact h
 | succ k ih=>
  intro i n M hi hM
  have hlt:i<fs.length:=by omega
  have hlm:i<ms.length:=by omega
  have hz:(ms.zip fs).drop i=(ms[i],fs[i])::(ms.zip fs).drop (i+1):=by
   rw[List.drop_eq_getElem_cons (by simp;omega)]
   simp
  have hok:Zy fs[i].l=true:=by rw[List.all_eq_true]at hk;exact hk _ (List.getElem_mem hlt)
  have hsub:Zy fs[i].l=true:=hok
  have hlen:fs[i].l.t.length<=9223372036854775807:=by simpa [Zy]using hsub
  refine Fz Vp fs ms n M i (Z8 (Xm hlt) ⟨ZN hlt rfl,Yf hlt ⟨ZN hlm rfl,Yf hlm ?_⟩⟩)
  rw[hz]
  have hgo:okQ (ms[i],fs[i])=true->JX Y1 Vp 0 (Zr 0 Yt fun r=>r=QV (n,M) ((ms[i],fs[i])::(ms.zip fs).drop (i+1))) Yr 1 87 ([(1,.pv (enc ms)),(7,.pv (.int .i64 (Ym (n+Ym (ms[i]*fs[i].l.k))))),(8,.map 0),(11,.pv (.int .i64 ms[i])),(14,.undef),(15,.undef),(22,.pv (enc fs)),(23,.pv (.int .i64 fs.length)),(24,.pv (.int .i64 i)),(57,.pv (enc fs[i].l.t)),(58,.pv (.int .i64 fs[i].l.t.length)),(59,.pv (.int .i64 ((0:Nat):Int)))]++u87) [.obj (.map (Zn M))]:=by
   intro hq
   have e:QV (n,M) ((ms[i],fs[i])::(ms.zip fs).drop (i+1))=QV (WL (n,M) (ms[i],fs[i])) ((ms.zip fs).drop (i+1)):=by
    simp only[QV,List.all_cons,hq,Bool.true_and,List.foldl_cons]
   rw[e]
   exact b2o fs ms i _ ms[i] fs[i].l.t _ hlen (by omega) fs[i].l.t.length 0 M (by omega) (ih (i+1) _ _ (by omega) (KF _ _ _ hM))
  have hno:okQ (ms[i],fs[i])=false->UN=QV (n,M) ((ms[i],fs[i])::(ms.zip fs).drop (i+1)):=by
   intro hq
   simp only[QV,List.all_cons,hq,Bool.false_and]
   rfl
  have et:List.length (List.map (enc:Coef->PV) fs[i].l.t)=fs[i].l.t.length:=by simp
  refine Yv (fun h1=>hno ?_) fun h1=>Yv (fun h2=>hno ?_) fun h2=>Yv (fun h3=>Y4 (fun h4=>hno ?_) fun h4=> ?_) fun h3=> ?_
  ·have h1:ms[i] < -1000000000:=h1
   simp[okQ,h1]
  ·have h2:ms[i]>1000000000:=h2
   simp[okQ,h2]
  ·have h3:ms[i]<0:=h3
   have h4:fs[i].eq=false:=h4
   simp[okQ,h3,h4]
  ·have h1 : ¬ ms[i] < -1000000000:=h1
   have h2 : ¬ ms[i]>1000000000:=h2
   have h4:fs[i].eq=true:=h4
   have:=hgo (by simp only[okQ,decide_eq_false h1,decide_eq_false h2,h4,Bool.or_true];rfl)
   rw[<- et]at this
   exact this
  ·have h1 : ¬ ms[i] < -1000000000:=h1
   have h2 : ¬ ms[i]>1000000000:=h2
   have h3 : ¬ ms[i]<0:=h3
   have:=hgo (by simp only[okQ,decide_eq_false h1,decide_eq_false h2,decide_eq_false h3];rfl)
   rw[<- et]at this
   exact this
def Gr(fs:List Fact)(ms:List Int):AV×List AObj×List AObj:=if ms.length=fs.length then QV (0,[]) (ms.zip fs)else UN
theorem Nq(fs:List Fact)(ms:List Int)(hl:fs.length<=9223372036854775807)(hk:fs.all (fun f=>Zy f.l)=true):UZ Y1 Vp 0 (Zr 0 Yt fun r=>r=Gr fs ms) Yr [] (Uh 87 [.pv (enc fs),.pv (enc ms)] []):=by
 refine b5w Vp fs ms ?_
 simp only[List.length_map]
 by_cases h:ms.length=fs.length
 ·refine Yc (by simp[h]) ?_
  have e:Gr fs ms=QV (0,[]) ((ms.zip fs).drop 0):=by simp[Gr,h]
  rw[e]
  exact Ec fs ms h hl hk fs.length 0 0 [] (by omega) (by simp[ZF])
 ·refine Z8 (by simp;omega) ?_
  simp[Gr,h,UN]
end Go.Pl

namespace Go.Pl
open Go.RowKit
open Enc (enc dec is)
open EncL (encL decL isL)
set_option maxRecDepth 100000
def GL:IC:=(.seq (.reg [⟨(some 4),(.alloc (.agg [(.int .i64 0),(.sl 0 true [])])),0,none⟩,⟨(some 5),(.mv (.c (.int .i64 0))),1,none⟩] none) (.seq (.seq (.reg [⟨(some 18),(.mv (.t 0)),0,none⟩,⟨(some 19),(.call (.c (.fn 95)) [(.t 18)]),0,none⟩,⟨(some 20),(.un .not (.t 19)),2,none⟩] none) (.cond (.t 20) (.seq (.reg [⟨(some 21),(.build [(.int .i64 0),(.sl 0 true [])] []),0,none⟩,⟨none,(.store 2 (.t 4) (.t 21)),0,none⟩,⟨(some 5),(.mv (.c (.int .i64 1))),0,none⟩] none) .ret) .skip)) (.seq (.reg [⟨(some 23),(.mv (.t 0)),0,none⟩,⟨(some 24),(.mv (.t 1)),0,none⟩,⟨(some 25),(.call (.c (.fn 158)) [(.t 23),(.t 24)]),0,none⟩,⟨(some 22),(.mv (.t 25)),2,none⟩,⟨(some 26),(.extract (.t 22) 0),2,none⟩,⟨(some 27),(.extract (.t 22) 1),2,none⟩,⟨(some 28),(.extract (.t 22) 2),2,none⟩,⟨(some 6),(.mv (.t 26)),2,none⟩,⟨(some 7),(.mv (.t 27)),2,none⟩,⟨(some 8),(.mv (.t 28)),2,none⟩] none) (.seq (.seq (.reg [⟨(some 29),(.mv (.t 8)),0,none⟩,⟨(some 30),(.un .not (.t 29)),0,none⟩,⟨(some 31),(.mv (.t 30)),0,none⟩,⟨(some 32),(.mv (.t 7)),0,(some (31,false))⟩,⟨(some 33),(.len 2 (.t 32)),0,(some (31,false))⟩,⟨(some 34),(.bin .num .eql (.t 33) (.c (.int .i64 0))),0,(some (31,false))⟩,⟨(some 35),(.pick (.t 31) (.c (.bool true)) (.t 34)),0,none⟩] none) (.cond (.t 35) (.seq (.reg [⟨(some 36),(.build [(.int .i64 0),(.sl 0 true [])] []),0,none⟩,⟨none,(.store 2 (.t 4) (.t 36)),0,none⟩,⟨(some 5),(.mv (.c (.int .i64 18))),0,none⟩] none) .ret) .skip)) (.seq (.reg [⟨(some 9),(.mv (.c (.sl 0 true []))),0,none⟩] none) (.seq (.reg [⟨(some 10),(.mv (.c (.sl 0 true []))),0,none⟩] none) (.seq (.ext 0 [7,37,38,39,40,41,42,43,9,11,45,44,46,10,12,49,48,50,47,51,4,6]) (.seq (.reg [⟨(some 53),(.mv (.t 10)),0,none⟩,⟨(some 54),(.call (.c (.fn 159)) [(.t 53)]),0,none⟩,⟨(some 52),(.mv (.t 54)),2,none⟩,⟨(some 55),(.extract (.t 52) 0),2,none⟩,⟨(some 56),(.extract (.t 52) 1),2,none⟩,⟨(some 13),(.mv (.t 55)),2,none⟩,⟨(some 14),(.mv (.t 56)),2,none⟩] none) (.seq (.seq (.reg [⟨(some 57),(.mv (.t 14)),0,none⟩,⟨(some 58),(.bin .num .neq (.t 57) (.c (.int .i64 0))),0,none⟩] none) (.cond (.t 58) (.seq (.reg [⟨(some 59),(.build [(.int .i64 0),(.sl 0 true [])] []),0,none⟩,⟨none,(.store 2 (.t 4) (.t 59)),0,none⟩,⟨(some 5),(.mv (.c (.int .i64 3))),0,none⟩] none) .ret) .skip)) (.seq (.reg [⟨(some 15),(.alloc (.agg [(.int .i64 0),(.sl 0 true [])])),0,none⟩] none) (.seq (.reg [⟨(some 61),(.mv (.t 6)),0,none⟩,⟨(some 62),(.mv (.t 13)),0,none⟩,⟨(some 63),(.call (.c (.fn 160)) [(.t 61),(.t 62)]),0,none⟩,⟨(some 60),(.mv (.t 63)),2,none⟩,⟨(some 64),(.extract (.t 60) 0),2,none⟩,⟨(some 65),(.extract (.t 60) 1),2,none⟩,⟨(some 66),(.faddr 0 (.t 15)),2,none⟩,⟨none,(.store 1 (.t 66) (.t 64)),2,none⟩] none) (.seq (.reg [⟨(some 67),(.mv (.t 9)),0,none⟩,⟨(some 68),(.call (.c (.fn 154)) [(.t 67)]),0,none⟩] none) (.seq (.seq (.reg [⟨(some 69),(.mv (.t 9)),0,none⟩,⟨(some 70),(.len 1 (.t 69)),0,none⟩,⟨(some 71),(.mv (.c (.int .i64 0))),0,none⟩] none) (.block 2 (.loop [71,70,69,15,7,13,4] (.seq (.reg [⟨(some 72),(.bin .num .lss (.t 71) (.t 70)),0,none⟩] none) (.seq (.cond (.t 72) .skip (.exit 2)) (.seq (.block 3 (.seq (.reg [⟨(some 73),(.iaddr 1 (.t 69) (.t 71)),0,none⟩,⟨(some 74),(.load false [.str] (.t 73)),0,none⟩,⟨(some 17),(.mv (.t 74)),0,none⟩] none) (.reg [⟨(some 75),(.faddr 1 (.t 15)),0,none⟩,⟨(some 76),(.load false [(.sl 2)] (.t 75)),0,none⟩,⟨(some 77),(.mv (.t 17)),0,none⟩,⟨(some 78),(.mv (.t 7)),0,none⟩,⟨(some 79),(.mv (.t 17)),0,none⟩,⟨(some 80),(.lookup true (.int .i64) (.int .i64 0) false (.t 78) (.t 79)),0,none⟩,⟨(some 81),(.mv (.t 13)),0,none⟩,⟨(some 82),(.bin .num .quo (.t 80) (.t 81)),0,none⟩,⟨(some 83),(.build [(.str []),(.int .i64 0)] [(0,(1,(.t 77))),(1,(1,(.t 82)))]),0,none⟩,⟨(some 84),(.bslice 61 2 1 (.agg [(.str []),(.int .i64 0)]) [(0,(.t 83))]),0,none⟩,⟨(some 85),(.append 61 2 24 (.t 76) (.t 84)),1,none⟩,⟨(some 86),(.faddr 1 (.t 15)),2,none⟩,⟨none,(.store 1 (.t 86) (.t 85)),2,none⟩] (some [[],[0],[],[],[],[3,4],[],[5,6,3,4],[2,7,5,6,3,4],[8,2,7,5,6,3,4],[1,9,0,8,2,7,5,6,3,4],[0,1,2,3,4,5,6,7,8,9,10],[11,10,0,1,2,3,4,5,6,7,8,9]])))) (.reg [⟨(some 87),(.bin .num .add (.t 71) (.c (.int .i64 1))),0,none⟩,⟨(some 71),(.mv (.t 87)),0,none⟩] none))))))) (.seq (.seq (.reg [⟨(some 88),(.load true [(.int .i64),(.sl 2)] (.t 15)),0,none⟩,⟨(some 89),(.call (.c (.fn 73)) [(.t 88)]),0,none⟩,⟨(some 90),(.un .not (.t 89)),2,none⟩] none) (.cond (.t 90) (.seq (.reg [⟨(some 91),(.build [(.int .i64 0),(.sl 0 true [])] []),0,none⟩,⟨none,(.store 2 (.t 4) (.t 91)),0,none⟩,⟨(some 5),(.mv (.c (.int .i64 3))),0,none⟩] none) .ret) .skip)) (.seq (.reg [⟨(some 92),(.load true [(.int .i64),(.sl 2)] (.t 15)),0,none⟩,⟨none,(.store 2 (.t 4) (.t 92)),0,none⟩,⟨(some 5),(.mv (.c (.int .i64 0))),0,none⟩] none) .ret)))))))))))))))
def Tk:List IRes:=[(.cell true 2 4),(.tmp 5)]
def Ta:ZH:=XI [(95,.pure (preT (fun x:List Fact×Unit=>Zi x.1)) (Zf (fun x:List Fact×Unit=>Zq x.1))),(158,.own XV Vy)]
theorem b8i{G:PV->Prop}(E:YO)(fs:List Fact)(ms:List Int)(h:(Go.Pl.preT (fun(x:List Fact×Unit)=>Zi x.1) [(.sl 3 false (List.map enc fs))])=true∧(∃ y0:Bool,AV.pv (Zf (fun(x:List Fact×Unit)=>Zq x.1) [(.sl 3 false (List.map enc fs))])=AV.pv (enc y0)∧(if (!y0)=true then G ((.tup [(.agg [(.int .i64 0),(.sl 0 true [])]),(.int .i64 1)]))else((XV [(.pv (.sl 3 false (List.map enc fs))),(.pv (.sl 1 false (List.map enc ms)))] [])=true∧(G ((.tup [(.agg [(.int .i64 0),(.sl 0 true [])]),(.int .i64 18)]))))))):Z6 Ta E 0 (Za Tk G) (.inl GL) [] (Z9 93 [enc fs,enc ms]):=Z6.mp (.req (.abs (Bool) (fun YY=>AV.pv (enc YY)) (.ask (.nil) (.req (.keep (.lit (.lit (.lit (.lit (.lit (.nil))))))))))) h (by kernel_rfl)
def UU:IC:=(.reg [⟨(some 44),(.mv (.t 9)),0,none⟩,⟨(some 45),(.mv (.t 11)),0,none⟩,⟨(some 46),(.bslice 9 1 1 (.str []) [(0,(.t 45))]),0,none⟩,⟨(some 47),(.append 9 1 16 (.t 44) (.t 46)),1,none⟩,⟨(some 48),(.mv (.t 10)),2,none⟩,⟨(some 49),(.mv (.t 12)),2,none⟩,⟨(some 50),(.bslice 3 1 1 (.int .i64 0) [(0,(.t 49))]),2,none⟩,⟨(some 51),(.append 3 1 8 (.t 48) (.t 50)),3,none⟩,⟨(some 9),(.mv (.t 47)),4,none⟩,⟨(some 10),(.mv (.t 51)),4,none⟩] none)
def QE:List IRes:=[]
def JQ:ZH:=XI [(95,.pure (preT (fun x:List Fact×Unit=>Zi x.1)) (Zf (fun x:List Fact×Unit=>Zq x.1))),(158,.own Xj WO),(159,.pure (preT (fun x:List Int×Unit=>decide (x.1.length<=10000)&&x.1.all WJ)) (Zf (fun x:List Int×Unit=>KE x.1))),(160,.pure (preT (fun _:Int×Int×Unit=>true)) (Zf (fun x:Int×Int×Unit=>Kw x.1 x.2.1))),(154,.own YW Wt),(73,.pure (preT (fun x:Lin×Unit=>Zx x.1)) (Zf (fun x:Lin×Unit=>Zj x.1)))]
theorem a9m{G:AV×List AObj×List AObj->Prop}(E:YO)(n:Int)(s:List UInt8)(c:Int)(h:E 99 ⟨XG 93 0 [(4,(.ptr 0 0)),(6,(.pv (.int .i64 n))),(7,(.map 1)),(9,(.row 3 1 0 1)),(10,(.row 4 1 0 1)),(37,(.map 1)),(38,(.ptr 2 0))],[(.obj (.box [(.pv (.int .i64 0)),(.pv (.sl 0 true []))])),.dead,.dead,(.obj (.row false 9 1 [(.str s)])),(.obj (.row false 3 1 [(.int .i64 c)]))]⟩ (fun x S'=>AfX JQ E 3 (Zr 3 QE G) UU 99 x S')):Z6 JQ E 3 (Zr 3 QE G) (.inl UU) [.blk 1,.seq (.ext 99 [4,6,7,9,10,37,38])] ⟨XG 93 0 [(4,.ptr 0 0),(6,.pv (.int .i64 n)),(7,.map 1),(9,.pv (.sl 0 true [])),(10,.pv (.sl 0 true [])),(11,.pv (.str s)),(12,.pv (.int .i64 c)),(37,.map 1),(38,.ptr 2 0),(41,.pv (.tup [.str s,.int .i64 c])),(42,.pv (.str s)),(43,.pv (.int .i64 c))],[.obj (.box [.pv (.int .i64 0),.pv (.sl 0 true [])]),.dead,.dead]⟩:=Z6.mo (.lit (.lit (.lit (.lit (.lit (.lit (.lit (.lit (.lit (.lit (.nil))))))))))) h (by kernel_rfl)
theorem a3i{G:AV×List AObj×List AObj->Prop}(E:YO)(n:Int)(s:List UInt8)(c:Int)(l:Nat)(xs:List (List UInt8))(ys:List Int)(h:(List.length (List.map PV.str xs)==l&&l==l&&decide ((l+List.length (List.drop 0 (List.take 1 [PV.str s])))*16<=1099511627776)&&decide (l+List.length (List.drop 0 (List.take 1 [PV.str s]))<=1099511627776))=true∧((List.length (List.map enc ys)==l&&l==l&&decide ((l+List.length (List.drop 0 (List.take 1 [PV.int .i64 c])))*8<=1099511627776)&&decide (l+List.length (List.drop 0 (List.take 1 [PV.int .i64 c]))<=1099511627776))=true∧(E 99 ⟨XG 93 0 [(4,(.ptr 0 0)),(6,(.pv (.int .i64 n))),(7,(.map 1)),(9,(.row 3 (l+List.length (List.drop 0 (List.take 1 [PV.str s]))) 0 (l+List.length (List.drop 0 (List.take 1 [PV.str s]))))),(10,(.row 4 (l+List.length (List.drop 0 (List.take 1 [PV.int .i64 c]))) 0 (l+List.length (List.drop 0 (List.take 1 [PV.int .i64 c]))))),(37,(.map 1)),(38,(.ptr 2 0))],[(.obj (.box [(.pv (.int .i64 0)),(.pv (.sl 0 true []))])),.dead,.dead,(.obj (.row false 9 1 (List.map PV.str xs++List.drop 0 (List.take 1 [PV.str s])))),(.obj (.row false 3 1 (List.map enc ys++List.drop 0 (List.take 1 [PV.int .i64 c]))))]⟩ (fun x S'=>AfX JQ E 5 (Zr 5 QE G) UU 99 x S')))):Z6 JQ E 5 (Zr 5 QE G) (.inl UU) [.blk 1,.seq (.ext 99 [4,6,7,9,10,37,38])] ⟨XG 93 0 [(4,.ptr 0 0),(6,.pv (.int .i64 n)),(7,.map 1),(9,.row 3 l 0 l),(10,.row 4 l 0 l),(11,.pv (.str s)),(12,.pv (.int .i64 c)),(37,.map 1),(38,.ptr 2 0),(41,.pv (.tup [.str s,.int .i64 c])),(42,.pv (.str s)),(43,.pv (.int .i64 c))],[.obj (.box [.pv (.int .i64 0),.pv (.sl 0 true [])]),.dead,.dead,.obj (.row false 9 1 (xs.map .str)),.obj (.row false 3 1 (ys.map enc))]⟩:=Z6.mo (.lit (.lit (.req (.lit (.lit (.req (.nil))))))) h (by kernel_rfl)
def XJ:IC:=GL
def Wj:List IRes:=[(.cell true 2 4),(.tmp 5)]
def Xl:ZH:=XI [(95,.pure (preT (fun x:List Fact×Unit=>Zi x.1)) (Zf (fun x:List Fact×Unit=>Zq x.1))),(158,.own Xj WO),(159,.pure (preT (fun x:List Int×Unit=>decide (x.1.length<=10000)&&x.1.all WJ)) (Zf (fun x:List Int×Unit=>KE x.1))),(160,.pure (preT (fun _:Int×Int×Unit=>true)) (Zf (fun x:Int×Int×Unit=>Kw x.1 x.2.1))),(154,.own YW Wt),(73,.pure (preT (fun x:Lin×Unit=>Zx x.1)) (Zf (fun x:Lin×Unit=>Zj x.1)))]
theorem b5x{G:PV->Prop}(E:YO)(fs:List Fact)(ms:List Int)(h:(Go.Pl.preT (fun(x:List Fact×Unit)=>Zi x.1) [(.sl 3 false (List.map enc fs))])=true∧(∃ y0:Bool,AV.pv (Zf (fun(x:List Fact×Unit)=>Zq x.1) [(.sl 3 false (List.map enc fs))])=AV.pv (enc y0)∧(if (!y0)=true then G ((.tup [(.agg [(.int .i64 0),(.sl 0 true [])]),(.int .i64 1)]))else((Xj [(.pv (.sl 3 false (List.map enc fs))),(.pv (.sl 1 false (List.map enc ms)))] [])=true∧(if ((↑(List.length (Zn (Uf (Prod.snd (UD (enc fs) (enc ms)))))):Int)==0)=true then G ((.tup [(.agg [(.int .i64 0),(.sl 0 true [])]),(.int .i64 18)]))else(E 0 ⟨XG 93 0 [(4,(.ptr 0 0)),(6,(.pv (.int .i64 (Prod.fst (UD (enc fs) (enc ms)))))),(7,(.map 1)),(9,(.pv (.sl 0 true []))),(10,(.pv (.sl 0 true []))),(11,.undef),(12,.undef),(37,.undef),(38,.undef),(39,.undef),(40,.undef),(41,.undef),(42,.undef),(43,.undef),(44,.undef),(45,.undef),(46,.undef),(47,.undef),(48,.undef),(49,.undef),(50,.undef),(51,.undef)],[(.obj (.box [(.pv (.int .i64 0)),(.pv (.sl 0 true []))])),(.obj (.map (Zn (Uf (Prod.snd (UD (enc fs) (enc ms)))))))]⟩ (fun x S'=>AfX Xl E 0 (Za Wj G) XJ 0 x S'))))))):Z6 Xl E 0 (Za Wj G) (.inl XJ) [] (Z9 93 [enc fs,enc ms]):=Z6.mp (.req (.abs (Bool) (fun YY=>AV.pv (enc YY)) (.ask (.nil) (.req (.keep (.lit (.lit (.lit (.lit (.lit (.ask (.nil) (.nil)))))))))))) h (by kernel_rfl)
theorem a5v{G:PV->Prop}(E:YO)(fs:List Fact)(ms:List Int)(g k:Int)(m:List (Str×Int))(l:Nat)(xs:List (List UInt8))(i:Int)(h:if (decide (i<(↑l:Int)))=true then(decide (0<=i)&&decide (0+Int.toNat i<l)&&List.length (List.map PV.str xs)==l)=true∧((List.length (List.map PV.str xs)==l&&decide (0+Int.toNat i<List.length (List.map PV.str xs)))=true∧((decide (0+List.length [Sh.str]<=List.length (PV.cells (List.getD (List.map PV.str xs) (0+Int.toNat i) default)))&&Yk (PV.cells (List.getD (List.map PV.str xs) (0+Int.toNat i) default)) 0 [Sh.str])=true∧((Uw (Sh.co Sh.str (List.getD (PV.cells (List.getD (List.map PV.str xs) (0+Int.toNat i) default)) 0 default)) (Zn m)&&Sh.fit (Sh.int .i64) (Yi (Sh.co Sh.str (List.getD (PV.cells (List.getD (List.map PV.str xs) (0+Int.toNat i) default)) 0 default)) (PV.int .i64 0) (Zn m)))=true∧((g != 0)=true∧(JX Xl E 0 (Za Wj G) XJ 0 93 [(4,(.ptr 0 0)),(7,(.map 1)),(13,(.pv (.int .i64 g))),(15,(.ptr 2 0)),(69,(.row 3 l 0 l)),(70,(.pv (.int .i64 (↑l:Int)))),(71,(.pv (.int .i64 (IntKind.wrap IntKind.i64 (i+1)))))] [(.obj (.box [(.pv (.int .i64 0)),(.pv (.sl 0 true []))])),(.obj (.map (Zn m))),(.obj (.box [(.pv (.int .i64 k)),(.row 4 1 0 1)])),(.obj (.row false 9 1 (List.map PV.str xs))),(.obj (.row false 61 2 [(.agg [(.str (PV.asStr (List.getD (PV.cells (List.getD (List.map PV.str xs) (0+Int.toNat i) default)) 0 default))),(.int .i64 (IntKind.wrap IntKind.i64 (Int.tdiv (PV.asInt (Yi (Sh.co Sh.str (List.getD (PV.cells (List.getD (List.map PV.str xs) (0+Int.toNat i) default)) 0 default)) (PV.int .i64 0) (Zn m))) g)))])]))])))))else(∃ y0:Bool,AV.pv (Zf (fun(x:Lin×Unit)=>Zj x.1) [(.agg [(.int .i64 k),(.sl 0 true [])])])=AV.pv (enc y0)∧(if (!y0)=true then G ((.tup [(.agg [(.int .i64 0),(.sl 0 true [])]),(.int .i64 3)]))else(G ((.tup [(.agg [(.int .i64 k),(.sl 0 true [])]),(.int .i64 0)])))))):JX Xl E 0 (Za Wj G) XJ 0 93 [(4,.ptr 0 0),(7,.map 1),(13,.pv (.int .i64 g)),(15,.ptr 2 0),(69,.row 3 l 0 l),(70,.pv (.int .i64 l)),(71,.pv (.int .i64 i))] [.obj (.box [.pv (.int .i64 0),.pv (.sl 0 true [])]),.obj (.map (Zn m)),.obj (.box [.pv (.int .i64 k),.pv (.sl 0 true [])]),.obj (.row false 9 1 (xs.map .str))]:=Z6.mp (.lit (.ask (.req (.keep (.req (.req (.req (.keep (.req (.lit (.lit (.lit (.lit (.lit (.lit (.nil)))))))))))))) (.lit (.abs (Bool) (fun YY=>AV.pv (enc YY)) (.ask (.nil) (.nil)))))) h (by kernel_rfl)
theorem Pe{G:PV->Prop}(E:YO)(fs:List Fact)(ms:List Int)(g k:Int)(m:List (Str×Int))(l:Nat)(xs:List (List UInt8))(i:Int)(q:Nat)(ts:List Coef)(h:if (decide (i<(↑l:Int)))=true then(decide (0<=i)&&decide (0+Int.toNat i<l)&&List.length (List.map PV.str xs)==l)=true∧((List.length (List.map PV.str xs)==l&&decide (0+Int.toNat i<List.length (List.map PV.str xs)))=true∧((decide (0+List.length [Sh.str]<=List.length (PV.cells (List.getD (List.map PV.str xs) (0+Int.toNat i) default)))&&Yk (PV.cells (List.getD (List.map PV.str xs) (0+Int.toNat i) default)) 0 [Sh.str])=true∧((Uw (Sh.co Sh.str (List.getD (PV.cells (List.getD (List.map PV.str xs) (0+Int.toNat i) default)) 0 default)) (Zn m)&&Sh.fit (Sh.int .i64) (Yi (Sh.co Sh.str (List.getD (PV.cells (List.getD (List.map PV.str xs) (0+Int.toNat i) default)) 0 default)) (PV.int .i64 0) (Zn m)))=true∧((g != 0)=true∧((List.length (List.map enc ts)==q&&q==q&&decide ((q+List.length (List.drop 0 (List.take 1 [PV.agg [Sh.co Sh.str (List.getD (PV.cells (List.getD (List.map PV.str xs) (0+Int.toNat i) default)) 0 default),PV.int .i64 (IntKind.wrap IntKind.i64 (Int.tdiv (PV.asInt (Yi (Sh.co Sh.str (List.getD (PV.cells (List.getD (List.map PV.str xs) (0+Int.toNat i) default)) 0 default)) (PV.int .i64 0) (Zn m))) g))]])))*24<=1099511627776)&&decide (q+List.length (List.drop 0 (List.take 1 [PV.agg [Sh.co Sh.str (List.getD (PV.cells (List.getD (List.map PV.str xs) (0+Int.toNat i) default)) 0 default),PV.int .i64 (IntKind.wrap IntKind.i64 (Int.tdiv (PV.asInt (Yi (Sh.co Sh.str (List.getD (PV.cells (List.getD (List.map PV.str xs) (0+Int.toNat i) default)) 0 default)) (PV.int .i64 0) (Zn m))) g))]]))<=1099511627776))=true∧(JX Xl E 0 (Za Wj G) XJ 0 93 [(4,(.ptr 0 0)),(7,(.map 1)),(13,(.pv (.int .i64 g))),(15,(.ptr 2 0)),(69,(.row 3 l 0 l)),(70,(.pv (.int .i64 (↑l:Int)))),(71,(.pv (.int .i64 (IntKind.wrap IntKind.i64 (i+1)))))] [(.obj (.box [(.pv (.int .i64 0)),(.pv (.sl 0 true []))])),(.obj (.map (Zn m))),(.obj (.box [(.pv (.int .i64 k)),(.row 4 (q+List.length (List.drop 0 (List.take 1 [PV.agg [Sh.co Sh.str (List.getD (PV.cells (List.getD (List.map PV.str xs) (0+Int.toNat i) default)) 0 default),PV.int .i64 (IntKind.wrap IntKind.i64 (Int.tdiv (PV.asInt (Yi (Sh.co Sh.str (List.getD (PV.cells (List.getD (List.map PV.str xs) (0+Int.toNat i) default)) 0 default)) (PV.int .i64 0) (Zn m))) g))]]))) 0 (q+List.length (List.drop 0 (List.take 1 [PV.agg [Sh.co Sh.str (List.getD (PV.cells (List.getD (List.map PV.str xs) (0+Int.toNat i) default)) 0 default),PV.int .i64 (IntKind.wrap IntKind.i64 (Int.tdiv (PV.asInt (Yi (Sh.co Sh.str (List.getD (PV.cells (List.getD (List.map PV.str xs) (0+Int.toNat i) default)) 0 default)) (PV.int .i64 0) (Zn m))) g))]]))))])),(.obj (.row false 9 1 (List.map PV.str xs))),(.obj (.row false 61 2 (List.map enc ts++List.drop 0 (List.take 1 [PV.agg [Sh.co Sh.str (List.getD (PV.cells (List.getD (List.map PV.str xs) (0+Int.toNat i) default)) 0 default),PV.int .i64 (IntKind.wrap IntKind.i64 (Int.tdiv (PV.asInt (Yi (Sh.co Sh.str (List.getD (PV.cells (List.getD (List.map PV.str xs) (0+Int.toNat i) default)) 0 default)) (PV.int .i64 0) (Zn m))) g))]]))))]))))))else((List.length (List.map enc ts)==q)=true∧((Go.Pl.preT (fun(x:Lin×Unit)=>Zx x.1) [(.agg [(.int .i64 k),(.sl 2 false (List.drop 0 (List.take q (List.map enc ts))))])])=true∧(∃ y0:Bool,AV.pv (Zf (fun(x:Lin×Unit)=>Zj x.1) [(.agg [(.int .i64 k),(.sl 2 false (List.drop 0 (List.take q (List.map enc ts))))])])=AV.pv (enc y0)∧(if (!y0)=true then G ((.tup [(.agg [(.int .i64 0),(.sl 0 true [])]),(.int .i64 3)]))else((List.length (List.map enc ts)==q)=true∧(G ((.tup [(.agg [(.int .i64 k),(.sl 2 false (List.drop 0 (List.take q (List.map enc ts))))]),(.int .i64 0)]))))))))):JX Xl E 0 (Za Wj G) XJ 0 93 [(4,.ptr 0 0),(7,.map 1),(13,.pv (.int .i64 g)),(15,.ptr 2 0),(69,.row 3 l 0 l),(70,.pv (.int .i64 l)),(71,.pv (.int .i64 i))] [.obj (.box [.pv (.int .i64 0),.pv (.sl 0 true [])]),.obj (.map (Zn m)),.obj (.box [.pv (.int .i64 k),.row 4 q 0 q]),.obj (.row false 9 1 (xs.map .str)),.obj (.row false 61 2 (ts.map enc))]:=Z6.mp (.lit (.ask (.req (.keep (.req (.req (.req (.keep (.req (.lit (.lit (.req (.lit (.nil)))))))))))) (.req (.req (.abs (Bool) (fun YY=>AV.pv (enc YY)) (.ask (.nil) (.req (.nil)))))))) h (by kernel_rfl)
theorem a8s{G:PV->Prop}(E:YO)(fs:List Fact)(ms:List Int)(n:Int)(m:List (Str×Int))(l:Nat)(xs:List (List UInt8))(ys:List Int)(h:(List.length (List.map enc ys)==l)=true∧((Go.Pl.preT (fun(x:List Int×Unit)=>decide (List.length x.1<=10000)&&List.all x.1 WJ) [(.sl 1 false (List.drop 0 (List.take l (List.map enc ys))))])=true∧(∃ y0:Int×Int,AV.pv (Zf (fun(x:List Int×Unit)=>KE x.1) [(.sl 1 false (List.drop 0 (List.take l (List.map enc ys))))])=AV.pv (enc y0)∧(if (y0.2 != 0)=true then G ((.tup [(.agg [(.int .i64 0),(.sl 0 true [])]),(.int .i64 3)]))else(∃ y1:Int×Int,AV.pv (Zf (fun(x:Int×Int×Unit)=>Kw x.1 x.2.1) [(.int .i64 n),(.int .i64 y0.1)])=AV.pv (enc y1)∧((YW [(.row 0 l 0 l)] [(.row false 9 1 (List.map PV.str xs))])=true∧(JX Xl E 0 (Za Wj G) XJ 0 93 [(4,(.ptr 0 0)),(7,(.map 1)),(13,(.pv (.int .i64 y0.1))),(15,(.ptr 2 0)),(69,(.row 3 l 0 l)),(70,(.pv (.int .i64 (↑(l - 0):Int)))),(71,(.pv (.int .i64 0)))] [(.obj (.box [(.pv (.int .i64 0)),(.pv (.sl 0 true []))])),(.obj (.map (Zn m))),(.obj (.box [(.pv (.int .i64 y1.1)),(.pv (.sl 0 true []))])),(.obj (.row false 9 1 (List.map PV.str (YV (List.map UX (List.map PV.str xs))))))]))))))):AfX Xl E 0 (Za Wj G) XJ 0 .normal ⟨XG 93 0 [(4,.ptr 0 0),(6,.pv (.int .i64 n)),(7,.map 1),(9,.row 3 l 0 l),(10,.row 4 l 0 l),(37,.map 1),(38,.ptr 2 0)],[.obj (.box [.pv (.int .i64 0),.pv (.sl 0 true [])]),.obj (.map (Zn m)),.dead,.obj (.row false 9 1 (xs.map .str)),.obj (.row false 3 1 (ys.map enc))]⟩:=Z6.mp (.req (.req (.abs (Int×Int) (fun YY=>AV.pv (enc YY)) (.lit (.ask (.nil) (.lit (.abs (Int×Int) (fun YY=>AV.pv (enc YY)) (.req (.keep (.nil)))))))))) h (by kernel_rfl)
end Go.Pl

namespace Go.Pl
open Go.RowKit
open Enc (enc dec is)
open EncL (encL decL isL)
def a5m:MapParts:=⟨[⟨(some 37),(.mv (.t 7)),0,none⟩],.t 37,38,39,40,41,1,[⟨(some 42),(.extract (.t 41) 0),0,none⟩,⟨(some 43),(.extract (.t 41) 1),0,none⟩,⟨(some 11),(.mv (.t 42)),0,none⟩,⟨(some 12),(.mv (.t 43)),0,none⟩],UU⟩
def CR:YO:=fun nn st q=>nn=0∧b6j Xl 0 a5m st q
def kS(vis:List (PV×PV)):List (List UInt8):=vis.map fun p=>UX p.1
def kI(vis:List (PV×PV)):List Int:=vis.map fun p=>p.2.asInt
def b5b:ZB:=[.obj (.box [.pv (.int .i64 0),.pv (.sl 0 true [])]),.dead,.dead]
def SC(n:Int)(x y:AV):List AV:=XG 93 0 [(4,.ptr 0 0),(6,.pv (.int .i64 n)),(7,.map 1),(9,x),(10,y),(37,.map 1),(38,.ptr 2 0)]
def b8e(n:Int)(vis:List (PV×PV))(s:St):Prop:=
 (vis=[]∧s=⟨SC n (.pv (.sl 0 true [])) (.pv (.sl 0 true [])),b5b⟩)∨(vis≠[]∧s=⟨SC n (.row 3 vis.length 0 vis.length) (.row 4 vis.length 0 vis.length),b5b++[.obj (.row false 9 1 ((kS vis).map .str)),.obj (.row false 3 1 ((kI vis).map enc))]⟩)
theorem a9a:JQ=Xl:=rfl
theorem EH(n:Int)(vis:List (PV×PV))(s:List UInt8)(c:Int)(st:St)(hl:vis.length<1000000)(h:b8e n vis st):
  ∃ s2,UY Xl st.heap.length a5m.psE (grow ⟨((st.env.set 39 .junk).set 40 .junk).set 41 (.pv (.tup [.str s,.int .i64 c])),st.heap⟩ (news a5m.psE))=some s2∧ ∃ F',(∀ x,¬ F' x) ∧
   Z6 Xl (fun n' S' _=>n'=99∧b8e n (vis++[(.str s,.int .i64 c)]) S') st.heap.length F' (.inl UU) [.blk 1,.seq (.ext 99 [4,6,7,9,10,37,38])] s2:=by
 have hno : ∀ k,∀ x,¬ Zr k QE (fun _=>False) x:=by rintro k x ⟨r,_,h⟩;exact h
 have eS:kS (vis++[(.str s,.int .i64 c)])=kS vis++[s]:=by simp[kS,UX]
 have eI:kI (vis++[(.str s,.int .i64 c)])=kI vis++[c]:=by simp[kI,PV.asInt]
 have elen:(vis++[((.str s,.int .i64 c):PV×PV)]).length=vis.length+1:=by simp
 rw[<- a9a]
 rcases h with ⟨h1,rfl⟩|⟨h1,rfl⟩
 ·refine⟨_,by kernel_rfl,_,hno 3,a9m (G:=fun _=>False) _ n s c ⟨rfl,.inr ⟨by simp,?_⟩⟩⟩
  subst h1
  rfl
 ·have e1:(kS vis).length=vis.length:=by simp[kS]
  have e2:(kI vis).length=vis.length:=by simp[kI]
  refine⟨_,by kernel_rfl,_,hno 5,a3i (G:=fun _=>False) _ n s c vis.length (kS vis) (kI vis) ⟨by simp[e1];omega,by simp[e2];omega,rfl,.inr ⟨by simp,?_⟩⟩⟩
  rw[eS,eI,elen,List.map_append,List.map_append]
  rfl
theorem UC{α:Type}[Enc α](l:List α):List.drop 0 (List.take l.length (List.map enc l))=List.map enc l:=by rw[List.drop_zero,List.take_of_length_le (by simp)]
theorem b2v(k:Int)(ts:List Coef)(H:Lin×Int)(hs:ts.all (fun t=>decide (t.v.s.length<=1000000))=true)(hl:ts.length<=1000000)(hH:H=if Zj ⟨k,ts⟩then(⟨k,ts⟩,0)else(⟨0,[]⟩,3))(q:Nat)(hq:q=ts.length):
  List.length (List.map (enc:Coef->PV) ts)=q∧preT (fun(x:Lin×Unit)=>Zx (Prod.fst x)) [.agg [.int .i64 k,.sl 2 false (List.drop 0 (List.take q (List.map enc ts)))]]=true ∧
  ∃ y:Bool,AV.pv (Zf (fun(x:Lin×Unit)=>Zj (Prod.fst x)) [.agg [.int .i64 k,.sl 2 false (List.drop 0 (List.take q (List.map enc ts)))]])=AV.pv (enc y)∧(y=false->Zv H (.tup [.agg [.int .i64 0,.sl 0 true []],.int .i64 3]))∧(y=true->Zv H (.tup [.agg [.int .i64 k,.sl 2 false (List.drop 0 (List.take q (List.map enc ts)))],.int .i64 0])):=by
 subst hq
 rw[UC]
 refine⟨by simp,Zd (⟨k,ts⟩,()) rfl (by simp[Zx,Zy];exact⟨by omega,by simpa using hs⟩),Ze (⟨k,ts⟩,()) rfl ⟨fun h=> ?_,fun h=> ?_⟩⟩
 ·have h:Zj ⟨k,ts⟩=false:=h
  rw[hH,if_neg (by rw[h];simp)]
  exact⟨rfl,rfl⟩
 ·have h:Zj ⟨k,ts⟩=true:=h
  rw[hH,if_pos h]
  exact Ke (x:=((⟨k,ts⟩:Lin),(0:Int))) rfl
theorem BQ(m:List (Str×Int))(g:Int)(xs:List (List UInt8))(i:Nat)(h:i<xs.length):VO m g (xs.take (i+1))=VO m g (xs.take i)++[⟨⟨xs[i]⟩,Ym ((Ws m xs[i]).tdiv g)⟩]:=by
 unfold VO
 rw[List.take_add_one,List.getElem?_eq_getElem h,List.map_append]
 rfl
theorem c0e{xs:List (List UInt8)}{i:Nat}(h:i<xs.length):List.getD (List.map PV.str xs) (0+Int.toNat (i:Int)) default = .str xs[i]:=by simp[List.getD,h]
theorem a7e(fs:List Fact)(ms:List Int)(g k:Int)(m:List (Str×Int))(xs:List (List UInt8))(hg:g≠0)(hx:xs.length<=100000)(hsx : ∀ x∈xs,x.length<=1000000)(H:Lin×Int)(hH:H=if Zj ⟨k,VO m g xs⟩then(⟨k,VO m g xs⟩,0)else(⟨0,[]⟩,3)):
  ∀ (j i:Nat),j+i=xs.length->0<i->JX Xl CR 0 (Za Wj (Zv H)) XJ 0 93 [(4,.ptr 0 0),(7,.map 1),(13,.pv (.int .i64 g)),(15,.ptr 2 0),(69,.row 3 xs.length 0 xs.length),(70,.pv (.int .i64 xs.length)),(71,.pv (.int .i64 i))]
   [.obj (.box [.pv (.int .i64 0),.pv (.sl 0 true [])]),.obj (.map (Zn m)),.obj (.box [.pv (.int .i64 k),.row 4 i 0 i]),.obj (.row false 9 1 (xs.map .str)),.obj (.row false 61 2 ((VO m g (xs.take i)).map enc))]:=by
 intro j
 induction j with
 | zero=>
  intro i hi h0
  refine Pe CR fs ms g k m xs.length xs i i (VO m g (xs.take i)) (Yc (X4 (by omega)) ?_)
  have ei:xs.take i=xs:=List.take_of_length_le (by omega)
  rw[ei]
  have hall:(VO m g xs).all (fun t=>decide (t.v.s.length<=1000000))=true:=by
   rw[List.all_eq_true]
   intro t ht
   simp only[VO,List.mem_map]at ht
   obtain⟨v,hv,rfl⟩:=ht
   simpa using hsx v hv
  obtain⟨c1,c2,y,c3,c4,c5⟩:=b2v k (VO m g xs) H hall (by simp[VO];omega) hH i (by simp[VO];omega)
  exact⟨beq_iff_eq.2 c1,c2,y,c3,Y4 c4 fun h=>⟨beq_iff_eq.2 c1,c5 h⟩⟩
 | succ j ih=>
  intro i hi h0
  have hlt:i<xs.length:=by omega
  refine Pe CR fs ms g k m xs.length xs i i (VO m g (xs.take i)) (Z8 (Xm hlt) ?_)
  simp only[c0e hlt]
  have ec:Sh.co Sh.str (List.getD (PV.cells (.str xs[i])) 0 default) = .str xs[i]:=rfl
  simp only[ec,VC]
  refine⟨by simp;omega,by simp;omega,rfl,by rw[WT];rfl,by simpa using hg,by simp[VO];omega,?_⟩
  have h:=ih (i+1) (by omega) (by omega)
  rw[BQ m g xs i hlt,List.map_append]at h
  rw[next (by omega)]
  exact h
theorem EM(fs:List Fact)(ms:List Int)(g k:Int)(m:List (Str×Int))(xs:List (List UInt8))(hg:g≠0)(hx:xs.length<=100000)(h0:0<xs.length)(hsx : ∀ x∈xs,x.length<=1000000)(H:Lin×Int)(hH:H=if Zj ⟨k,VO m g xs⟩then(⟨k,VO m g xs⟩,0)else(⟨0,[]⟩,3)):
  JX Xl CR 0 (Za Wj (Zv H)) XJ 0 93 [(4,.ptr 0 0),(7,.map 1),(13,.pv (.int .i64 g)),(15,.ptr 2 0),(69,.row 3 xs.length 0 xs.length),(70,.pv (.int .i64 xs.length)),(71,.pv (.int .i64 0))]
   [.obj (.box [.pv (.int .i64 0),.pv (.sl 0 true [])]),.obj (.map (Zn m)),.obj (.box [.pv (.int .i64 k),.pv (.sl 0 true [])]),.obj (.row false 9 1 (xs.map .str))]:=by
 refine a5v CR fs ms g k m xs.length xs 0 (Z8 (by simp;omega) ?_)
 have hz:List.getD (List.map PV.str xs) (0+Int.toNat 0) default = .str xs[0]:=by simp[List.getD,h0]
 simp only[hz]
 have ec:Sh.co Sh.str (List.getD (PV.cells (.str xs[0])) 0 default) = .str xs[0]:=rfl
 simp only[ec,VC]
 refine⟨by simp;omega,by simp;omega,rfl,by rw[WT];rfl,by simpa using hg,?_⟩
 have h:=a7e fs ms g k m xs hg hx hsx H hH (xs.length - 1) 1 (by omega) (by omega)
 have et:VO m g (xs.take 1)=[⟨⟨xs[0]⟩,Ym ((Ws m xs[0]).tdiv g)⟩]:=by
  have:=BQ m g xs 0 h0
  simpa [VO]using this
 rw[et]at h
 exact h
theorem c1i{m:List (Str×Int)}(hz : ∀ p∈m,p.2≠0)(hm:m≠[]):YN (X6 m)≠0:=by
 cases m with
 | nil=>exact absurd rfl hm
 | cons p m=>exact b2r ⟨p.2,by simp[X6],hz p (by simp)⟩
theorem a9k(fs:List Fact)(ms:List Int)(hf:Zi fs=true)(hc:QZ fs ms=true)(hb:Zq fs=true->(Uf (ZQ fs ms).2).length<=10000∧(X6 (Uf (ZQ fs ms).2)).all WJ=true∧ ∀ x∈ZF (Uf (ZQ fs ms).2),x.length<=1000000):
  UZ Xl CR 0 (Za Wj (Zv (Yj fs ms))) XJ [] (Z9 93 [enc fs,enc ms]):=by
 refine b5x CR fs ms ⟨Zd (fs,()) rfl hf,Ze (fs,()) rfl (Y4 (fun hv=> ?_) fun hv=> ?_)⟩
 ·have hv:Zq fs=false:=hv
  have:Yj fs ms=(⟨0,[]⟩,1):=by simp[Yj,hv]
  rw[this]
  exact⟨rfl,rfl⟩
 have hv:Zq fs=true:=hv
 obtain⟨b1,b2,b3⟩:=hb hv
 have hcut:Yj fs ms=BF (ZQ fs ms).1 (Uf (ZQ fs ms).2):=by simp[Yj,hv,hc]
 rw[hcut]
 have hcf:UD (enc fs) (enc ms)=ZQ fs ms:=by unfold UD;rw[Enc.dec_enc,Enc.dec_enc]
 refine⟨?_,?_⟩
 ·show Xi true (enc fs) (enc ms)=true
  simp only[Zi,Bool.and_eq_true,decide_eq_true_eq,List.all_eq_true]at hf
  have h2:fs.all (fun f=>Zy f.l)=true:=by
   rw[List.all_eq_true]
   intro f hfm
   have:=hf.2 f hfm
   simp only[Zx,Bool.and_eq_true]at this
   exact this.1
  simp only[Xi,Qp,Enc.dec_enc,hc,h2,decide_eq_true hf.1]
  rfl
 simp only[hcf]
 have hz0 : ∀ p∈Uf (ZQ fs ms).2,p.2≠0:=fun p hp=>by simpa using (List.mem_filter.1 hp).2
 generalize (ZQ fs ms).1=n
 generalize Uf (ZQ fs ms).2=m at b1 b2 b3 hz0 ⊢
 by_cases hm:m=[]
 ·subst hm
  refine Z8 rfl ?_
  exact⟨rfl,rfl⟩
 refine Yc (by simp[Zn,hm]) ?_
 have elen : ∀ x y,(SC n x y).length=93:=fun x y=>rfl
 refine⟨rfl,⟨(XG 93 0 [(4,.ptr 0 0),(6,.pv (.int .i64 n)),(7,.map 1),(9,.pv (.sl 0 true [])),(10,.pv (.sl 0 true [])),(11,.undef),(12,.undef),(37,.undef),(38,.undef),(39,.undef),(40,.undef),(41,.undef),(42,.undef),(43,.undef),(44,.undef),(45,.undef),(46,.undef),(47,.undef),(48,.undef),(49,.undef),(50,.undef),(51,.undef)]).set 37 (.map 1),
   [.obj (.box [.pv (.int .i64 0),.pv (.sl 0 true [])]),.obj (.map (Zn m))]⟩,⟨SC n (.pv (.sl 0 true [])) (.pv (.sl 0 true [])),b5b⟩,1,2,37,1,Zn m,[4,6,7,9,10,37,38],[4,6,7,9,10,37,38],b8e n,by kernel_rfl,rfl,rfl,by kernel_rfl,rfl,by decide,rfl,.inl ⟨rfl,rfl⟩,?_,?_,?_⟩
 ·intro vis s h
  rcases h with ⟨_,rfl⟩|⟨_,rfl⟩
  ·exact⟨⟨rfl,by show 39<_;rw[elen];omega,by show 40<_;rw[elen];omega,by show 41<_;rw[elen];omega⟩,rfl⟩
  ·exact⟨⟨rfl,by show 39<_;rw[elen];omega,by show 40<_;rw[elen];omega,by show 41<_;rw[elen];omega⟩,rfl⟩
 ·intro vis kv s rest hp hI
  have hin:kv∈Zn m:=hp.mem_iff.2 (by simp)
  obtain⟨p,_,rfl⟩:=List.mem_map.1 hin
  have hl:=hp.length_eq
  simp[Zn]at hl
  exact EH n vis p.1.s p.2 s (by omega) hI
 ·intro vis s hp hI
  have hvl:vis.length=m.length:=by have:=hp.length_eq;simpa [Zn]using this
  have hpS:(kS vis).Perm (ZF m):=by
   have:=hp.map (fun p:PV×PV=>UX p.1)
   have e:(Zn m).map (fun p:PV×PV=>UX p.1)=ZF m:=by simp[Zn,ZF,UX,Function.comp_def]
   rw[e]at this
   exact this
  have hpI:(kI vis).Perm (X6 m):=by
   have:=hp.map (fun p:PV×PV=>p.2.asInt)
   have e:(Zn m).map (fun p:PV×PV=>p.2.asInt)=X6 m:=by simp[Zn,X6,PV.asInt,Function.comp_def]
   rw[e]at this
   exact this
  have hml:0<m.length:=List.length_pos_iff.2 hm
  rcases hI with ⟨h1,rfl⟩|⟨h1,rfl⟩
  ·rw[h1]at hvl;simp at hvl;omega
  ·have eg:YN (kI vis)=YN (X6 m):=Ad hpI
   have hg:YN (X6 m)≠0:=c1i hz0 hm
   have eS:YV (kS vis)=VP m:=Pn hpS
   have eSl:(kS vis).length=vis.length:=by simp[kS]
   have eIl:(kI vis).length=vis.length:=by simp[kI]
   have hn:(VP m).length=vis.length:=by unfold VP;rw[show(YV (ZF m)).length=(ZF m).length from(List.mergeSort_perm _ _).length_eq];simp[ZF];omega
   have hallI:(kI vis).all WJ=true:=by
    rw[List.all_eq_true]at b2 ⊢
    intro x hx
    exact b2 x (hpI.mem_iff.1 hx)
   refine a8s CR fs ms n m vis.length (kS vis) (kI vis) ?_
   have edt:List.drop 0 (List.take vis.length (List.map (enc:Int->PV) (kI vis)))=(kI vis).map enc:=by rw[<- eIl];exact UC _
   rw[edt]
   refine⟨by simp[eIl],Zd (kI vis,()) rfl (by simp only[Bool.and_eq_true];exact⟨by simp[eIl];omega,hallI⟩),Ze (kI vis,()) rfl (Yc (by simp[KE]) (Ze (n,(KE (kI vis)).1,()) rfl ⟨?_,?_⟩))⟩
   ·have:(List.map PV.str (kS vis)).all J4=true:=by simp[J4]
    simp only[YW,List.length_map,eSl,this,Bool.and_eq_true,beq_self_eq_true,true_and,decide_eq_true_eq]
    omega
   ·have e1:List.map UX (List.map PV.str (kS vis))=kS vis:=by rw[List.map_map];exact List.map_id _
    have h:=EM fs ms (YN (X6 m)) (Kw n (YN (X6 m))).1 m (VP m) hg (by omega) (by omega) (fun x hx=>b3 x ((List.mergeSort_perm (ZF m) _).mem_iff.1 hx)) (BF n m) (by unfold BF;rw[if_neg hm])
    rw[e1,eS]
    rw[hn]at h
    have e2:(KE (kI vis)).1=YN (X6 m):=eg
    show JX Xl CR 0 _ XJ 0 93 [(4,.ptr 0 0),(7,.map 1),(13,.pv (.int .i64 (KE (kI vis)).1)),(15,.ptr 2 0),(69,.row 3 vis.length 0 vis.length),(70,.pv (.int .i64 ((vis.length - 0:Nat):Int))),(71,.pv (.int .i64 0))] [_,_,.obj (.box [.pv (.int .i64 (Kw n (KE (kI vis)).1).1),.pv (.sl 0 true [])]),_]
    rw[e2,Nat.sub_zero]
    exact h
theorem a5y{E:YO}(fs:List Fact)(ms:List Int)(hf:Zi fs=true)(hc:QZ fs ms=false):UZ Ta E 0 (Za Tk (Zv (Yj fs ms))) GL [] (Z9 93 [enc fs,enc ms]):=by
 refine b8i E fs ms ⟨Zd (fs,()) rfl hf,Ze (fs,()) rfl (Y4 (fun hv=> ?_) fun hv=>⟨?_,?_⟩)⟩
 ·have hv:Zq fs=false:=hv
  have:Yj fs ms=(⟨0,[]⟩,1):=by simp[Yj,hv]
  rw[this]
  exact⟨rfl,rfl⟩
 ·show Xi false (enc fs) (enc ms)=true
  simp only[Zi,Bool.and_eq_true,decide_eq_true_eq,List.all_eq_true]at hf
  have h2:fs.all (fun f=>Zy f.l)=true:=by
   rw[List.all_eq_true]
   intro f hfm
   have:=hf.2 f hfm
   simp only[Zx,Bool.and_eq_true]at this
   exact this.1
  simp only[Xi,Qp,Enc.dec_enc,hc,h2,decide_eq_true hf.1]
  rfl
 ·have hv:Zq fs=true:=hv
  have:Yj fs ms=(⟨0,[]⟩,18):=by simp[Yj,hv,hc]
  rw[this]
  exact⟨rfl,rfl⟩
end Go.Pl

namespace Go.Pl
open Go.RowKit
open Enc (enc dec is)
open EncL (encL decL isL)
def Z4(c:Cert)(n:Int)(b:Bool):Bool:=decide ((c.kids.length:Int)=n)&&(if b then c.lin.t.isEmpty&&decide (c.lin.k=0)else c.mults.isEmpty)
def Vm(es:List (PV×PV)):List (Str×Int):=es.map fun p=>(⟨UX p.1⟩,p.2.asInt)
def c1d:PV×PV->Bool
 | (.str _,.int .i64 _)=>true
 | _=>false
def Lm(es:List (PV×PV)):Bool:=es.all c1d
theorem UL(m:List (Str×Int)):Vm (Zn m)=m:=by
 simp only[Vm,Zn,List.map_map]
 exact List.map_id _
theorem RF(m:List (Str×Int)):Lm (Zn m)=true:=by
 simp only[Lm,Zn,List.all_map,List.all_eq_true]
 intro p _
 rfl
theorem GM: ∀ {es:List (PV×PV)},Lm es=true-> ∃ m,es=Zn m
 | [],_=>⟨[],rfl⟩
 | (a,b)::es,h=>by
  simp only[Lm,List.all_cons,Bool.and_eq_true]at h
  obtain⟨m,rfl⟩:=GM (es:=es) h.2
  match a,b,h.1 with
  | .str s,.int .i64 n,_=>exact⟨(⟨s⟩,n)::m,rfl⟩
def LJ(m:List (Str×Int)):Bool:=decide (m.length<1000000)&&(ZF m).all fun x=>decide (x.length<=1000000)
def Xr:List AV->List AObj->Bool
 | [.ptr 0 0],[.box [.pv (.int .i64 n),.map 1],.map es]=>Lm es&&LJ (Vm es)
 | _,_=>false
def GU:List AV->List AObj->AV×List AObj×List AObj
 | _,[.box [.pv (.int .i64 n),.map 1],.map es]=>(.pv (enc (BA n (Vm es))),[.box [.pv (.int .i64 n),.map 1],.map es],[])
 | _,_=>UN
def Ui:List AV->List AObj->Bool
 | [.ptr 0 0,.pv l,.pv (.int .i64 k)],[.box [.pv (.int .i64 n),.map 1],.map es]=>Lm es&&can Lin l&&decide ((dec l:Lin).t.length<=1000000)
 | _,_=>false
def b8j(n:Int)(es:List (PV×PV))(l:Lin)(k:Int):AV×List AObj×List AObj:=(.tup [],[.box [.pv (.int .i64 (Ym (n+Ym (k*l.k)))),.map 1],.map (Zn (YK k l.t (Vm es)))],[])
def GN:List AV->List AObj->AV×List AObj×List AObj
 | [_,.pv l,.pv (.int .i64 k)],[.box [.pv (.int .i64 n),.map 1],.map es]=>b8j n es (dec l) k
 | _,_=>UN
def Yg(a b:Lin)(k:Int):Lin×Int:=if Zj a then(if Zj b then BA (Ym (Ym (0+Ym (1*a.k))+Ym (k*b.k))) (YK k b.t (YK 1 a.t []))else(⟨0,[]⟩,1))else(⟨0,[]⟩,1)
def WG(l:Lin)(k:Int):Lin×Int:=Yg ⟨0,[]⟩ l (max (-1000001) (min k 1000001))
def X8(g:Lin):Lin×Int:=if (WG g (-1)).2=0 then Yg (WG g (-1)).1 ⟨-1,[]⟩ 1 else(⟨0,[]⟩,(WG g (-1)).2)
def ZM(fs:List Fact)(l:Lin):List Fact:=fs++[⟨false,l⟩]
def ZU(fs l:PV):List Fact:=ZM (dec fs) (dec l)
def a7w(fs l:PV):AV×List AObj×List AObj:=(.row 1 (ZU fs l).length 0 (ZU fs l).length,[.box [.pv fs]],[.row false 100 3 ((ZU fs l).map enc)])
def YU:List AV->List AObj->Bool
 | [.pv l,.ptr 0 0],[.box [.pv fs]]=>can Lin l&&can (List Fact) fs&&decide ((dec fs:List Fact).length<=1000000)
 | _,_=>false
def QK:List AV->List AObj->AV×List AObj×List AObj
 | [.pv l,_],[.box [.pv fs]]=>a7w fs l
 | _,_=>UN
def Bo(fs:List Fact)(m:List Int):Bool:=QZ fs m&&(Uf (ZQ fs m).2).isEmpty&&decide ((ZQ fs m).1<0)
mutual
def Vu:Cert->Bool
 | .mk _ m l ks=>decide (m.length<=9223372036854775807)&&Zx l&&decide (ks.length<=9223372036854775807)&&J2 ks
def J2:List Cert->Bool
 | []=>true
 | c::cs=>Vu c&&J2 cs
end
mutual
theorem a3z: ∀ {c:Cert},Vu c=true->UA c=true
 | .mk k m l ks,h=>by
  simp only[Vu,UA,Zx,Bool.and_eq_true]at h ⊢
  exact⟨⟨⟨h.1.1.1,h.1.1.2.1⟩,h.1.2⟩,Ox h.2⟩
theorem Ox: ∀ {cs:List Cert},J2 cs=true->Qy cs=true
 | [],_=>rfl
 | c::cs,h=>by
  simp only[J2,Qy,Bool.and_eq_true]at h ⊢
  exact⟨a3z h.1,Ox h.2⟩
end
def YC(fs:List Fact):Cert->Bool
 | .mk k m l ks=>
  if k=1 then Z4 (.mk k m l ks) 0 true&&Bo fs m
  else if k=2 then match h:ks with
   | [c]=>Z4 (.mk k m l ks) 1 true&&(decide ((Yj fs m).2=0)&&YC (ZM fs (Yj fs m).1) c)
   | _=>false
  else if k=3 then match h:ks with
   | [a,b]=>Z4 (.mk k m l ks) 2 false&&(decide ((X8 l).2=0)&&(YC (ZM fs l) a&&YC (ZM fs (X8 l).1) b))
   | _=>false
  else false
termination_by c=>Zt c
decreasing_by all_goals subst h;simp only[Zt,Yb];omega
theorem Gh(fs:List Fact)(m:List Int)(l:Lin)(ks:List Cert):YC fs (.mk 1 m l ks)=(Z4 (.mk 1 m l ks) 0 true&&Bo fs m):=(YC.eq_def _ _).trans (if_pos rfl)
theorem Dj(fs:List Fact)(m:List Int)(l:Lin)(c:Cert):YC fs (.mk 2 m l [c])=(Z4 (.mk 2 m l [c]) 1 true&&(decide ((Yj fs m).2=0)&&YC (ZM fs (Yj fs m).1) c)):=(YC.eq_def _ _).trans ((if_neg (by decide)).trans (if_pos rfl))
theorem Rh(fs:List Fact)(m:List Int)(l:Lin)(a b:Cert):YC fs (.mk 3 m l [a,b])=(Z4 (.mk 3 m l [a,b]) 2 false&&(decide ((X8 l).2=0)&&(YC (ZM fs l) a&&YC (ZM fs (X8 l).1) b))):=(YC.eq_def _ _).trans ((if_neg (by decide)).trans ((if_neg (by decide)).trans (if_pos rfl)))
theorem NK(fs:List Fact)(m:List Int)(l:Lin)(ks:List Cert)(h:Z4 (.mk 2 m l ks) 1 true=false):YC fs (.mk 2 m l ks)=false:=by
 match ks,h with
 | [c],h=>rw[Dj,h];rfl
 | [],_=>exact(YC.eq_def _ _).trans ((if_neg (by decide)).trans (if_pos rfl))
 | _::_::_,_=>exact(YC.eq_def _ _).trans ((if_neg (by decide)).trans (if_pos rfl))
theorem Mv(fs:List Fact)(m:List Int)(l:Lin)(ks:List Cert)(h:Z4 (.mk 3 m l ks) 2 false=false):YC fs (.mk 3 m l ks)=false:=by
 match ks,h with
 | [a,b],h=>rw[Rh,h];rfl
 | [],_=>exact(YC.eq_def _ _).trans ((if_neg (by decide)).trans ((if_neg (by decide)).trans (if_pos rfl)))
 | [_],_=>exact(YC.eq_def _ _).trans ((if_neg (by decide)).trans ((if_neg (by decide)).trans (if_pos rfl)))
 | _::_::_::_,_=>exact(YC.eq_def _ _).trans ((if_neg (by decide)).trans ((if_neg (by decide)).trans (if_pos rfl)))
theorem a8m(fs:List Fact)(k:Int)(m:List Int)(l:Lin)(ks:List Cert)(h1:k≠1)(h2:k≠2)(h3:k≠3):YC fs (.mk k m l ks)=false:=(YC.eq_def _ _).trans ((if_neg h1).trans ((if_neg h2).trans (if_neg h3)))
theorem JN{s:Str}(h:Yu s=true):s.s.length<=30:=by
 unfold Yu at h
 split at h
 ·cases h
 ·rename_i c r hs
  rw[hs]
  split at h
  ·simp only[Bool.and_eq_true,decide_eq_true_eq]at h
   have:=h.2
   simp only[List.length_cons]
   omega
  ·simp only[Bool.and_eq_true,decide_eq_true_eq]at h
   have:=h.2
   simp only[List.length_cons]
   omega
theorem Vz{l:Lin}(h:Zj l=true):l.t.length<=12:=by
 simp only[Zj,Bool.and_eq_true,decide_eq_true_eq]at h
 exact h.2
theorem Qi{l:Lin}(h:Zj l=true){t:Coef}(ht:t∈l.t):Yu t.v=true∧t.c≠0∧ -1000000<=t.c∧t.c<=1000000:=by
 simp only[Zj,Bool.and_eq_true,decide_eq_true_eq,List.all_eq_true]at h
 have:=h.1.1.1 t ht
 simp only[Ya,Bool.and_eq_true,decide_eq_true_eq]at this
 exact⟨this.1.1,this.1.2,this.2⟩
theorem FT{l:Lin}(h:Zj l=true): -1000000<=l.k∧l.k<=1000000:=by
 simp only[Zj,Ya,Bool.and_eq_true,decide_eq_true_eq]at h
 exact h.1.2
theorem PD{l:Lin}(h:Zj l=true):Zx l=true:=by
 have h1:=Vz h
 simp only[Zx,Zy,Bool.and_eq_true,decide_eq_true_eq,List.all_eq_true]
 refine⟨by omega,fun t ht=> ?_⟩
 have:=JN (Qi h ht).1
 omega
theorem Kj(k:Int): ∀ (l:List Coef) (m:List (Str×Int)) (x:List UInt8),x∈ZF (YK k l m)->x∈ZF m ∨ ∃ t∈l,t.v.s=x
 | [],m,x,h=>.inl h
 | t::l,m,x,h=>by
  rw[YK]at h
  rcases Kj k l _ x h with h|⟨u,hu,rfl⟩
  ·rcases Jh t.v (IntKind.i64.wrap (Ws m t.v.s+IntKind.i64.wrap (k*t.c))) m with e|⟨_,e⟩
   ·rw[e]at h;exact .inl h
   ·rw[e,List.mem_append]at h
    rcases h with h|h
    ·exact .inl h
    ·exact .inr ⟨t,by simp,(List.mem_singleton.1 h).symm⟩
  ·exact .inr ⟨u,by simp[hu],rfl⟩
theorem E8{n:Int}{m:List (Str×Int)}(h:(BA n m).2=0):Zj (BA n m).1=true:=by
 unfold BA at h ⊢
 split
 ·assumption
 ·rename_i h'
  rw[if_neg h']at h
  cases h
theorem Jb{a b:Lin}{k:Int}(h:(Yg a b k).2=0):Zj a=true∧Zj b=true∧Zj (Yg a b k).1=true:=by
 unfold Yg at h ⊢
 cases ha:Zj a
 ·rw[ha,if_neg (by decide)]at h;cases h
 cases hb:Zj b
 ·rw[ha,hb,if_pos rfl,if_neg (by decide)]at h;cases h
 rw[ha,hb,if_pos rfl,if_pos rfl]at h
 rw[if_pos rfl,if_pos rfl]
 exact⟨rfl,rfl,E8 h⟩
theorem Hg{l:Lin}(h:(X8 l).2=0):Zj l=true∧Zj (X8 l).1=true:=by
 unfold X8 at h ⊢
 by_cases h1:(WG l (-1)).2=0
 ·rw[if_pos h1]at h ⊢
  exact⟨(Jb h1).2.1,(Jb h).2.2⟩
 ·rw[if_neg h1]at h
  exact absurd h h1
theorem H7{fs:List Fact}{m:List Int}(h:(Yj fs m).2=0):Zj (Yj fs m).1=true:=by
 have key : ∀ (n:Int) (M:List (Str×Int)),(BF n M).2=0->Zj (BF n M).1=true:=by
  intro n M h
  unfold BF at h ⊢
  split
  ·rename_i h1
   rw[if_pos h1]at h;cases h
  ·rename_i h1
   rw[if_neg h1]at h
   split
   ·assumption
   ·rename_i h2
    rw[if_neg h2]at h;cases h
 unfold Yj at h ⊢
 cases h1:Zq fs
 ·rw[h1,if_neg (by decide)]at h;cases h
 cases h2:QZ fs m
 ·rw[h1,h2,if_pos rfl,if_neg (by decide)]at h;cases h
 rw[h1,h2,if_pos rfl,if_pos rfl]at h
 rw[if_pos rfl,if_pos rfl]
 exact key _ _ h
def Yp(fs:List Fact)(c:Cert):Int:=if Zq fs then(if (fs.length:Int)>100 then 3 else if Z7 c>1000 then 3 else if YC fs c then 0 else 18)else 1
end Go.Pl

namespace Go.Pl
open Go.RowKit
open Enc (enc dec is)
open EncL (encL decL isL)
theorem V9{n:Int}(h1 : -9223372036854775808<=n)(h2:n<=9223372036854775807):Ym n=n:=Dm h1 h2
def a6y(m:List (Str×Int))(B:Int):Prop:= ∀ p∈m,-B<=p.2∧p.2<=B
theorem b2g{m:List (Str×Int)}{B:Int}(hB:0<=B)(h:a6y m B)(s:List UInt8): -B<=Ws m s∧Ws m s<=B:=by
 unfold Ws
 cases e:m.find? fun p=>p.1.s==s with
 | none=>simp;omega
 | some p=>
  have:=h p (List.mem_of_find?_eq_some e)
  simpa using this
theorem L9{s:Str}{c:Int}{p:Str×Int}: ∀ {m:List (Str×Int)},p∈VH s c m->p.2=c∨p∈m
 | [],h=>by simp[VH]at h;left;rw[h]
 | q::m,h=>by
  rw[VH]at h
  split at h
  ·rcases List.mem_cons.1 h with rfl|h
   ·exact .inl rfl
   ·exact .inr (by simp[h])
  ·rcases List.mem_cons.1 h with rfl|h
   ·exact .inr (by simp)
   ·exact(L9 h).imp id fun h=>by simp[h]
theorem b1r{k c:Int}(hk1 : -1000000000<=k)(hk2:k<=1000000000)(hc1 : -1000000<=c)(hc2:c<=1000000): -1000000000000000<=k*c∧k*c<=1000000000000000:=by
 have h:(k*c).natAbs<=1000000000*1000000:=by
  rw[Int.natAbs_mul]
  exact Nat.mul_le_mul (by omega) (by omega)
 omega
theorem PT{k:Int}(hk1 : -1000000000<=k)(hk2:k<=1000000000): ∀ (l:List Coef) (m:List (Str×Int)) (B:Int),0<=B->B+l.length*1000000000000000<=4000000000000000000->(∀ t∈l,-1000000<=t.c∧t.c<=1000000)->a6y m B->a6y (YK k l m) (B+l.length*1000000000000000)
 | [],m,B,_,_,_,h=>by simpa [YK]using h
 | t::l,m,B,hB,hl,ht,h=>by
  rw[YK]
  have h1:=ht t (by simp)
  have h2:=b1r hk1 hk2 h1.1 h1.2
  have h3:=b2g hB h t.v.s
  have e:(((t::l).length:Nat):Int)*1000000000000000=1000000000000000+(l.length:Int)*1000000000000000:=by rw[List.length_cons];omega
  rw[e]at hl ⊢
  have w1:IntKind.i64.wrap (k*t.c)=k*t.c:=V9 (by omega) (by omega)
  have w2:IntKind.i64.wrap (Ws m t.v.s+k*t.c)=Ws m t.v.s+k*t.c:=V9 (by omega) (by omega)
  rw[w1,w2]
  have:=PT hk1 hk2 l (VH t.v (Ws m t.v.s+k*t.c) m) (B+1000000000000000) (by omega) (by omega) (fun u hu=>ht u (by simp[hu])) (fun p hp=>by
   rcases L9 hp with e|hp
   ·rw[e];omega
   ·have:=h p hp;omega)
  rw[show B+(1000000000000000+(l.length:Int)*1000000000000000)=B+1000000000000000+(l.length:Int)*1000000000000000 by omega]
  exact this
def Mi(f:Fact):Prop:=f.l.t.length<=12∧(∀ t∈f.l.t,-1000000<=t.c∧t.c<=1000000∧t.v.s.length<=30)∧ -1000000<=f.l.k∧f.l.k<=1000000
theorem a4m{f:Fact}(h:Zj f.l=true):Mi f:=⟨Vz h,fun t ht=>by have:=Qi h ht;exact⟨this.2.2.1,this.2.2.2,JN this.1⟩,FT h⟩
theorem Nu: ∀ (qs:List (Int×Fact)) (n:Int) (m:List (Str×Int)) (B:Int),0<=B->B+qs.length*12000000000000000<=4000000000000000000->(∀ q∈qs,okQ q=true∧Mi q.2)->a6y m B->(∀ x∈ZF m,x.length<=30) ->
  a6y (qs.foldl WL (n,m)).2 (B+qs.length*12000000000000000)∧(∀ x∈ZF (qs.foldl WL (n,m)).2,x.length<=30)∧(qs.foldl WL (n,m)).2.length<=m.length+12*qs.length
 | [],n,m,B,_,_,_,h,hk=>by simp;exact⟨h,hk⟩
 | q::qs,n,m,B,hB,hl,hq,h,hk=>by
  obtain⟨hq1,hq2,hq3,hq4⟩:=hq q (by simp)
  simp only[okQ,Bool.and_eq_true,Bool.not_eq_true',decide_eq_false_iff_not]at hq1
  have e:(((q::qs).length:Nat):Int)*12000000000000000=12000000000000000+(qs.length:Int)*12000000000000000:=by rw[List.length_cons];omega
  rw[e]at hl ⊢
  have hb:=PT (k:=q.1) (by omega) (by omega) q.2.l.t m B hB (by omega) (fun t ht=>⟨(hq3 t ht).1,(hq3 t ht).2.1⟩) h
  have ih:=Nu qs (Ym (n+Ym (q.1*q.2.l.k))) (YK q.1 q.2.l.t m) (B+12000000000000000) (by omega) (by omega) (fun r hr=>hq r (by simp[hr])) (fun p hp=>by have:=hb p hp;omega) (fun x hx=>by
   rcases Kj _ _ _ _ hx with hx|⟨t,ht,rfl⟩
   ·exact hk x hx
   ·exact(hq3 t ht).2.2)
  rw[List.foldl_cons]
  have hlen:=Jd q.1 q.2.l.t m
  refine⟨?_,ih.2.1,?_⟩
  ·rw[show B+(12000000000000000+(qs.length:Int)*12000000000000000)=B+12000000000000000+(qs.length:Int)*12000000000000000 by omega]
   exact ih.1
  ·have:=ih.2.2
   simp only[WL,List.length_cons]at this ⊢
   omega
theorem b5z{fs:List Fact}{ms:List Int}(hv:Zq fs=true)(hc:QZ fs ms=true): ∀ q∈ms.zip fs,okQ q=true∧Mi q.2:=by
 simp only[QZ,Bool.and_eq_true,List.all_eq_true]at hc
 simp only[Zq,List.all_eq_true]at hv
 exact fun q hq=>⟨hc.2 q hq,a4m (hv q.2 (List.of_mem_zip hq).2)⟩
theorem b6x{fs:List Fact}{ms:List Int}(hn:fs.length<=300)(hc:QZ fs ms=true)(hv:Zq fs=true):(Uf (ZQ fs ms).2).length<=10000∧(X6 (Uf (ZQ fs ms).2)).all WJ=true∧ ∀ x∈ZF (Uf (ZQ fs ms).2),x.length<=1000000:=by
 have hz:(ms.zip fs).length<=300:=by rw[List.length_zip];omega
 obtain⟨h1,h2,h3⟩:=Nu (ms.zip fs) 0 [] 0 (by omega) (by omega) (b5z hv hc) (by intro p hp;cases hp) (by intro x hx;cases hx)
 have hsub : ∀ p∈Uf (ZQ fs ms).2,p∈(ZQ fs ms).2:=fun p hp=>(List.mem_filter.1 hp).1
 refine⟨?_,?_,?_⟩
 ·have:(Uf (ZQ fs ms).2).length<=(ZQ fs ms).2.length:=List.length_filter_le _ _
  have h3:(ZQ fs ms).2.length<=([]:List (Str×Int)).length+12*(ms.zip fs).length:=h3
  simp only[List.length_nil]at h3
  omega
 ·rw[List.all_eq_true]
  intro x hx
  obtain⟨p,hp,rfl⟩:=List.mem_map.1 hx
  have:=h1 p (hsub p hp)
  simp only[WJ,Bool.and_eq_true,decide_eq_true_eq]
  omega
 ·intro x hx
  obtain⟨p,hp,rfl⟩:=List.mem_map.1 hx
  have:=h2 p.1.s (List.mem_map.2 ⟨p,hsub p hp,rfl⟩)
  omega
end Go.Pl

namespace Go.Pl
open Go.RowKit
open Enc (enc dec is)
open EncL (encL decL isL)
theorem Gs{ok:Bool}{a b:PV}(h:Xi ok a b=true): ∃ (fs:List Fact) (ms:List Int),a=enc fs∧b=enc ms∧fs.length<=9223372036854775807∧fs.all (fun f=>Zy f.l)=true∧QZ fs ms=ok:=by
 simp only[Xi,Bool.and_eq_true,decide_eq_true_eq,beq_iff_eq]at h
 obtain⟨⟨⟨⟨h1,h2⟩,h3⟩,h4⟩,h5⟩:=h
 obtain⟨fs,rfl⟩:=HY h1
 obtain⟨ms,rfl⟩:=HY h2
 simp only[Enc.dec_enc]at h3 h4 h5
 exact⟨fs,ms,rfl,rfl,h3,h4,h5⟩
theorem TU(fs:List Fact)(ms:List Int):Gr fs ms=if QZ fs ms then Ov (ZQ fs ms)else UN:=by
 unfold Gr QV QZ ZQ
 by_cases h:ms.length=fs.length
 ·simp only[h,if_true,decide_true,Bool.true_and]
 ·simp only[if_neg h,decide_eq_false h,Bool.false_and]
  rfl
theorem a1e: ∀ args os,Xj args os=true->UZ Y1 Vp os.length (Zr os.length Yt fun r=>r=WO args os) Yr [] (Uh LM args os):=by
 intro args os h
 unfold Xj at h
 split at h
 ·rename_i a b
  obtain⟨fs,ms,rfl,rfl,h1,h2,h3⟩:=Gs h
  have hv:WO [.pv (enc fs),.pv (enc ms)] []=Gr fs ms:=by
   show Ov (UD (enc fs) (enc ms))=_
   have e:UD (enc fs) (enc ms)=ZQ fs ms:=by unfold UD;rw[Enc.dec_enc,Enc.dec_enc]
   rw[e,TU,h3,if_pos rfl]
  rw[hv]
  exact Nq fs ms h1 h2
 ·cases h
theorem EU: ∀ args os,XV args os=true->UZ Y1 Vp os.length (Zr os.length Yt fun r=>r=Vy args os) Yr [] (Uh LM args os):=by
 intro args os h
 unfold XV at h
 split at h
 ·rename_i a b
  obtain⟨fs,ms,rfl,rfl,h1,h2,h3⟩:=Gs h
  have hv:Vy [.pv (enc fs),.pv (enc ms)] []=Gr fs ms:=by
   show UN=_
   rw[TU,h3]
   rfl
  rw[hv]
  exact Nq fs ms h1 h2
 ·cases h
theorem a0y: ∀ args os,Xj args os=true->(WO args os).2.1.length=os.length:=by
 intro args os h
 unfold Xj at h
 split at h
 ·rfl
 ·cases h
theorem Eo: ∀ args os,XV args os=true->(Vy args os).2.1.length=os.length:=by
 intro args os h
 unfold XV at h
 split at h
 ·rfl
 ·cases h
theorem b3r: ∀ args os,Ui args os=true->Zc QA os.length (Zr os.length Uu fun r=>r=GN args os) Um [] (Uh b4d args os):=by
 intro args os h
 unfold Ui at h
 split at h
 ·rename_i l k n es
  simp only[Bool.and_eq_true,decide_eq_true_eq]at h
  obtain⟨⟨h1,h2⟩,h3⟩:=h
  obtain⟨m,rfl⟩:=GM h1
  obtain⟨l,rfl⟩:=HY h2
  rw[Enc.dec_enc]at h3
  have hv:GN [.ptr 0 0,.pv (enc l),.pv (.int .i64 k)] [.box [.pv (.int .i64 n),.map 1],.map (Zn m)]=b7s (IntKind.i64.wrap (n+IntKind.i64.wrap (k*l.k))) (YK k l.t m):=by
   show b8j n (Zn m) (dec (enc l)) k=_
   rw[Enc.dec_enc,b8j,UL]
   rfl
  rw[hv]
  exact a6e n m l k h3
 ·cases h
theorem MW: ∀ m:List (Str×Int),kz (Zn m)=ZF (Uf m)
 | []=>rfl
 | (s,c)::m=>by
  have ih:=MW m
  simp only[kz,Zn,ZF,Uf]at ih ⊢
  by_cases h:c=0
  ·subst h
   simp[ih]
  ·simp[h,ih]
theorem Nc(m:List (Str×Int)):Yh m (Qf m)=YL m:=by
 unfold Yh Qf YL
 rw[MW]
 rfl
def UQ:List AV->List AObj->AV×List AObj×List AObj
 | _,[.box [.pv (.int .i64 n),.map 1],.map es]=>Jj n (Vm es) (YL (Vm es))
 | _,_=>UN
theorem a5r: ∀ args os,Xr args os=true->UZ YX SB os.length (Zr os.length YR fun r=>r=UQ args os) YP [] (Uh b0s args os):=by
 intro args os h
 unfold Xr at h
 split at h
 ·rename_i n es
  simp only[Bool.and_eq_true,LJ,decide_eq_true_eq,List.all_eq_true]at h
  obtain⟨h1,h2,h3⟩:=h
  obtain⟨m,rfl⟩:=GM h1
  rw[UL]at h2 h3
  have hv:UQ [.ptr 0 0] [.box [.pv (.int .i64 n),.map 1],.map (Zn m)]=Jj n m (Yh m (Qf m)):=by
   show Jj n (Vm (Zn m)) (YL (Vm (Zn m)))=_
   rw[UL,Nc]
  rw[hv]
  refine a6d n m h2 fun x hx=>h3 x ?_
  have hx:x∈kz (Zn m):=(List.mergeSort_perm _ _).mem_iff.1 hx
  rw[MW]at hx
  obtain⟨p,hp,rfl⟩:=List.mem_map.1 hx
  exact List.mem_map.2 ⟨p,(List.mem_filter.1 hp).1,rfl⟩
 ·cases h
theorem a8n: ∀ args os,Xr args os=true->(UQ args os).2.1.length=os.length:=by
 intro args os h
 unfold Xr at h
 split at h
 ·show(Jj _ _ _).2.1.length=_
  unfold Jj
  split
  ·split <;> rfl
  ·rfl
 ·cases h
theorem AZ(n c:Int):Sub (.tup [.agg [.int .i64 n,.sl 0 true []],.int .i64 c]) (enc (((⟨n,[]⟩:Lin),c):Lin×Int)):=.pair (.agg_cons (.refl _) (.agg_cons (Sub.sl0 _ _ _) .agg_nil)) (.refl _)
theorem b3d{P:Program}{f:Nat}(h:Ye P f Xr UQ):Ye P f Xr GU:=by
 refine h.frz fun args os hp=> ?_
 unfold Xr at hp
 split at hp
 ·rename_i n es
  have hv:UQ [.ptr 0 0] [.box [.pv (.int .i64 n),.map 1],.map es]=Jj n (Vm es) (YL (Vm es)):=rfl
  have hv':GU [.ptr 0 0] [.box [.pv (.int .i64 n),.map 1],.map es]=(.pv (enc (BA n (Vm es))),[.box [.pv (.int .i64 n),.map 1],.map es],[]):=rfl
  simp only[Bool.and_eq_true]at hp
  obtain⟨m,rfl⟩:=GM hp.1
  rw[hv,hv',UL]
  unfold Jj BA
  generalize YL m=l
  by_cases hl:Zj ⟨n,l⟩=true
  ·rw[if_pos hl,if_pos hl]
   by_cases hz:l.isEmpty=true
   ·rw[if_pos hz]
    obtain rfl:l=[]:=by simpa using hz
    exact⟨_,_,_,_,_,_,_,_,rfl,rfl,rfl,AZ n 0,rfl⟩
   ·rw[if_neg hz]
    refine⟨_,_,_,.tup [.agg [.int .i64 n,.sl 2 false (l.map enc)],.int .i64 0],[.obj (.box [.pv (.int .i64 n),.map 1]),.obj (.map (Zn m)),.obj (.row true 61 2 (l.map enc))],_,_,_,rfl,?_,rfl,.refl _,rfl⟩
    have e:List.drop 0 (List.take l.length (List.map (enc:Coef->PV) l))=l.map enc:=by rw[List.drop_zero,List.take_of_length_le (by simp)]
    simp only[frz,U7,HM.run_bind,Yd,List.map_cons,List.map_nil,List.cons_append,List.nil_append]
    simp[HM.run,HM.req]
    exact List.take_of_length_le (by simp)
  ·rw[if_neg hl,if_neg hl]
   exact⟨_,_,_,_,_,_,_,_,rfl,rfl,rfl,AZ 0 3,rfl⟩
 ·cases hp
end Go.Pl

namespace Go.Pl
open Go.RowKit
open Enc (enc dec is)
open EncL (encL decL isL)
set_option maxRecDepth 100000
def M9:IC:=(.seq (.reg [⟨(some 1),(.box 3 (.t 0)),0,none⟩,⟨(some 2),(.mv (.c (.bool false))),1,none⟩] none) (.seq (.reg [⟨(some 3),(.faddr 1 (.t 1)),0,none⟩,⟨(some 4),(.load true [(.int .i64),(.sl 2)] (.t 3)),0,none⟩,⟨(some 5),(.call (.c (.fn 73)) [(.t 4)]),0,none⟩,⟨(some 6),(.un .not (.t 5)),2,none⟩,⟨(some 2),(.mv (.t 6)),2,none⟩] none) .ret))
def M6:List IRes:=[(.tmp 2)]
abbrev b6y:Nat:=7
def a6m:ZH:=XI [(73,.pure (preT (fun x:Lin×Unit=>Zx x.1)) (Zf (fun x:Lin×Unit=>Zj x.1)))]
theorem c0f{G:PV->Prop}(f:Fact)(h:(Go.Pl.preT (fun(x:Lin×Unit)=>Zx x.1) [(.agg [(.int .i64 (Lin.k f.l)),(.sl 2 false (List.map enc (Lin.t f.l)))])])=true∧(∃ y0:Bool,AV.pv (Zf (fun(x:Lin×Unit)=>Zj x.1) [(.agg [(.int .i64 (Lin.k f.l)),(.sl 2 false (List.map enc (Lin.t f.l)))])])=AV.pv (enc y0)∧(G ((.bool !y0))))):Zc a6m 0 (Za M6 G) M9 [] (Z9 7 [enc f]):=Zc.tp (.req (.abs (Bool) (fun YY=>AV.pv (enc YY)) (.nil))) h (by kernel_rfl)
def K7:IC:=(.seq (.reg [⟨(some 4),(.mv (.c (.int .i64 0))),0,none⟩] none) (.seq (.seq (.reg [⟨(some 6),(.mv (.t 0)),0,none⟩,⟨(some 7),(.len 1 (.t 6)),0,none⟩,⟨(some 8),(.mv (.c (.int .i64 0))),0,none⟩] none) (.block 0 (.loop [8,7,1,0] (.seq (.reg [⟨(some 9),(.bin .num .lss (.t 8) (.t 7)),0,none⟩] none) (.seq (.cond (.t 9) .skip (.exit 0)) (.seq (.block 1 (.seq (.reg [⟨(some 10),(.mv (.t 8)),0,none⟩,⟨(some 5),(.mv (.t 10)),0,none⟩] none) (.seq (.reg [⟨(some 11),(.mv (.t 1)),0,none⟩,⟨(some 12),(.mv (.t 0)),0,none⟩,⟨(some 13),(.mv (.t 5)),0,none⟩,⟨(some 14),(.iaddr 3 (.t 12) (.t 13)),0,none⟩,⟨(some 15),(.load true [.bool,(.int .i64),(.sl 2)] (.t 14)),0,none⟩,⟨(some 16),(.call (.t 11) [(.t 15)]),0,none⟩] none) (.cond (.t 16) (.seq (.reg [⟨(some 17),(.mv (.t 5)),0,none⟩,⟨(some 4),(.mv (.t 17)),0,none⟩] none) .ret) .skip)))) (.reg [⟨(some 18),(.bin .num .add (.t 8) (.c (.int .i64 1))),0,none⟩,⟨(some 8),(.mv (.t 18)),0,none⟩] none))))))) (.seq (.reg [⟨(some 4),(.mv (.c (.int .i64 (-1)))),0,none⟩] none) .ret)))
def Ja:List IRes:=[(.tmp 4)]
abbrev b7m:Nat:=19
def Be:ZH:=XI [(162,.pure (preT (fun x:Fact×Unit=>Zx x.1.l)) (Zf (fun x:Fact×Unit=> !(Zj x.1.l))))]
theorem b9j{G:PV->Prop}(l:List Fact)(h:At Be 0 (Za Ja G) K7 0 19 [(0,(.pv (.sl 3 false (List.map enc l)))),(1,(.pv (.fn 162))),(7,(.pv (.int .i64 (↑(List.length (List.map enc l)):Int)))),(8,(.pv (.int .i64 0)))] []):Zc Be 0 (Za Ja G) K7 [] (Z9 19 [enc l,.fn 162]):=Zc.tp (.nil) h (by kernel_rfl)
theorem a2o{G:PV->Prop}(l:List Fact)(i:Int)(h:if (decide (i<(↑(List.length l):Int)))=true then(decide (0<=i)&&decide (Int.toNat i<List.length (List.map enc l))&&Enc.sz Fact==3)=true∧(∃ y0:Fact,AV.pv (PV.rptr (PV.cells (List.getD (List.map enc l) (Int.toNat i) default)))=AV.pv (PV.rptr (PV.cells ((enc) y0)))∧((Go.Pl.preT (fun(x:Fact×Unit)=>Zx x.1.l) [(.agg [(.bool (PV.asBool (List.getD (PV.cells (enc y0)) 0 default))),(.int .i64 (PV.asInt (List.getD (PV.cells (enc y0)) (0+1) default))),(.sl 2 false (PV.asXs (List.getD (PV.cells (enc y0)) (0+1+1) default)))])])=true∧(∃ y1:Bool,AV.pv (Zf (fun(x:Fact×Unit)=> !Zj x.1.l) [(.agg [(.bool (PV.asBool (List.getD (PV.cells (enc y0)) 0 default))),(.int .i64 (PV.asInt (List.getD (PV.cells (enc y0)) (0+1) default))),(.sl 2 false (PV.asXs (List.getD (PV.cells (enc y0)) (0+1+1) default)))])])=AV.pv (enc y1)∧(if (y1)=true then G ((.int .i64 i))else(At Be 0 (Za Ja G) K7 0 19 [(0,(.pv (.sl 3 false (List.map enc l)))),(1,(.pv (.fn 162))),(7,(.pv (.int .i64 (↑(List.length l):Int)))),(8,(.pv (.int .i64 (IntKind.wrap IntKind.i64 (i+1)))))] [])))))else(G ((.int .i64 (-1))))):At Be 0 (Za Ja G) K7 0 19 [(0,.pv (enc l)),(1,.pv (.fn 162)),(7,.pv (.int .i64 l.length)),(8,.pv (.int .i64 i))] []:=At.tp (.lit (.ask (.req (.abs (Fact) (fun YY=>AV.pv (PV.rptr (PV.cells ((enc) YY)))) (.lit (.req (.abs (Bool) (fun YY=>AV.pv (enc YY)) (.ask (.nil) (.lit (.nil)))))))) (.nil))) h (by kernel_rfl)
def NM:IC:=(.seq (.reg [⟨(some 4),(.mv (.c (.bool false))),0,none⟩] none) (.seq (.reg [⟨(some 5),(.mv (.t 0)),0,none⟩,⟨(some 6),(.mv (.t 1)),0,none⟩,⟨(some 7),(.call (.c (.fn 227)) [(.t 5),(.t 6)]),0,none⟩,⟨(some 8),(.bin .num .geq (.t 7) (.c (.int .i64 0))),2,none⟩,⟨(some 4),(.mv (.t 8)),2,none⟩] none) .ret))
def NU:List IRes:=[(.tmp 4)]
abbrev b5g:Nat:=9
def a5u:ZH:=XI [(227,.pure (preT (fun x:List Fact×FnV 162×Unit=>Zi x.1)) (Zf (fun x:List Fact×FnV 162×Unit=>VY (fun f:Fact=> !(Zj f.l)) x.1)))]
theorem b9l{G:PV->Prop}(l:List Fact)(h:(Go.Pl.preT (fun(x:List Fact×FnV 162×Unit)=>Zi x.1) [(.sl 3 false (List.map enc l)),(.fn 162)])=true∧(∃ y0:Int,AV.pv (Zf (fun(x:List Fact×FnV 162×Unit)=>VY (fun(f:Fact)=> !Zj f.l) x.1) [(.sl 3 false (List.map enc l)),(.fn 162)])=AV.pv (enc y0)∧(G ((.bool (decide (y0 ≥ 0))))))):Zc a5u 0 (Za NU G) NM [] (Z9 9 [enc l,.fn 162]):=Zc.tp (.req (.abs (Int) (fun YY=>AV.pv (enc YY)) (.lit (.nil)))) h (by kernel_rfl)
def He:IC:=(.seq (.reg [⟨(some 2),(.mv (.c (.bool false))),0,none⟩] none) (.seq (.reg [⟨(some 3),(.mv (.t 0)),0,none⟩,⟨(some 4),(.call (.c (.fn 161)) [(.t 3),(.c (.fn 162))]),0,none⟩,⟨(some 5),(.un .not (.t 4)),2,none⟩,⟨(some 2),(.mv (.t 5)),2,none⟩] none) .ret))
def Gd:List IRes:=[(.tmp 2)]
abbrev a0k:Nat:=6
def Cn:ZH:=XI [(161,.pure (preT (fun x:List Fact×FnV 162×Unit=>Zi x.1)) (Zf (fun x:List Fact×FnV 162×Unit=>x.1.any fun f:Fact=> !(Zj f.l))))]
theorem a5s{G:PV->Prop}(l:List Fact)(h:(Go.Pl.preT (fun(x:List Fact×FnV 162×Unit)=>Zi x.1) [(.sl 3 false (List.map enc l)),(.fn 162)])=true∧(∃ y0:Bool,AV.pv (Zf (fun(x:List Fact×FnV 162×Unit)=>List.any x.1 fun(f:Fact)=> !Zj f.l) [(.sl 3 false (List.map enc l)),(.fn 162)])=AV.pv (enc y0)∧(G ((.bool !y0))))):Zc Cn 0 (Za Gd G) He [] (Z9 6 [enc l]):=Zc.tp (.req (.abs (Bool) (fun YY=>AV.pv (enc YY)) (.nil))) h (by kernel_rfl)
end Go.Pl

namespace Go.Pl
open Go.RowKit
open Enc (enc dec is)
open EncL (encL decL isL)
theorem a9r: ∀ a:Fact×Unit,Zx a.1.l=true->Zc a6m 0 (Za M6 (Zv (!(Zj a.1.l)))) M9 [] (Z9 b6y (encL a)):=by
 rintro⟨f,⟨⟩⟩ h
 exact c0f f ⟨Zd (f.l,()) rfl h,Ze (f.l,()) rfl (Zz rfl)⟩
theorem PL{l:List Fact}(h:Zi l=true):l.length<=9223372036854775807∧ ∀ f∈l,Zx f.l=true:=by
 simp only[Zi,Bool.and_eq_true,decide_eq_true_eq,List.all_eq_true]at h
 exact h
theorem a9l(l:List Fact)(h:Zi l=true): ∀ (m i:Nat),m+i=l.length->(∀ j (hj:j<l.length),j<i->(!(Zj l[j].l))=false) ->
  At Be 0 (Za Ja (Zv (VY (fun f:Fact=> !(Zj f.l)) l))) K7 0 19 [(0,.pv (enc l)),(1,.pv (.fn 162)),(7,.pv (.int .i64 l.length)),(8,.pv (.int .i64 i))] []:=by
 obtain⟨hl,hs⟩:=PL h
 intro m
 induction m with
 | zero=>
  intro i hi hno
  refine a2o l i (Yc (X4 (by omega)) (XW ?_))
  rw[b2l _ _ (fun j hj=>hno j hj (by omega))]
 | succ m ih=>
  intro i hi hno
  have hlt:i<l.length:=by omega
  refine a2o l i (Z8 (Xm hlt) ⟨ZN hlt rfl,Yf hlt ⟨Zd (l[i],()) rfl (hs _ (List.getElem_mem hlt)),Ze (l[i],()) rfl (QY (fun hb=> ?_) fun hb=> ?_)⟩⟩)
  ·exact XW (b3m (fun f:Fact=> !(Zj f.l)) l i hlt hno hb).symm
  ·rw[next (by omega)]
   refine ih (i+1) (by omega) fun j hj hji=> ?_
   by_cases e:j=i
   ·subst e;exact hb
   ·exact hno j hj (by omega)
theorem b2n: ∀ a:List Fact×FnV 162×Unit,Zi a.1=true->Zc Be 0 (Za Ja (Zv (VY (fun f:Fact=> !(Zj f.l)) a.1))) K7 [] (Z9 b7m (encL a)):=by
 rintro⟨l,g,⟨⟩⟩ h
 refine b9j l ?_
 rw[List.length_map]
 exact a9l l h l.length 0 (by omega) (fun j hj h=>by omega)
theorem b0w: ∀ a:List Fact×FnV 162×Unit,Zi a.1=true->Zc a5u 0 (Za NU (Zv (a.1.any fun f:Fact=> !(Zj f.l)))) NM [] (Z9 b5g (encL a)):=by
 rintro⟨l,g,⟨⟩⟩ h
 exact b9l l ⟨Zd (l,{},()) rfl h,Ze (l,{},()) rfl (Zz (Bv _ _))⟩
theorem b4b(l:List Fact)(p:Fact->Bool):(!(l.any fun f=> !(p f)))=l.all p:=by
 induction l with
 | nil=>rfl
 | cons x l ih=>simp only[List.any_cons,List.all_cons,Bool.not_or,Bool.not_not,ih]
theorem MN: ∀ a:List Fact×Unit,Zi a.1=true->Zc Cn 0 (Za Gd (Zv (Zq a.1))) He [] (Z9 a0k (encL a)):=by
 rintro⟨l,⟨⟩⟩ h
 exact a5s l ⟨Zd (l,{},()) rfl h,Ze (l,{},()) rfl (Zz (b4b l _))⟩
end Go.Pl

namespace Go.Pl
open Go.RowKit
open Enc (enc dec is)
open EncL (encL decL isL)
set_option maxRecDepth 100000
def KT:IC:=(.seq (.reg [⟨(some 3),(.box 2 (.t 0)),0,none⟩,⟨(some 4),(.box 2 (.t 1)),1,none⟩,⟨(some 6),(.alloc (.agg [(.int .i64 0),(.sl 0 true [])])),2,none⟩,⟨(some 7),(.mv (.c (.int .i64 0))),3,none⟩] none) (.seq (.seq (.reg [⟨(some 9),(.load true [(.int .i64),(.sl 2)] (.t 3)),0,none⟩,⟨(some 10),(.call (.c (.fn 73)) [(.t 9)]),0,none⟩,⟨(some 11),(.un .not (.t 10)),2,none⟩,⟨(some 12),(.mv (.t 11)),2,none⟩,⟨(some 13),(.load true [(.int .i64),(.sl 2)] (.t 4)),2,(some (12,false))⟩,⟨(some 14),(.call (.c (.fn 73)) [(.t 13)]),2,(some (12,false))⟩,⟨(some 15),(.un .not (.t 14)),4,(some (12,false))⟩,⟨(some 16),(.pick (.t 12) (.c (.bool true)) (.t 15)),4,none⟩] none) (.cond (.t 16) (.seq (.reg [⟨(some 17),(.build [(.int .i64 0),(.sl 0 true [])] []),0,none⟩,⟨none,(.store 2 (.t 6) (.t 17)),0,none⟩,⟨(some 7),(.mv (.c (.int .i64 1))),0,none⟩] none) .ret) .skip)) (.seq (.reg [⟨(some 18),.mkmap,0,none⟩,⟨(some 19),(.build [(.int .i64 0),.nilmap] [(1,(1,(.t 18)))]),1,none⟩,⟨(some 8),(.alloc (.agg [(.int .i64 0),.nilmap])),1,none⟩,⟨none,(.store 2 (.t 8) (.t 19)),2,none⟩] none) (.seq (.reg [⟨(some 20),(.load true [(.int .i64),(.sl 2)] (.t 3)),0,none⟩,⟨(some 21),(.call (.c (.fn 114)) [(.t 8),(.t 20),(.c (.int .i64 1))]),0,none⟩] none) (.seq (.reg [⟨(some 22),(.load true [(.int .i64),(.sl 2)] (.t 4)),0,none⟩,⟨(some 23),(.mv (.t 2)),0,none⟩,⟨(some 24),(.call (.c (.fn 114)) [(.t 8),(.t 22),(.t 23)]),0,none⟩] none) (.seq (.reg [⟨(some 25),(.call (.c (.fn 82)) [(.t 8)]),0,none⟩,⟨(some 26),(.extract (.t 25) 0),2,none⟩,⟨(some 27),(.extract (.t 25) 1),2,none⟩,⟨none,(.store 2 (.t 6) (.t 26)),2,none⟩,⟨(some 7),(.mv (.t 27)),2,none⟩] none) .ret))))))
def KG:List IRes:=[(.cell true 2 6),(.tmp 7)]
abbrev M0:Nat:=28
def HZ:ZH:=XI [(73,.pure (preT (fun x:Lin×Unit=>Zx x.1)) (Zf (fun x:Lin×Unit=>Zj x.1))),(114,.own Ui GN),(82,.own Xr GU)]
theorem a1g{G:PV->Prop}(a b:Lin)(k:Int)(h:(Go.Pl.preT (fun(x:Lin×Unit)=>Zx x.1) [(.agg [(.int .i64 a.k),(.sl 2 false (List.map enc a.t))])])=true∧(∃ y0:Bool,AV.pv (Zf (fun(x:Lin×Unit)=>Zj x.1) [(.agg [(.int .i64 a.k),(.sl 2 false (List.map enc a.t))])])=AV.pv (enc y0)∧(if (!y0)=true then G ((.tup [(.agg [(.int .i64 0),(.sl 0 true [])]),(.int .i64 1)]))else((Go.Pl.preT (fun(x:Lin×Unit)=>Zx x.1) [(.agg [(.int .i64 b.k),(.sl 2 false (List.map enc b.t))])])=true∧(∃ y1:Bool,AV.pv (Zf (fun(x:Lin×Unit)=>Zj x.1) [(.agg [(.int .i64 b.k),(.sl 2 false (List.map enc b.t))])])=AV.pv (enc y1)∧(if (!y1)=true then G ((.tup [(.agg [(.int .i64 0),(.sl 0 true [])]),(.int .i64 1)]))else((Ui [(.ptr 0 0),(.pv (.agg [(.int .i64 a.k),(.sl 2 false (List.map enc a.t))])),(.pv (.int .i64 1))] [(.box [(.pv (.int .i64 0)),(.map 1)]),(.map [])])=true∧((Ui [(.ptr 0 0),(.pv (.agg [(.int .i64 b.k),(.sl 2 false (List.map enc b.t))])),(.pv (.int .i64 k))] [(.box [(.pv (.int .i64 (Ym (0+Ym (1*Lin.k (dec (PV.agg [enc a.k,enc a.t]))))))),(.map 1)]),(.map (Zn (YK 1 (Lin.t (dec (PV.agg [enc a.k,enc a.t]))) (Vm []))))])=true∧((Xr [(.ptr 0 0)] [(.box [(.pv (.int .i64 (Ym (Ym (0+Ym (1*Lin.k (dec (PV.agg [enc a.k,enc a.t]))))+Ym (k*Lin.k (dec (PV.agg [enc b.k,enc b.t]))))))),(.map 1)]),(.map (Zn (YK k (Lin.t (dec (PV.agg [enc b.k,enc b.t]))) (Vm (Zn (YK 1 (Lin.t (dec (PV.agg [enc a.k,enc a.t]))) (Vm [])))))))])=true∧(G ((.tup [(.agg [(.int .i64 (Lin.k (Prod.fst (BA (Ym (Ym (0+Ym (1*Lin.k (dec (PV.agg [enc a.k,enc a.t]))))+Ym (k*Lin.k (dec (PV.agg [enc b.k,enc b.t]))))) (Vm (Zn (YK k (Lin.t (dec (PV.agg [enc b.k,enc b.t]))) (Vm (Zn (YK 1 (Lin.t (dec (PV.agg [enc a.k,enc a.t]))) (Vm []))))))))))),(.sl 2 false (List.map enc (Lin.t (Prod.fst (BA (Ym (Ym (0+Ym (1*Lin.k (dec (PV.agg [enc a.k,enc a.t]))))+Ym (k*Lin.k (dec (PV.agg [enc b.k,enc b.t]))))) (Vm (Zn (YK k (Lin.t (dec (PV.agg [enc b.k,enc b.t]))) (Vm (Zn (YK 1 (Lin.t (dec (PV.agg [enc a.k,enc a.t]))) (Vm []))))))))))))]),(.int .i64 (Prod.snd (BA (Ym (Ym (0+Ym (1*Lin.k (dec (PV.agg [enc a.k,enc a.t]))))+Ym (k*Lin.k (dec (PV.agg [enc b.k,enc b.t]))))) (Vm (Zn (YK k (Lin.t (dec (PV.agg [enc b.k,enc b.t]))) (Vm (Zn (YK 1 (Lin.t (dec (PV.agg [enc a.k,enc a.t]))) (Vm []))))))))))])))))))))))):Zc HZ 0 (Za KG G) KT [] (Z9 28 [enc a,enc b,enc k]):=Zc.tp (.req (.abs (Bool) (fun YY=>AV.pv (enc YY)) (.ask (.lit (.lit (.lit (.lit (.nil))))) (.lit (.req (.abs (Bool) (fun YY=>AV.pv (enc YY)) (.lit (.lit (.ask (.nil) (.req (.keep (.req (.keep (.req (.keep (.nil)))))))))))))))) h (by kernel_rfl)
def CP:IC:=(.seq (.reg [⟨(some 2),(.box 2 (.t 0)),0,none⟩,⟨(some 3),(.box 2 (.t 1)),1,none⟩,⟨(some 4),(.alloc (.agg [(.int .i64 0),(.sl 0 true [])])),2,none⟩,⟨(some 5),(.mv (.c (.int .i64 0))),3,none⟩] none) (.seq (.reg [⟨(some 6),(.load true [(.int .i64),(.sl 2)] (.t 2)),0,none⟩,⟨(some 7),(.load true [(.int .i64),(.sl 2)] (.t 3)),0,none⟩,⟨(some 8),(.call (.c (.fn 111)) [(.t 6),(.t 7),(.c (.int .i64 1))]),0,none⟩,⟨(some 9),(.extract (.t 8) 0),2,none⟩,⟨(some 10),(.extract (.t 8) 1),2,none⟩,⟨none,(.store 2 (.t 4) (.t 9)),2,none⟩,⟨(some 5),(.mv (.t 10)),2,none⟩] none) .ret))
def CQ:List IRes:=[(.cell true 2 4),(.tmp 5)]
abbrev a3j:Nat:=11
def SA:ZH:=XI [(111,.pure (preT (fun x:Lin×Lin×Int×Unit=>Zx x.1&&Zx x.2.1)) (Zf (fun x:Lin×Lin×Int×Unit=>Yg x.1 x.2.1 x.2.2.1)))]
theorem b3i{G:PV->Prop}(a b:Lin)(h:(Go.Pl.preT (fun(x:Lin×Lin×Int×Unit)=>Zx x.1&&Zx x.2.1) [(.agg [(.int .i64 a.k),(.sl 2 false (List.map enc a.t))]),(.agg [(.int .i64 b.k),(.sl 2 false (List.map enc b.t))]),(.int .i64 1)])=true∧(∃ y0:Lin×Int,AV.pv (Zf (fun(x:Lin×Lin×Int×Unit)=>Yg x.1 x.2.1 x.2.2.1) [(.agg [(.int .i64 a.k),(.sl 2 false (List.map enc a.t))]),(.agg [(.int .i64 b.k),(.sl 2 false (List.map enc b.t))]),(.int .i64 1)])=AV.pv (enc y0)∧(G ((.tup [(.agg [(.int .i64 y0.1.k),(.sl 2 false (List.map enc y0.1.t))]),(.int .i64 y0.2)]))))):Zc SA 0 (Za CQ G) CP [] (Z9 11 [enc a,enc b]):=Zc.tp (.req (.abs (Lin×Int) (fun YY=>AV.pv (enc YY)) (.nil))) h (by kernel_rfl)
def H8:IC:=(.seq (.reg [⟨(some 2),(.box 2 (.t 0)),0,none⟩,⟨(some 4),(.alloc (.agg [(.int .i64 0),(.sl 0 true [])])),1,none⟩,⟨(some 5),(.mv (.c (.int .i64 0))),2,none⟩] none) (.seq (.reg [⟨(some 6),(.build [(.int .i64 0),(.sl 0 true [])] []),0,none⟩,⟨(some 7),(.load true [(.int .i64),(.sl 2)] (.t 2)),0,none⟩,⟨(some 8),(.mv (.t 1)),0,none⟩,⟨(some 9),(.mm false (.t 8) (.c (.int .i64 1000001))),0,none⟩,⟨(some 10),(.mm true (.c (.int .i64 (-1000001))) (.t 9)),0,none⟩,⟨(some 11),(.call (.c (.fn 111)) [(.t 6),(.t 7),(.t 10)]),0,none⟩,⟨(some 12),(.extract (.t 11) 0),2,none⟩,⟨(some 13),(.extract (.t 11) 1),2,none⟩,⟨none,(.store 2 (.t 4) (.t 12)),2,none⟩,⟨(some 5),(.mv (.t 13)),2,none⟩] none) .ret))
def H6:List IRes:=[(.cell true 2 4),(.tmp 5)]
abbrev Es:Nat:=14
def DV:ZH:=XI [(111,.pure (preT (fun x:Lin×Lin×Int×Unit=>Zx x.1&&Zx x.2.1)) (Zf (fun x:Lin×Lin×Int×Unit=>Yg x.1 x.2.1 x.2.2.1)))]
theorem a2l{G:PV->Prop}(a:Lin)(k:Int)(h:(Go.Pl.preT (fun(x:Lin×Lin×Int×Unit)=>Zx x.1&&Zx x.2.1) [(.agg [(.int .i64 0),(.sl 0 true [])]),(.agg [(.int .i64 a.k),(.sl 2 false (List.map enc a.t))]),(.int .i64 (if true=true then if (if false=true then if 1000001>k then 1000001 else k else if 1000001<k then 1000001 else k)>(-1000001:Int)then if false=true then if 1000001>k then 1000001 else k else if 1000001<k then 1000001 else k else(-1000001:Int)else if (if false=true then if 1000001>k then 1000001 else k else if 1000001<k then 1000001 else k)<(-1000001:Int)then if false=true then if 1000001>k then 1000001 else k else if 1000001<k then 1000001 else k else(-1000001:Int)))])=true∧(∃ y0:Lin×Int,AV.pv (Zf (fun(x:Lin×Lin×Int×Unit)=>Yg x.1 x.2.1 x.2.2.1) [(.agg [(.int .i64 0),(.sl 0 true [])]),(.agg [(.int .i64 a.k),(.sl 2 false (List.map enc a.t))]),(.int .i64 (if true=true then if (if false=true then if 1000001>k then 1000001 else k else if 1000001<k then 1000001 else k)>(-1000001:Int)then if false=true then if 1000001>k then 1000001 else k else if 1000001<k then 1000001 else k else(-1000001:Int)else if (if false=true then if 1000001>k then 1000001 else k else if 1000001<k then 1000001 else k)<(-1000001:Int)then if false=true then if 1000001>k then 1000001 else k else if 1000001<k then 1000001 else k else(-1000001:Int)))])=AV.pv (enc y0)∧(G ((.tup [(.agg [(.int .i64 y0.1.k),(.sl 2 false (List.map enc y0.1.t))]),(.int .i64 y0.2)]))))):Zc DV 0 (Za H6 G) H8 [] (Z9 14 [enc a,enc k]):=Zc.tp (.req (.abs (Lin×Int) (fun YY=>AV.pv (enc YY)) (.nil))) h (by kernel_rfl)
def Ht:IC:=(.seq (.reg [⟨(some 1),(.box 2 (.t 0)),0,none⟩,⟨(some 2),(.alloc (.agg [(.int .i64 0),(.sl 0 true [])])),1,none⟩,⟨(some 3),(.mv (.c (.int .i64 0))),2,none⟩] none) (.seq (.reg [⟨(some 7),(.load true [(.int .i64),(.sl 2)] (.t 1)),0,none⟩,⟨(some 8),(.call (.c (.fn 41)) [(.t 7),(.c (.int .i64 (-1)))]),0,none⟩,⟨(some 6),(.mv (.t 8)),2,none⟩,⟨(some 9),(.extract (.t 6) 0),2,none⟩,⟨(some 10),(.extract (.t 6) 1),2,none⟩,⟨(some 4),(.alloc (.agg [(.int .i64 0),(.sl 0 true [])])),2,none⟩,⟨none,(.store 2 (.t 4) (.t 9)),3,none⟩,⟨(some 5),(.mv (.t 10)),3,none⟩] none) (.seq (.seq (.reg [⟨(some 11),(.mv (.t 5)),0,none⟩,⟨(some 12),(.bin .num .neq (.t 11) (.c (.int .i64 0))),0,none⟩] none) (.cond (.t 12) (.seq (.reg [⟨(some 13),(.build [(.int .i64 0),(.sl 0 true [])] []),0,none⟩,⟨(some 14),(.mv (.t 5)),0,none⟩,⟨none,(.store 2 (.t 2) (.t 13)),0,none⟩,⟨(some 3),(.mv (.t 14)),0,none⟩] none) .ret) .skip)) (.seq (.reg [⟨(some 15),(.load true [(.int .i64),(.sl 2)] (.t 4)),0,none⟩,⟨(some 16),(.call (.c (.fn 237)) [(.c (.int .i64 (-1)))]),0,none⟩,⟨(some 17),(.call (.c (.fn 39)) [(.t 15),(.t 16)]),2,none⟩,⟨(some 18),(.extract (.t 17) 0),4,none⟩,⟨(some 19),(.extract (.t 17) 1),4,none⟩,⟨none,(.store 2 (.t 2) (.t 18)),4,none⟩,⟨(some 3),(.mv (.t 19)),4,none⟩] (some [[],[],[0,1],[2,0,1],[2,0,1],[3,2,0,1,4],[4,5,0,1,2,3]])) .ret))))
def Ha:List IRes:=[(.cell true 2 2),(.tmp 3)]
abbrev a0t:Nat:=20
def Co:ZH:=XI [(41,.pure (preT (fun x:Lin×Int×Unit=>Zx x.1)) (Zf (fun x:Lin×Int×Unit=>WG x.1 x.2.1))),(39,.pure (preT (fun x:Lin×Lin×Unit=>Zx x.1&&Zx x.2.1)) (Zf (fun x:Lin×Lin×Unit=>Yg x.1 x.2.1 1))),(237,.pure (preT (fun _:Int×Unit=>true)) (Zf (fun x:Int×Unit=>(⟨x.1,[]⟩:Lin))))]
theorem a8b{G:PV->Prop}(g:Lin)(h:(Go.Pl.preT (fun(x:Lin×Int×Unit)=>Zx x.1) [(.agg [(.int .i64 g.k),(.sl 2 false (List.map enc g.t))]),(.int .i64 (-1))])=true∧(∃ y0:Lin×Int,AV.pv (Zf (fun(x:Lin×Int×Unit)=>WG x.1 x.2.1) [(.agg [(.int .i64 g.k),(.sl 2 false (List.map enc g.t))]),(.int .i64 (-1))])=AV.pv (enc y0)∧(if (y0.2 != 0)=true then G ((.tup [(.agg [(.int .i64 0),(.sl 0 true [])]),(.int .i64 y0.2)]))else(∃ y1:Lin,AV.pv (Zf (fun(x:Int×Unit)=>Lin.mk x.1 []) [(.int .i64 (-1))])=AV.pv (enc y1)∧((Go.Pl.preT (fun(x:Lin×Lin×Unit)=>Zx x.1&&Zx x.2.1) [(.agg [(.int .i64 y0.1.k),(.sl 2 false (List.map enc y0.1.t))]),(.agg [(.int .i64 y1.k),(.sl 2 false (List.map enc y1.t))])])=true∧(∃ y2:Lin×Int,AV.pv (Zf (fun(x:Lin×Lin×Unit)=>Yg x.1 x.2.1 1) [(.agg [(.int .i64 y0.1.k),(.sl 2 false (List.map enc y0.1.t))]),(.agg [(.int .i64 y1.k),(.sl 2 false (List.map enc y1.t))])])=AV.pv (enc y2)∧(G ((.tup [(.agg [(.int .i64 y2.1.k),(.sl 2 false (List.map enc y2.1.t))]),(.int .i64 y2.2)]))))))))):Zc Co 0 (Za Ha G) Ht [] (Z9 20 [enc g]):=Zc.tp (.req (.abs (Lin×Int) (fun YY=>AV.pv (enc YY)) (.lit (.ask (.nil) (.lit (.abs (Lin) (fun YY=>AV.pv (enc YY)) (.req (.abs (Lin×Int) (fun YY=>AV.pv (enc YY)) (.nil))))))))) h (by kernel_rfl)
def SH:IC:=(.seq (.reg [⟨(some 2),(.box 2 (.t 0)),0,none⟩,⟨(some 3),(.mv (.c (.sl 0 true []))),1,none⟩] none) (.seq (.reg [⟨(some 4),(.load false [(.sl 3)] (.t 1)),0,none⟩,⟨(some 5),(.load false [(.sl 3)] (.t 1)),0,none⟩,⟨(some 6),(.len 1 (.t 5)),0,none⟩,⟨(some 7),(.load false [(.sl 3)] (.t 1)),0,none⟩,⟨(some 8),(.len 1 (.t 7)),0,none⟩,⟨(some 9),(.slc 3 (.t 4) none (some (.t 6)) (some (.t 8))),0,none⟩,⟨(some 10),(.load true [(.int .i64),(.sl 2)] (.t 2)),0,none⟩,⟨(some 11),(.build [(.bool false),(.int .i64 0),(.sl 0 true [])] [(1,(2,(.t 10)))]),0,none⟩,⟨(some 12),(.bslice 100 3 1 (.agg [(.bool false),(.int .i64 0),(.sl 0 true [])]) [(0,(.t 11))]),0,none⟩,⟨(some 13),(.append 100 3 40 (.t 9) (.t 12)),1,none⟩,⟨(some 3),(.mv (.t 13)),2,none⟩] (some [[],[],[1],[],[3],[0,2,4,1,3],[],[6],[7,6],[5,8,0,2,4,1,3,7,6],[9,0,1,2,3,4,5,6,7,8]])) .ret))
def SS:List IRes:=[(.tmp 3)]
abbrev b1d:Nat:=14
def Lr:ZH:=XI []
theorem b7j{G:AV×List AObj×List AObj->Prop}(l:Lin)(fs:List Fact)(h:(true&&decide (0<=(↑(List.length (List.map enc fs)):Int))&&decide (0<=(↑(List.length (List.map enc fs)):Int))&&(List.isEmpty (List.map enc fs)||Enc.sz Fact==3)&&decide (0<=Int.toNat (↑(List.length (List.map enc fs)):Int))&&decide (Int.toNat (↑(List.length (List.map enc fs)):Int)<=Int.toNat (↑(List.length (List.map enc fs)):Int))&&decide (Int.toNat (↑(List.length (List.map enc fs)):Int)<=List.length (List.map enc fs)))=true∧((decide (Int.toNat (↑(List.length (List.map enc fs)):Int)=Int.toNat (↑(List.length (List.map enc fs)):Int)))=true∧(((List.isEmpty (List.drop 0 (List.take (Int.toNat (↑(List.length (List.map enc fs)):Int)) (List.map enc fs)))||Enc.sz Fact==3)&&decide ((List.length (List.drop 0 (List.take (Int.toNat (↑(List.length (List.map enc fs)):Int)) (List.map enc fs)))+List.length (List.drop 0 (List.take 1 [PV.agg [PV.bool false,enc l.k,enc l.t]])))*40<=1099511627776)&&decide (List.length (List.drop 0 (List.take (Int.toNat (↑(List.length (List.map enc fs)):Int)) (List.map enc fs)))+List.length (List.drop 0 (List.take 1 [PV.agg [PV.bool false,enc l.k,enc l.t]]))<=1099511627776))=true∧(G (((.row 1 (List.length (List.drop 0 (List.take (Int.toNat (↑(List.length (List.map enc fs)):Int)) (List.map enc fs)))+List.length (List.drop 0 (List.take 1 [PV.agg [PV.bool false,enc l.k,enc l.t]]))) 0 (List.length (List.drop 0 (List.take (Int.toNat (↑(List.length (List.map enc fs)):Int)) (List.map enc fs)))+List.length (List.drop 0 (List.take 1 [PV.agg [PV.bool false,enc l.k,enc l.t]])))),([(.box [(.pv (.sl 3 false (List.map enc fs)))])],[(.row false 100 3 (List.drop 0 (List.take (Int.toNat (↑(List.length (List.map enc fs)):Int)) (List.map enc fs))++List.drop 0 (List.take 1 [PV.agg [PV.bool false,enc l.k,enc l.t]])))]))))))):Zc Lr 1 (Zr 1 SS G) SH [] (Uh 14 [.pv (enc l),.ptr 0 0] [.box [.pv (enc fs)]]):=Zc.to (.req (.lit (.lit (.req (.lit (.req (.nil))))))) h (by kernel_rfl)
def Db:IC:=(.seq (.reg [⟨(some 2),(.box 1 (.t 0)),0,none⟩,⟨(some 3),(.box 5 (.t 1)),1,none⟩,⟨(some 4),(.mv (.c (.bool false))),2,none⟩] none) (.seq (.reg [⟨(some 13),(.mkfn 171 [] [(.t 2)]),0,none⟩,⟨(some 5),(.mv (.t 13)),0,none⟩] none) (.seq (.seq (.reg [⟨(some 14),(.faddr 0 (.t 3)),0,none⟩,⟨(some 15),(.load false [(.int .i64)] (.t 14)),0,none⟩] none) (.block 0 (.seq (.reg [⟨(some 17),(.bin .num .eql (.t 15) (.c (.int .i64 1))),0,none⟩,⟨(some 16),(.mv (.t 17)),0,none⟩] none) (.cond (.t 16) (.seq (.reg [⟨(some 19),(.load false [(.sl 3)] (.t 2)),0,none⟩,⟨(some 20),(.faddr 1 (.t 3)),0,none⟩,⟨(some 21),(.load false [(.sl 1)] (.t 20)),0,none⟩,⟨(some 22),(.call (.c (.fn 158)) [(.t 19),(.t 21)]),0,none⟩,⟨(some 18),(.mv (.t 22)),2,none⟩,⟨(some 23),(.extract (.t 18) 0),2,none⟩,⟨(some 24),(.extract (.t 18) 1),2,none⟩,⟨(some 25),(.extract (.t 18) 2),2,none⟩,⟨(some 6),(.mv (.t 23)),2,none⟩,⟨(some 7),(.mv (.t 24)),2,none⟩,⟨(some 8),(.mv (.t 25)),2,none⟩] none) (.seq (.reg [⟨(some 26),(.load true [(.int .i64),(.sl 1),(.int .i64),(.sl 2),(.sl 5)] (.t 3)),0,none⟩,⟨(some 27),(.call (.c (.fn 172)) [(.t 26),(.c (.int .i64 0)),(.c (.bool true))]),0,none⟩,⟨(some 28),(.mv (.t 27)),2,none⟩,⟨(some 29),(.mv (.t 8)),2,(some (28,true))⟩,⟨(some 30),(.pick (.t 28) (.t 29) (.c (.bool false))),2,none⟩,⟨(some 31),(.mv (.t 30)),2,none⟩,⟨(some 32),(.mv (.t 7)),2,(some (31,true))⟩,⟨(some 33),(.len 2 (.t 32)),2,(some (31,true))⟩,⟨(some 34),(.bin .num .eql (.t 33) (.c (.int .i64 0))),2,(some (31,true))⟩,⟨(some 35),(.pick (.t 31) (.t 34) (.c (.bool false))),2,none⟩,⟨(some 36),(.mv (.t 35)),2,none⟩,⟨(some 37),(.mv (.t 6)),2,(some (36,true))⟩,⟨(some 38),(.bin .num .lss (.t 37) (.c (.int .i64 0))),2,(some (36,true))⟩,⟨(some 39),(.pick (.t 36) (.t 38) (.c (.bool false))),2,none⟩,⟨(some 4),(.mv (.t 39)),2,none⟩] none) .ret)) (.seq (.reg [⟨(some 41),(.bin .num .eql (.t 15) (.c (.int .i64 2))),0,none⟩,⟨(some 40),(.mv (.t 41)),0,none⟩] none) (.cond (.t 40) (.seq (.seq (.reg [⟨(some 42),(.load true [(.int .i64),(.sl 1),(.int .i64),(.sl 2),(.sl 5)] (.t 3)),0,none⟩,⟨(some 43),(.call (.c (.fn 172)) [(.t 42),(.c (.int .i64 1)),(.c (.bool true))]),0,none⟩,⟨(some 44),(.un .not (.t 43)),2,none⟩] none) (.cond (.t 44) (.seq (.reg [⟨(some 4),(.mv (.c (.bool false))),0,none⟩] none) .ret) .skip)) (.seq (.reg [⟨(some 46),(.load false [(.sl 3)] (.t 2)),0,none⟩,⟨(some 47),(.faddr 1 (.t 3)),0,none⟩,⟨(some 48),(.load false [(.sl 1)] (.t 47)),0,none⟩,⟨(some 49),(.call (.c (.fn 93)) [(.t 46),(.t 48)]),0,none⟩,⟨(some 45),(.mv (.t 49)),2,none⟩,⟨(some 50),(.extract (.t 45) 0),2,none⟩,⟨(some 51),(.extract (.t 45) 1),2,none⟩,⟨(some 9),(.alloc (.agg [(.int .i64 0),(.sl 0 true [])])),2,none⟩,⟨none,(.store 2 (.t 9) (.t 50)),3,none⟩,⟨(some 10),(.mv (.t 51)),3,none⟩] none) (.seq (.reg [⟨(some 52),(.mv (.t 10)),0,none⟩,⟨(some 53),(.bin .num .eql (.t 52) (.c (.int .i64 0))),0,none⟩,⟨(some 54),(.mv (.t 53)),0,none⟩,⟨(some 55),(.mv (.t 5)),0,(some (54,true))⟩,⟨(some 56),(.load true [(.int .i64),(.sl 2)] (.t 9)),0,(some (54,true))⟩,⟨(some 57),(.call (.t 55) [(.t 56)]),0,(some (54,true))⟩,⟨(some 58),(.faddr 4 (.t 3)),2,(some (54,true))⟩,⟨(some 59),(.load false [(.sl 5)] (.t 58)),2,(some (54,true))⟩,⟨(some 60),(.iaddr 5 (.t 59) (.c (.int .i64 0))),2,(some (54,true))⟩,⟨(some 61),(.load true [(.int .i64),(.sl 1),(.int .i64),(.sl 2),(.sl 5)] (.t 60)),2,(some (54,true))⟩,⟨(some 62),(.call (.c (.fn 108)) [(.t 57),(.t 61)]),2,(some (54,true))⟩,⟨(some 63),(.pick (.t 54) (.t 62) (.c (.bool false))),4,none⟩,⟨(some 4),(.mv (.t 63)),4,none⟩] (some [[],[0],[1,0],[2,1,0],[2,1,0],[3,4,2,1,0],[2,1,0],[6,2,1,0],[7,2,6,1,0],[8,2,7,6,1,0],[5,9,2,3,4,1,0,8,7,6],[2,10,1,0,5,9,3,4,8,7,6],[11,10,0,1,2,3,4,5,6,7,8,9]])) .ret))) (.seq (.reg [⟨(some 65),(.bin .num .eql (.t 15) (.c (.int .i64 3))),0,none⟩,⟨(some 64),(.mv (.t 65)),0,none⟩] none) (.cond (.t 64) (.seq (.seq (.reg [⟨(some 66),(.load true [(.int .i64),(.sl 1),(.int .i64),(.sl 2),(.sl 5)] (.t 3)),0,none⟩,⟨(some 67),(.call (.c (.fn 172)) [(.t 66),(.c (.int .i64 2)),(.c (.bool false))]),0,none⟩,⟨(some 68),(.un .not (.t 67)),2,none⟩] none) (.cond (.t 68) (.seq (.reg [⟨(some 4),(.mv (.c (.bool false))),0,none⟩] none) .ret) .skip)) (.seq (.reg [⟨(some 70),(.faddr 2 (.t 3)),0,none⟩,⟨(some 71),(.load true [(.int .i64),(.sl 2)] (.t 70)),0,none⟩,⟨(some 72),(.call (.c (.fn 173)) [(.t 71)]),0,none⟩,⟨(some 69),(.mv (.t 72)),2,none⟩,⟨(some 73),(.extract (.t 69) 0),2,none⟩,⟨(some 74),(.extract (.t 69) 1),2,none⟩,⟨(some 11),(.alloc (.agg [(.int .i64 0),(.sl 0 true [])])),2,none⟩,⟨none,(.store 2 (.t 11) (.t 73)),3,none⟩,⟨(some 12),(.mv (.t 74)),3,none⟩] none) (.seq (.reg [⟨(some 75),(.mv (.t 12)),0,none⟩,⟨(some 76),(.bin .num .eql (.t 75) (.c (.int .i64 0))),0,none⟩,⟨(some 77),(.mv (.t 76)),0,none⟩,⟨(some 78),(.mv (.t 5)),0,(some (77,true))⟩,⟨(some 79),(.faddr 2 (.t 3)),0,(some (77,true))⟩,⟨(some 80),(.load true [(.int .i64),(.sl 2)] (.t 79)),0,(some (77,true))⟩,⟨(some 81),(.call (.t 78) [(.t 80)]),0,(some (77,true))⟩,⟨(some 82),(.faddr 4 (.t 3)),2,(some (77,true))⟩,⟨(some 83),(.load false [(.sl 5)] (.t 82)),2,(some (77,true))⟩,⟨(some 84),(.iaddr 5 (.t 83) (.c (.int .i64 0))),2,(some (77,true))⟩,⟨(some 85),(.load true [(.int .i64),(.sl 1),(.int .i64),(.sl 2),(.sl 5)] (.t 84)),2,(some (77,true))⟩,⟨(some 86),(.call (.c (.fn 108)) [(.t 81),(.t 85)]),2,(some (77,true))⟩,⟨(some 87),(.pick (.t 77) (.t 86) (.c (.bool false))),4,none⟩,⟨(some 88),(.mv (.t 87)),4,none⟩,⟨(some 89),(.mv (.t 5)),4,(some (88,true))⟩,⟨(some 90),(.load true [(.int .i64),(.sl 2)] (.t 11)),4,(some (88,true))⟩,⟨(some 91),(.call (.t 89) [(.t 90)]),4,(some (88,true))⟩,⟨(some 92),(.faddr 4 (.t 3)),6,(some (88,true))⟩,⟨(some 93),(.load false [(.sl 5)] (.t 92)),6,(some (88,true))⟩,⟨(some 94),(.iaddr 5 (.t 93) (.c (.int .i64 1))),6,(some (88,true))⟩,⟨(some 95),(.load true [(.int .i64),(.sl 1),(.int .i64),(.sl 2),(.sl 5)] (.t 94)),6,(some (88,true))⟩,⟨(some 96),(.call (.c (.fn 108)) [(.t 91),(.t 95)]),6,(some (88,true))⟩,⟨(some 97),(.pick (.t 88) (.t 96) (.c (.bool false))),8,none⟩,⟨(some 4),(.mv (.t 97)),8,none⟩] (some [[],[0],[1,0],[2,1,0],[2,1,0],[4,2,1,0],[3,5,2,1,0,4],[2,1,0],[7,2,1,0],[8,2,7,1,0],[9,2,8,7,1,0],[6,10,2,3,5,1,0,4,9,8,7],[2,11,1,0,6,10,3,5,4,9,8,7],[12,11,2,1,0,6,10,3,5,4,9,8,7],[13,12,11,2,1,0,6,10,3,5,4,9,8,7],[13,12,11,2,1,0,6,10,3,5,4,9,8,7],[14,15,13,12,11,2,1,0,6,10,3,5,4,9,8,7],[13,12,11,2,1,0,6,10,3,5,4,9,8,7],[17,13,12,11,2,1,0,6,10,3,5,4,9,8,7],[18,13,17,12,11,2,1,0,6,10,3,5,4,9,8,7],[19,13,18,17,12,11,2,1,0,6,10,3,5,4,9,8,7],[16,20,13,14,15,12,11,2,1,0,6,10,3,5,4,9,8,7,19,18,17],[13,21,12,11,2,1,0,6,10,3,5,4,9,8,7,16,20,14,15,19,18,17],[22,21,0,1,2,3,4,5,6,7,8,9,10,11,12,13,14,15,16,17,18,19,20]])) .ret))) .skip)))))))) (.seq (.reg [⟨(some 4),(.mv (.c (.bool false))),0,none⟩] none) .ret))))
def Sg:List IRes:=[(.tmp 4)]
abbrev b2u:Nat:=98
def NB(N:Nat):ZH:=XI [(108,.pure (preT (fun x:List Fact×Cert×Unit=>Zi x.1&&Zq x.1&&Vu x.2.1&&decide (x.1.length+Zt x.2.1<=300)&&decide (Zt x.2.1<N))) (Zf (fun x:List Fact×Cert×Unit=>YC x.1 x.2.1))),(171,.own YU QK),(158,.own Xj WO),(172,.pure (preT (fun _:Cert×Int×Bool×Unit=>true)) (Zf (fun x:Cert×Int×Bool×Unit=>Z4 x.1 x.2.1 x.2.2.1))),(93,.pure (preT (fun x:List Fact×List Int×Unit=>Zi x.1&&decide (x.1.length<=300))) (Zf (fun x:List Fact×List Int×Unit=>Yj x.1 x.2.1))),(173,.pure (preT (fun x:Lin×Unit=>Zx x.1)) (Zf (fun x:Lin×Unit=>X8 x.1)))]
theorem b6c{G:PV->Prop}(N:Nat)(fs:List Fact)(k:Int)(m:List Int)(l:Lin)(ks:List Cert)(h:if (k==1)=true then(Xj [(.pv (.sl 3 false (List.map enc fs))),(.pv (.sl 1 false (List.map enc m)))] [])=true∧((Go.Pl.preT (fun(x:Cert×Int×Bool×Unit)=>true) [(.agg [(.int .i64 k),(.sl 1 false (List.map enc m)),(.int .i64 l.k),(.sl 2 false (List.map enc l.t)),(.sl 5 false (List.map enc ks))]),(.int .i64 0),(.bool true)])=true∧(∃ y0:Bool,AV.pv (Zf (fun(x:Cert×Int×Bool×Unit)=>Z4 x.1 x.2.1 x.2.2.1) [(.agg [(.int .i64 k),(.sl 1 false (List.map enc m)),(.int .i64 l.k),(.sl 2 false (List.map enc l.t)),(.sl 5 false (List.map enc ks))]),(.int .i64 0),(.bool true)])=AV.pv (enc y0)∧(if (y0)=true then if ((↑(List.length (Zn (Uf (Prod.snd (UD (enc fs) (enc m)))))):Int)==0)=true then G ((.bool (decide (Prod.fst (UD (enc fs) (enc m))<0))))else(G ((.bool false)))else(G ((.bool false))))))else(if (k==2)=true then(Go.Pl.preT (fun(x:Cert×Int×Bool×Unit)=>true) [(.agg [(.int .i64 k),(.sl 1 false (List.map enc m)),(.int .i64 l.k),(.sl 2 false (List.map enc l.t)),(.sl 5 false (List.map enc ks))]),(.int .i64 1),(.bool true)])=true∧(∃ y1:Bool,AV.pv (Zf (fun(x:Cert×Int×Bool×Unit)=>Z4 x.1 x.2.1 x.2.2.1) [(.agg [(.int .i64 k),(.sl 1 false (List.map enc m)),(.int .i64 l.k),(.sl 2 false (List.map enc l.t)),(.sl 5 false (List.map enc ks))]),(.int .i64 1),(.bool true)])=AV.pv (enc y1)∧(if (!y1)=true then G ((.bool false))else((Go.Pl.preT (fun(x:List Fact×List Int×Unit)=>Zi x.1&&decide (List.length x.1<=300)) [(.sl 3 false (List.map enc fs)),(.sl 1 false (List.map enc m))])=true∧(∃ y2:Lin×Int,AV.pv (Zf (fun(x:List Fact×List Int×Unit)=>Yj x.1 x.2.1) [(.sl 3 false (List.map enc fs)),(.sl 1 false (List.map enc m))])=AV.pv (enc y2)∧(if (y2.2==0)=true then(YU [(.pv (.agg [(.int .i64 y2.1.k),(.sl 2 false (List.map enc y2.1.t))])),(.ptr 0 0)] [(.box [(.pv (.sl 3 false (List.map enc fs)))])])=true∧((decide (0<=0)&&decide (Int.toNat 0<List.length (List.map enc ks))&&Enc.sz Cert==5)=true∧(∃ y3:Cert,AV.pv (PV.rptr (PV.cells (List.getD (List.map enc ks) (Int.toNat 0) default)))=AV.pv (PV.rptr (PV.cells ((enc) y3)))∧((decide (0+List.length [Sh.int .i64,Sh.sl 1,Sh.int .i64,Sh.sl 2,Sh.sl 5]<=List.length (PV.cells (enc y3)))&&Yk (PV.cells (enc y3)) 0 [Sh.int .i64,Sh.sl 1,Sh.int .i64,Sh.sl 2,Sh.sl 5])=true∧((List.length (List.map enc (ZU (enc fs) (PV.agg [enc y2.1.k,enc y2.1.t])))==List.length (ZU (enc fs) (PV.agg [enc y2.1.k,enc y2.1.t])))=true∧((Go.Pl.preT (fun(x:List Fact×Cert×Unit)=>Zi x.1&&Zq x.1&&Vu x.2.1&&decide (List.length x.1+Zt x.2.1<=300)&&decide (Zt x.2.1<N)) [(.sl 3 false (List.drop 0 (List.take (List.length (ZU (enc fs) (PV.agg [enc y2.1.k,enc y2.1.t]))) (List.map enc (ZU (enc fs) (PV.agg [enc y2.1.k,enc y2.1.t])))))),(.agg [(.int .i64 (PV.asInt (List.getD (PV.cells (enc y3)) 0 default))),(.sl 1 (PV.asT (List.getD (PV.cells (enc y3)) (0+1) default)) (PV.asXs (List.getD (PV.cells (enc y3)) (0+1) default))),(.int .i64 (PV.asInt (List.getD (PV.cells (enc y3)) (0+1+1) default))),(.sl 2 (PV.asT (List.getD (PV.cells (enc y3)) (0+1+1+1) default)) (PV.asXs (List.getD (PV.cells (enc y3)) (0+1+1+1) default))),(.sl 5 (PV.asT (List.getD (PV.cells (enc y3)) (0+1+1+1+1) default)) (PV.asXs (List.getD (PV.cells (enc y3)) (0+1+1+1+1) default)))])])=true∧(∃ y4:Bool,AV.pv (Zf (fun(x:List Fact×Cert×Unit)=>YC x.1 x.2.1) [(.sl 3 false (List.drop 0 (List.take (List.length (ZU (enc fs) (PV.agg [enc y2.1.k,enc y2.1.t]))) (List.map enc (ZU (enc fs) (PV.agg [enc y2.1.k,enc y2.1.t])))))),(.agg [(.int .i64 (PV.asInt (List.getD (PV.cells (enc y3)) 0 default))),(.sl 1 (PV.asT (List.getD (PV.cells (enc y3)) (0+1) default)) (PV.asXs (List.getD (PV.cells (enc y3)) (0+1) default))),(.int .i64 (PV.asInt (List.getD (PV.cells (enc y3)) (0+1+1) default))),(.sl 2 (PV.asT (List.getD (PV.cells (enc y3)) (0+1+1+1) default)) (PV.asXs (List.getD (PV.cells (enc y3)) (0+1+1+1) default))),(.sl 5 (PV.asT (List.getD (PV.cells (enc y3)) (0+1+1+1+1) default)) (PV.asXs (List.getD (PV.cells (enc y3)) (0+1+1+1+1) default)))])])=AV.pv (enc y4)∧(G ((.bool y4)))))))))else(G ((.bool false))))))))else(if (k==3)=true then(Go.Pl.preT (fun(x:Cert×Int×Bool×Unit)=>true) [(.agg [(.int .i64 k),(.sl 1 false (List.map enc m)),(.int .i64 l.k),(.sl 2 false (List.map enc l.t)),(.sl 5 false (List.map enc ks))]),(.int .i64 2),(.bool false)])=true∧(∃ y5:Bool,AV.pv (Zf (fun(x:Cert×Int×Bool×Unit)=>Z4 x.1 x.2.1 x.2.2.1) [(.agg [(.int .i64 k),(.sl 1 false (List.map enc m)),(.int .i64 l.k),(.sl 2 false (List.map enc l.t)),(.sl 5 false (List.map enc ks))]),(.int .i64 2),(.bool false)])=AV.pv (enc y5)∧(if (!y5)=true then G ((.bool false))else((Go.Pl.preT (fun(x:Lin×Unit)=>Zx x.1) [(.agg [(.int .i64 l.k),(.sl 2 false (List.map enc l.t))])])=true∧(∃ y6:Lin×Int,AV.pv (Zf (fun(x:Lin×Unit)=>X8 x.1) [(.agg [(.int .i64 l.k),(.sl 2 false (List.map enc l.t))])])=AV.pv (enc y6)∧(if (y6.2==0)=true then(YU [(.pv (.agg [(.int .i64 l.k),(.sl 2 false (List.map enc l.t))])),(.ptr 0 0)] [(.box [(.pv (.sl 3 false (List.map enc fs)))])])=true∧((decide (0<=0)&&decide (Int.toNat 0<List.length (List.map enc ks))&&Enc.sz Cert==5)=true∧(∃ y7:Cert,AV.pv (PV.rptr (PV.cells (List.getD (List.map enc ks) (Int.toNat 0) default)))=AV.pv (PV.rptr (PV.cells ((enc) y7)))∧((decide (0+List.length [Sh.int .i64,Sh.sl 1,Sh.int .i64,Sh.sl 2,Sh.sl 5]<=List.length (PV.cells (enc y7)))&&Yk (PV.cells (enc y7)) 0 [Sh.int .i64,Sh.sl 1,Sh.int .i64,Sh.sl 2,Sh.sl 5])=true∧((List.length (List.map enc (ZU (enc fs) (PV.agg [enc l.k,enc l.t])))==List.length (ZU (enc fs) (PV.agg [enc l.k,enc l.t])))=true∧((Go.Pl.preT (fun(x:List Fact×Cert×Unit)=>Zi x.1&&Zq x.1&&Vu x.2.1&&decide (List.length x.1+Zt x.2.1<=300)&&decide (Zt x.2.1<N)) [(.sl 3 false (List.drop 0 (List.take (List.length (ZU (enc fs) (PV.agg [enc l.k,enc l.t]))) (List.map enc (ZU (enc fs) (PV.agg [enc l.k,enc l.t])))))),(.agg [(.int .i64 (PV.asInt (List.getD (PV.cells (enc y7)) 0 default))),(.sl 1 (PV.asT (List.getD (PV.cells (enc y7)) (0+1) default)) (PV.asXs (List.getD (PV.cells (enc y7)) (0+1) default))),(.int .i64 (PV.asInt (List.getD (PV.cells (enc y7)) (0+1+1) default))),(.sl 2 (PV.asT (List.getD (PV.cells (enc y7)) (0+1+1+1) default)) (PV.asXs (List.getD (PV.cells (enc y7)) (0+1+1+1) default))),(.sl 5 (PV.asT (List.getD (PV.cells (enc y7)) (0+1+1+1+1) default)) (PV.asXs (List.getD (PV.cells (enc y7)) (0+1+1+1+1) default)))])])=true∧(∃ y8:Bool,AV.pv (Zf (fun(x:List Fact×Cert×Unit)=>YC x.1 x.2.1) [(.sl 3 false (List.drop 0 (List.take (List.length (ZU (enc fs) (PV.agg [enc l.k,enc l.t]))) (List.map enc (ZU (enc fs) (PV.agg [enc l.k,enc l.t])))))),(.agg [(.int .i64 (PV.asInt (List.getD (PV.cells (enc y7)) 0 default))),(.sl 1 (PV.asT (List.getD (PV.cells (enc y7)) (0+1) default)) (PV.asXs (List.getD (PV.cells (enc y7)) (0+1) default))),(.int .i64 (PV.asInt (List.getD (PV.cells (enc y7)) (0+1+1) default))),(.sl 2 (PV.asT (List.getD (PV.cells (enc y7)) (0+1+1+1) default)) (PV.asXs (List.getD (PV.cells (enc y7)) (0+1+1+1) default))),(.sl 5 (PV.asT (List.getD (PV.cells (enc y7)) (0+1+1+1+1) default)) (PV.asXs (List.getD (PV.cells (enc y7)) (0+1+1+1+1) default)))])])=AV.pv (enc y8)∧(if (y8)=true then(YU [(.pv (.agg [(.int .i64 y6.1.k),(.sl 2 false (List.map enc y6.1.t))])),(.ptr 0 0)] [(.box [(.pv (.sl 3 false (List.map enc fs)))])])=true∧((decide (0<=1)&&decide (Int.toNat 1<List.length (List.map enc ks))&&Enc.sz Cert==5)=true∧(∃ y9:Cert,AV.pv (PV.rptr (PV.cells (List.getD (List.map enc ks) (Int.toNat 1) default)))=AV.pv (PV.rptr (PV.cells ((enc) y9)))∧((decide (0+List.length [Sh.int .i64,Sh.sl 1,Sh.int .i64,Sh.sl 2,Sh.sl 5]<=List.length (PV.cells (enc y9)))&&Yk (PV.cells (enc y9)) 0 [Sh.int .i64,Sh.sl 1,Sh.int .i64,Sh.sl 2,Sh.sl 5])=true∧((List.length (List.map enc (ZU (enc fs) (PV.agg [enc y6.1.k,enc y6.1.t])))==List.length (ZU (enc fs) (PV.agg [enc y6.1.k,enc y6.1.t])))=true∧((Go.Pl.preT (fun(x:List Fact×Cert×Unit)=>Zi x.1&&Zq x.1&&Vu x.2.1&&decide (List.length x.1+Zt x.2.1<=300)&&decide (Zt x.2.1<N)) [(.sl 3 false (List.drop 0 (List.take (List.length (ZU (enc fs) (PV.agg [enc y6.1.k,enc y6.1.t]))) (List.map enc (ZU (enc fs) (PV.agg [enc y6.1.k,enc y6.1.t])))))),(.agg [(.int .i64 (PV.asInt (List.getD (PV.cells (enc y9)) 0 default))),(.sl 1 (PV.asT (List.getD (PV.cells (enc y9)) (0+1) default)) (PV.asXs (List.getD (PV.cells (enc y9)) (0+1) default))),(.int .i64 (PV.asInt (List.getD (PV.cells (enc y9)) (0+1+1) default))),(.sl 2 (PV.asT (List.getD (PV.cells (enc y9)) (0+1+1+1) default)) (PV.asXs (List.getD (PV.cells (enc y9)) (0+1+1+1) default))),(.sl 5 (PV.asT (List.getD (PV.cells (enc y9)) (0+1+1+1+1) default)) (PV.asXs (List.getD (PV.cells (enc y9)) (0+1+1+1+1) default)))])])=true∧(∃ y10:Bool,AV.pv (Zf (fun(x:List Fact×Cert×Unit)=>YC x.1 x.2.1) [(.sl 3 false (List.drop 0 (List.take (List.length (ZU (enc fs) (PV.agg [enc y6.1.k,enc y6.1.t]))) (List.map enc (ZU (enc fs) (PV.agg [enc y6.1.k,enc y6.1.t])))))),(.agg [(.int .i64 (PV.asInt (List.getD (PV.cells (enc y9)) 0 default))),(.sl 1 (PV.asT (List.getD (PV.cells (enc y9)) (0+1) default)) (PV.asXs (List.getD (PV.cells (enc y9)) (0+1) default))),(.int .i64 (PV.asInt (List.getD (PV.cells (enc y9)) (0+1+1) default))),(.sl 2 (PV.asT (List.getD (PV.cells (enc y9)) (0+1+1+1) default)) (PV.asXs (List.getD (PV.cells (enc y9)) (0+1+1+1) default))),(.sl 5 (PV.asT (List.getD (PV.cells (enc y9)) (0+1+1+1+1) default)) (PV.asXs (List.getD (PV.cells (enc y9)) (0+1+1+1+1) default)))])])=AV.pv (enc y10)∧(G ((.bool y10)))))))))else(G ((.bool false))))))))))else(G ((.bool false))))))))else(G ((.bool false)))))):Zc (NB N) 0 (Za Sg G) Db [] (Z9 98 [enc fs,.agg [enc k,enc m,enc l.k,enc l.t,enc ks]]):=Zc.tp (.lit (.ask (.req (.keep (.req (.abs (Bool) (fun YY=>AV.pv (enc YY)) (.ask (.lit (.lit (.lit (.lit (.lit (.lit (.ask (.lit (.lit (.lit (.nil)))) (.lit (.lit (.nil)))))))))) (.lit (.lit (.lit (.lit (.lit (.lit (.lit (.lit (.nil)))))))))))))) (.lit (.ask (.req (.abs (Bool) (fun YY=>AV.pv (enc YY)) (.ask (.nil) (.req (.abs (Lin×Int) (fun YY=>AV.pv (enc YY)) (.lit (.ask (.lit (.lit (.req (.keep (.lit (.lit (.lit (.req (.abs (Cert) (fun YY=>AV.pv (PV.rptr (PV.cells ((enc) YY)))) (.lit (.req (.lit (.req (.req (.abs (Bool) (fun YY=>AV.pv (enc YY)) (.lit (.nil))))))))))))))))) (.lit (.lit (.lit (.lit (.lit (.lit (.lit (.lit (.nil)))))))))))))))) (.lit (.ask (.req (.abs (Bool) (fun YY=>AV.pv (enc YY)) (.ask (.nil) (.req (.abs (Lin×Int) (fun YY=>AV.pv (enc YY)) (.lit (.ask (.lit (.lit (.lit (.req (.keep (.lit (.lit (.lit (.req (.abs (Cert) (fun YY=>AV.pv (PV.rptr (PV.cells ((enc) YY)))) (.lit (.req (.lit (.req (.req (.abs (Bool) (fun YY=>AV.pv (enc YY)) (.lit (.ask (.lit (.lit (.req (.keep (.lit (.lit (.lit (.req (.abs (Cert) (fun YY=>AV.pv (PV.rptr (PV.cells ((enc) YY)))) (.lit (.req (.lit (.req (.req (.abs (Bool) (fun YY=>AV.pv (enc YY)) (.lit (.nil))))))))))))))))) (.lit (.lit (.lit (.lit (.lit (.lit (.lit (.lit (.nil))))))))))))))))))))))))))) (.lit (.lit (.lit (.lit (.lit (.lit (.lit (.lit (.lit (.lit (.lit (.lit (.lit (.lit (.lit (.lit (.lit (.lit (.nil)))))))))))))))))))))))))) (.nil))))))) h (by kernel_rfl)
def Tz:IC:=Db
def SY:List IRes:=[(.tmp 4)]
abbrev b0y:Nat:=98
def MU(N:Nat):ZH:=XI [(108,.pure (preT (fun x:List Fact×Cert×Unit=>Zi x.1&&Zq x.1&&Vu x.2.1&&decide (x.1.length+Zt x.2.1<=300)&&decide (Zt x.2.1<N))) (Zf (fun x:List Fact×Cert×Unit=>YC x.1 x.2.1))),(171,.own YU QK),(158,.own XV Vy),(172,.pure (preT (fun _:Cert×Int×Bool×Unit=>true)) (Zf (fun x:Cert×Int×Bool×Unit=>Z4 x.1 x.2.1 x.2.2.1))),(93,.pure (preT (fun x:List Fact×List Int×Unit=>Zi x.1&&decide (x.1.length<=300))) (Zf (fun x:List Fact×List Int×Unit=>Yj x.1 x.2.1))),(173,.pure (preT (fun x:Lin×Unit=>Zx x.1)) (Zf (fun x:Lin×Unit=>X8 x.1)))]
theorem b7x{G:PV->Prop}(N:Nat)(fs:List Fact)(k:Int)(m:List Int)(l:Lin)(ks:List Cert)(h:if (k==1)=true then(XV [(.pv (.sl 3 false (List.map enc fs))),(.pv (.sl 1 false (List.map enc m)))] [])=true∧((Go.Pl.preT (fun(x:Cert×Int×Bool×Unit)=>true) [(.agg [(.int .i64 k),(.sl 1 false (List.map enc m)),(.int .i64 l.k),(.sl 2 false (List.map enc l.t)),(.sl 5 false (List.map enc ks))]),(.int .i64 0),(.bool true)])=true∧(∃ y0:Bool,AV.pv (Zf (fun(x:Cert×Int×Bool×Unit)=>Z4 x.1 x.2.1 x.2.2.1) [(.agg [(.int .i64 k),(.sl 1 false (List.map enc m)),(.int .i64 l.k),(.sl 2 false (List.map enc l.t)),(.sl 5 false (List.map enc ks))]),(.int .i64 0),(.bool true)])=AV.pv (enc y0)∧(if (y0)=true then G ((.bool false))else(G ((.bool false))))))else(if (k==2)=true then(Go.Pl.preT (fun(x:Cert×Int×Bool×Unit)=>true) [(.agg [(.int .i64 k),(.sl 1 false (List.map enc m)),(.int .i64 l.k),(.sl 2 false (List.map enc l.t)),(.sl 5 false (List.map enc ks))]),(.int .i64 1),(.bool true)])=true∧(∃ y1:Bool,AV.pv (Zf (fun(x:Cert×Int×Bool×Unit)=>Z4 x.1 x.2.1 x.2.2.1) [(.agg [(.int .i64 k),(.sl 1 false (List.map enc m)),(.int .i64 l.k),(.sl 2 false (List.map enc l.t)),(.sl 5 false (List.map enc ks))]),(.int .i64 1),(.bool true)])=AV.pv (enc y1)∧(if (!y1)=true then G ((.bool false))else((Go.Pl.preT (fun(x:List Fact×List Int×Unit)=>Zi x.1&&decide (List.length x.1<=300)) [(.sl 3 false (List.map enc fs)),(.sl 1 false (List.map enc m))])=true∧(∃ y2:Lin×Int,AV.pv (Zf (fun(x:List Fact×List Int×Unit)=>Yj x.1 x.2.1) [(.sl 3 false (List.map enc fs)),(.sl 1 false (List.map enc m))])=AV.pv (enc y2)∧(if (y2.2==0)=true then(YU [(.pv (.agg [(.int .i64 y2.1.k),(.sl 2 false (List.map enc y2.1.t))])),(.ptr 0 0)] [(.box [(.pv (.sl 3 false (List.map enc fs)))])])=true∧((decide (0<=0)&&decide (Int.toNat 0<List.length (List.map enc ks))&&Enc.sz Cert==5)=true∧(∃ y3:Cert,AV.pv (PV.rptr (PV.cells (List.getD (List.map enc ks) (Int.toNat 0) default)))=AV.pv (PV.rptr (PV.cells ((enc) y3)))∧((decide (0+List.length [Sh.int .i64,Sh.sl 1,Sh.int .i64,Sh.sl 2,Sh.sl 5]<=List.length (PV.cells (enc y3)))&&Yk (PV.cells (enc y3)) 0 [Sh.int .i64,Sh.sl 1,Sh.int .i64,Sh.sl 2,Sh.sl 5])=true∧((List.length (List.map enc (ZU (enc fs) (PV.agg [enc y2.1.k,enc y2.1.t])))==List.length (ZU (enc fs) (PV.agg [enc y2.1.k,enc y2.1.t])))=true∧((Go.Pl.preT (fun(x:List Fact×Cert×Unit)=>Zi x.1&&Zq x.1&&Vu x.2.1&&decide (List.length x.1+Zt x.2.1<=300)&&decide (Zt x.2.1<N)) [(.sl 3 false (List.drop 0 (List.take (List.length (ZU (enc fs) (PV.agg [enc y2.1.k,enc y2.1.t]))) (List.map enc (ZU (enc fs) (PV.agg [enc y2.1.k,enc y2.1.t])))))),(.agg [(.int .i64 (PV.asInt (List.getD (PV.cells (enc y3)) 0 default))),(.sl 1 (PV.asT (List.getD (PV.cells (enc y3)) (0+1) default)) (PV.asXs (List.getD (PV.cells (enc y3)) (0+1) default))),(.int .i64 (PV.asInt (List.getD (PV.cells (enc y3)) (0+1+1) default))),(.sl 2 (PV.asT (List.getD (PV.cells (enc y3)) (0+1+1+1) default)) (PV.asXs (List.getD (PV.cells (enc y3)) (0+1+1+1) default))),(.sl 5 (PV.asT (List.getD (PV.cells (enc y3)) (0+1+1+1+1) default)) (PV.asXs (List.getD (PV.cells (enc y3)) (0+1+1+1+1) default)))])])=true∧(∃ y4:Bool,AV.pv (Zf (fun(x:List Fact×Cert×Unit)=>YC x.1 x.2.1) [(.sl 3 false (List.drop 0 (List.take (List.length (ZU (enc fs) (PV.agg [enc y2.1.k,enc y2.1.t]))) (List.map enc (ZU (enc fs) (PV.agg [enc y2.1.k,enc y2.1.t])))))),(.agg [(.int .i64 (PV.asInt (List.getD (PV.cells (enc y3)) 0 default))),(.sl 1 (PV.asT (List.getD (PV.cells (enc y3)) (0+1) default)) (PV.asXs (List.getD (PV.cells (enc y3)) (0+1) default))),(.int .i64 (PV.asInt (List.getD (PV.cells (enc y3)) (0+1+1) default))),(.sl 2 (PV.asT (List.getD (PV.cells (enc y3)) (0+1+1+1) default)) (PV.asXs (List.getD (PV.cells (enc y3)) (0+1+1+1) default))),(.sl 5 (PV.asT (List.getD (PV.cells (enc y3)) (0+1+1+1+1) default)) (PV.asXs (List.getD (PV.cells (enc y3)) (0+1+1+1+1) default)))])])=AV.pv (enc y4)∧(G ((.bool y4)))))))))else(G ((.bool false))))))))else(if (k==3)=true then(Go.Pl.preT (fun(x:Cert×Int×Bool×Unit)=>true) [(.agg [(.int .i64 k),(.sl 1 false (List.map enc m)),(.int .i64 l.k),(.sl 2 false (List.map enc l.t)),(.sl 5 false (List.map enc ks))]),(.int .i64 2),(.bool false)])=true∧(∃ y5:Bool,AV.pv (Zf (fun(x:Cert×Int×Bool×Unit)=>Z4 x.1 x.2.1 x.2.2.1) [(.agg [(.int .i64 k),(.sl 1 false (List.map enc m)),(.int .i64 l.k),(.sl 2 false (List.map enc l.t)),(.sl 5 false (List.map enc ks))]),(.int .i64 2),(.bool false)])=AV.pv (enc y5)∧(if (!y5)=true then G ((.bool false))else((Go.Pl.preT (fun(x:Lin×Unit)=>Zx x.1) [(.agg [(.int .i64 l.k),(.sl 2 false (List.map enc l.t))])])=true∧(∃ y6:Lin×Int,AV.pv (Zf (fun(x:Lin×Unit)=>X8 x.1) [(.agg [(.int .i64 l.k),(.sl 2 false (List.map enc l.t))])])=AV.pv (enc y6)∧(if (y6.2==0)=true then(YU [(.pv (.agg [(.int .i64 l.k),(.sl 2 false (List.map enc l.t))])),(.ptr 0 0)] [(.box [(.pv (.sl 3 false (List.map enc fs)))])])=true∧((decide (0<=0)&&decide (Int.toNat 0<List.length (List.map enc ks))&&Enc.sz Cert==5)=true∧(∃ y7:Cert,AV.pv (PV.rptr (PV.cells (List.getD (List.map enc ks) (Int.toNat 0) default)))=AV.pv (PV.rptr (PV.cells ((enc) y7)))∧((decide (0+List.length [Sh.int .i64,Sh.sl 1,Sh.int .i64,Sh.sl 2,Sh.sl 5]<=List.length (PV.cells (enc y7)))&&Yk (PV.cells (enc y7)) 0 [Sh.int .i64,Sh.sl 1,Sh.int .i64,Sh.sl 2,Sh.sl 5])=true∧((List.length (List.map enc (ZU (enc fs) (PV.agg [enc l.k,enc l.t])))==List.length (ZU (enc fs) (PV.agg [enc l.k,enc l.t])))=true∧((Go.Pl.preT (fun(x:List Fact×Cert×Unit)=>Zi x.1&&Zq x.1&&Vu x.2.1&&decide (List.length x.1+Zt x.2.1<=300)&&decide (Zt x.2.1<N)) [(.sl 3 false (List.drop 0 (List.take (List.length (ZU (enc fs) (PV.agg [enc l.k,enc l.t]))) (List.map enc (ZU (enc fs) (PV.agg [enc l.k,enc l.t])))))),(.agg [(.int .i64 (PV.asInt (List.getD (PV.cells (enc y7)) 0 default))),(.sl 1 (PV.asT (List.getD (PV.cells (enc y7)) (0+1) default)) (PV.asXs (List.getD (PV.cells (enc y7)) (0+1) default))),(.int .i64 (PV.asInt (List.getD (PV.cells (enc y7)) (0+1+1) default))),(.sl 2 (PV.asT (List.getD (PV.cells (enc y7)) (0+1+1+1) default)) (PV.asXs (List.getD (PV.cells (enc y7)) (0+1+1+1) default))),(.sl 5 (PV.asT (List.getD (PV.cells (enc y7)) (0+1+1+1+1) default)) (PV.asXs (List.getD (PV.cells (enc y7)) (0+1+1+1+1) default)))])])=true∧(∃ y8:Bool,AV.pv (Zf (fun(x:List Fact×Cert×Unit)=>YC x.1 x.2.1) [(.sl 3 false (List.drop 0 (List.take (List.length (ZU (enc fs) (PV.agg [enc l.k,enc l.t]))) (List.map enc (ZU (enc fs) (PV.agg [enc l.k,enc l.t])))))),(.agg [(.int .i64 (PV.asInt (List.getD (PV.cells (enc y7)) 0 default))),(.sl 1 (PV.asT (List.getD (PV.cells (enc y7)) (0+1) default)) (PV.asXs (List.getD (PV.cells (enc y7)) (0+1) default))),(.int .i64 (PV.asInt (List.getD (PV.cells (enc y7)) (0+1+1) default))),(.sl 2 (PV.asT (List.getD (PV.cells (enc y7)) (0+1+1+1) default)) (PV.asXs (List.getD (PV.cells (enc y7)) (0+1+1+1) default))),(.sl 5 (PV.asT (List.getD (PV.cells (enc y7)) (0+1+1+1+1) default)) (PV.asXs (List.getD (PV.cells (enc y7)) (0+1+1+1+1) default)))])])=AV.pv (enc y8)∧(if (y8)=true then(YU [(.pv (.agg [(.int .i64 y6.1.k),(.sl 2 false (List.map enc y6.1.t))])),(.ptr 0 0)] [(.box [(.pv (.sl 3 false (List.map enc fs)))])])=true∧((decide (0<=1)&&decide (Int.toNat 1<List.length (List.map enc ks))&&Enc.sz Cert==5)=true∧(∃ y9:Cert,AV.pv (PV.rptr (PV.cells (List.getD (List.map enc ks) (Int.toNat 1) default)))=AV.pv (PV.rptr (PV.cells ((enc) y9)))∧((decide (0+List.length [Sh.int .i64,Sh.sl 1,Sh.int .i64,Sh.sl 2,Sh.sl 5]<=List.length (PV.cells (enc y9)))&&Yk (PV.cells (enc y9)) 0 [Sh.int .i64,Sh.sl 1,Sh.int .i64,Sh.sl 2,Sh.sl 5])=true∧((List.length (List.map enc (ZU (enc fs) (PV.agg [enc y6.1.k,enc y6.1.t])))==List.length (ZU (enc fs) (PV.agg [enc y6.1.k,enc y6.1.t])))=true∧((Go.Pl.preT (fun(x:List Fact×Cert×Unit)=>Zi x.1&&Zq x.1&&Vu x.2.1&&decide (List.length x.1+Zt x.2.1<=300)&&decide (Zt x.2.1<N)) [(.sl 3 false (List.drop 0 (List.take (List.length (ZU (enc fs) (PV.agg [enc y6.1.k,enc y6.1.t]))) (List.map enc (ZU (enc fs) (PV.agg [enc y6.1.k,enc y6.1.t])))))),(.agg [(.int .i64 (PV.asInt (List.getD (PV.cells (enc y9)) 0 default))),(.sl 1 (PV.asT (List.getD (PV.cells (enc y9)) (0+1) default)) (PV.asXs (List.getD (PV.cells (enc y9)) (0+1) default))),(.int .i64 (PV.asInt (List.getD (PV.cells (enc y9)) (0+1+1) default))),(.sl 2 (PV.asT (List.getD (PV.cells (enc y9)) (0+1+1+1) default)) (PV.asXs (List.getD (PV.cells (enc y9)) (0+1+1+1) default))),(.sl 5 (PV.asT (List.getD (PV.cells (enc y9)) (0+1+1+1+1) default)) (PV.asXs (List.getD (PV.cells (enc y9)) (0+1+1+1+1) default)))])])=true∧(∃ y10:Bool,AV.pv (Zf (fun(x:List Fact×Cert×Unit)=>YC x.1 x.2.1) [(.sl 3 false (List.drop 0 (List.take (List.length (ZU (enc fs) (PV.agg [enc y6.1.k,enc y6.1.t]))) (List.map enc (ZU (enc fs) (PV.agg [enc y6.1.k,enc y6.1.t])))))),(.agg [(.int .i64 (PV.asInt (List.getD (PV.cells (enc y9)) 0 default))),(.sl 1 (PV.asT (List.getD (PV.cells (enc y9)) (0+1) default)) (PV.asXs (List.getD (PV.cells (enc y9)) (0+1) default))),(.int .i64 (PV.asInt (List.getD (PV.cells (enc y9)) (0+1+1) default))),(.sl 2 (PV.asT (List.getD (PV.cells (enc y9)) (0+1+1+1) default)) (PV.asXs (List.getD (PV.cells (enc y9)) (0+1+1+1) default))),(.sl 5 (PV.asT (List.getD (PV.cells (enc y9)) (0+1+1+1+1) default)) (PV.asXs (List.getD (PV.cells (enc y9)) (0+1+1+1+1) default)))])])=AV.pv (enc y10)∧(G ((.bool y10)))))))))else(G ((.bool false))))))))))else(G ((.bool false))))))))else(G ((.bool false)))))):Zc (MU N) 0 (Za SY G) Tz [] (Z9 98 [enc fs,.agg [enc k,enc m,enc l.k,enc l.t,enc ks]]):=Zc.tp (.lit (.ask (.req (.keep (.req (.abs (Bool) (fun YY=>AV.pv (enc YY)) (.ask (.lit (.lit (.lit (.lit (.lit (.lit (.lit (.lit (.nil))))))))) (.lit (.lit (.lit (.lit (.lit (.lit (.lit (.lit (.nil)))))))))))))) (.lit (.ask (.req (.abs (Bool) (fun YY=>AV.pv (enc YY)) (.ask (.nil) (.req (.abs (Lin×Int) (fun YY=>AV.pv (enc YY)) (.lit (.ask (.lit (.lit (.req (.keep (.lit (.lit (.lit (.req (.abs (Cert) (fun YY=>AV.pv (PV.rptr (PV.cells ((enc) YY)))) (.lit (.req (.lit (.req (.req (.abs (Bool) (fun YY=>AV.pv (enc YY)) (.lit (.nil))))))))))))))))) (.lit (.lit (.lit (.lit (.lit (.lit (.lit (.lit (.nil)))))))))))))))) (.lit (.ask (.req (.abs (Bool) (fun YY=>AV.pv (enc YY)) (.ask (.nil) (.req (.abs (Lin×Int) (fun YY=>AV.pv (enc YY)) (.lit (.ask (.lit (.lit (.lit (.req (.keep (.lit (.lit (.lit (.req (.abs (Cert) (fun YY=>AV.pv (PV.rptr (PV.cells ((enc) YY)))) (.lit (.req (.lit (.req (.req (.abs (Bool) (fun YY=>AV.pv (enc YY)) (.lit (.ask (.lit (.lit (.req (.keep (.lit (.lit (.lit (.req (.abs (Cert) (fun YY=>AV.pv (PV.rptr (PV.cells ((enc) YY)))) (.lit (.req (.lit (.req (.req (.abs (Bool) (fun YY=>AV.pv (enc YY)) (.lit (.nil))))))))))))))))) (.lit (.lit (.lit (.lit (.lit (.lit (.lit (.lit (.nil))))))))))))))))))))))))))) (.lit (.lit (.lit (.lit (.lit (.lit (.lit (.lit (.lit (.lit (.lit (.lit (.lit (.lit (.lit (.lit (.lit (.lit (.nil)))))))))))))))))))))))))) (.nil))))))) h (by kernel_rfl)
def D8:IC:=(.seq (.reg [⟨(some 3),(.box 5 (.t 1)),0,none⟩,⟨(some 4),(.mv (.c (.int .i64 0))),1,none⟩] none) (.seq (.block 0 (.seq (.reg [⟨(some 6),(.mv (.t 0)),0,none⟩,⟨(some 7),(.call (.c (.fn 95)) [(.t 6)]),0,none⟩,⟨(some 8),(.un .not (.t 7)),2,none⟩,⟨(some 5),(.mv (.t 8)),2,none⟩] none) (.cond (.t 5) (.seq (.reg [⟨(some 4),(.mv (.c (.int .i64 1))),0,none⟩] none) .ret) (.seq (.reg [⟨(some 10),(.mv (.t 0)),0,none⟩,⟨(some 11),(.len 1 (.t 10)),0,none⟩,⟨(some 12),(.bin .num .gtr (.t 11) (.c (.int .i64 100))),0,none⟩,⟨(some 13),(.mv (.t 12)),0,none⟩,⟨(some 14),(.load true [(.int .i64),(.sl 1),(.int .i64),(.sl 2),(.sl 5)] (.t 3)),0,(some (13,false))⟩,⟨(some 15),(.call (.c (.fn 94)) [(.t 14)]),0,(some (13,false))⟩,⟨(some 16),(.bin .num .gtr (.t 15) (.c (.int .i64 1000))),2,(some (13,false))⟩,⟨(some 17),(.pick (.t 13) (.c (.bool true)) (.t 16)),2,none⟩,⟨(some 9),(.mv (.t 17)),2,none⟩] none) (.cond (.t 9) (.seq (.reg [⟨(some 4),(.mv (.c (.int .i64 3))),0,none⟩] none) .ret) (.seq (.reg [⟨(some 19),(.mv (.t 0)),0,none⟩,⟨(some 20),(.load true [(.int .i64),(.sl 1),(.int .i64),(.sl 2),(.sl 5)] (.t 3)),0,none⟩,⟨(some 21),(.call (.c (.fn 108)) [(.t 19),(.t 20)]),0,none⟩,⟨(some 22),(.un .not (.t 21)),2,none⟩,⟨(some 18),(.mv (.t 22)),2,none⟩] none) (.cond (.t 18) (.seq (.reg [⟨(some 4),(.mv (.c (.int .i64 18))),0,none⟩] none) .ret) .skip))))))) (.seq (.reg [⟨(some 4),(.mv (.c (.int .i64 0))),0,none⟩] none) .ret)))
def Cx:List IRes:=[(.tmp 4)]
abbrev a4l:Nat:=23
def Tm:ZH:=XI [(95,.pure (preT (fun x:List Fact×Unit=>Zi x.1)) (Zf (fun x:List Fact×Unit=>Zq x.1))),(94,.pure (preT (fun x:Cert×Unit=>UA x.1)) (Zf (fun x:Cert×Unit=>Z7 x.1))),(108,.pure (preT (fun x:List Fact×Cert×Unit=>Zi x.1&&Zq x.1&&Vu x.2.1&&decide (x.1.length+Zt x.2.1<=300))) (Zf (fun x:List Fact×Cert×Unit=>YC x.1 x.2.1)))]
theorem b3x{G:PV->Prop}(fs:List Fact)(k:Int)(m:List Int)(l:Lin)(ks:List Cert)(h:(Go.Pl.preT (fun(x:List Fact×Unit)=>Zi x.1) [(.sl 3 false (List.map enc fs))])=true∧(∃ y0:Bool,AV.pv (Zf (fun(x:List Fact×Unit)=>Zq x.1) [(.sl 3 false (List.map enc fs))])=AV.pv (enc y0)∧(if (!y0)=true then G ((.int .i64 1))else(if (decide ((↑(List.length (List.map enc fs)):Int)>100))=true then G ((.int .i64 3))else((Go.Pl.preT (fun(x:Cert×Unit)=>UA x.1) [(.agg [(.int .i64 k),(.sl 1 false (List.map enc m)),(.int .i64 l.k),(.sl 2 false (List.map enc l.t)),(.sl 5 false (List.map enc ks))])])=true∧(∃ y1:Int,AV.pv (Zf (fun(x:Cert×Unit)=>Z7 x.1) [(.agg [(.int .i64 k),(.sl 1 false (List.map enc m)),(.int .i64 l.k),(.sl 2 false (List.map enc l.t)),(.sl 5 false (List.map enc ks))])])=AV.pv (enc y1)∧(if (decide (y1>1000))=true then G ((.int .i64 3))else((Go.Pl.preT (fun(x:List Fact×Cert×Unit)=>Zi x.1&&Zq x.1&&Vu x.2.1&&decide (List.length x.1+Zt x.2.1<=300)) [(.sl 3 false (List.map enc fs)),(.agg [(.int .i64 k),(.sl 1 false (List.map enc m)),(.int .i64 l.k),(.sl 2 false (List.map enc l.t)),(.sl 5 false (List.map enc ks))])])=true∧(∃ y2:Bool,AV.pv (Zf (fun(x:List Fact×Cert×Unit)=>YC x.1 x.2.1) [(.sl 3 false (List.map enc fs)),(.agg [(.int .i64 k),(.sl 1 false (List.map enc m)),(.int .i64 l.k),(.sl 2 false (List.map enc l.t)),(.sl 5 false (List.map enc ks))])])=AV.pv (enc y2)∧(if (!y2)=true then G ((.int .i64 18))else(G ((.int .i64 0))))))))))))):Zc Tm 0 (Za Cx G) D8 [] (Z9 23 [enc fs,.agg [enc k,enc m,enc l.k,enc l.t,enc ks]]):=Zc.tp (.req (.abs (Bool) (fun YY=>AV.pv (enc YY)) (.ask (.nil) (.lit (.ask (.lit (.lit (.lit (.lit (.nil))))) (.lit (.req (.abs (Int) (fun YY=>AV.pv (enc YY)) (.lit (.lit (.lit (.ask (.nil) (.req (.abs (Bool) (fun YY=>AV.pv (enc YY)) (.ask (.nil) (.nil)))))))))))))))) h (by kernel_rfl)
end Go.Pl

namespace Go.Pl
open Go.RowKit
open Enc (enc dec is)
open EncL (encL decL isL)
theorem a9x(k:Int){a b:Lin}(ha:Zj a=true)(hb:Zj b=true):LJ (YK k b.t (YK 1 a.t []))=true:=by
 have h1:=Vz ha
 have h2:=Vz hb
 have h3:=Jd k b.t (YK 1 a.t [])
 have h4:=Jd 1 a.t []
 simp only[LJ,Bool.and_eq_true,decide_eq_true_eq,List.all_eq_true]
 have hz:([]:List (Str×Int)).length=0:=rfl
 refine⟨by omega,fun x hx=> ?_⟩
 rcases Kj _ _ _ _ hx with hx|⟨t,ht,rfl⟩
 ·rcases Kj _ _ _ _ hx with hx|⟨t,ht,rfl⟩
  ·cases hx
  ·have:=JN (Qi ha ht).1;omega
 ·have:=JN (Qi hb ht).1;omega
theorem Lf(a:Lin):(dec (PV.agg [enc a.k,enc a.t]):Lin)=a:=Enc.dec_enc a
theorem RX: ∀ a:Lin×Lin×Int×Unit,(Zx a.1&&Zx a.2.1)=true->Zc HZ 0 (Za KG (Zv (Yg a.1 a.2.1 a.2.2.1))) KT [] (Z9 M0 (encL a)):=by
 rintro⟨a,b,k,⟨⟩⟩ h
 simp only[Bool.and_eq_true]at h
 refine a1g a b k ⟨Zd (a,()) rfl h.1,Ze (a,()) rfl (Y4 (fun ha=> ?_) fun ha=>⟨Zd (b,()) rfl h.2,Ze (b,()) rfl (Y4 (fun hb=> ?_) fun hb=> ?_)⟩)⟩
 ·have ha:Zj a=false:=ha
  simp only[Yg,ha]
  exact⟨rfl,rfl⟩
 ·have ha:Zj a=true:=ha
  have hb:Zj b=false:=hb
  simp only[Yg,ha,hb]
  exact⟨rfl,rfl⟩
 have ha:Zj a=true:=ha
 have hb:Zj b=true:=hb
 have h1:=Vz ha
 have h2:=Vz hb
 have e0:Vm []=[]:=rfl
 simp only[Lf,UL,e0]
 have c1:can Lin (PV.agg [PV.int .i64 a.k,PV.sl 2 false (List.map enc a.t)])=true:=Qp a
 have c2:can Lin (PV.agg [PV.int .i64 b.k,PV.sl 2 false (List.map enc b.t)])=true:=Qp b
 have d1:(dec (PV.agg [PV.int .i64 a.k,PV.sl 2 false (List.map enc a.t)]):Lin)=a:=Enc.dec_enc a
 have d2:(dec (PV.agg [PV.int .i64 b.k,PV.sl 2 false (List.map enc b.t)]):Lin)=b:=Enc.dec_enc b
 refine⟨?_,?_,?_,?_⟩
 ·simp only[Ui,c1,d1]
  simp[Lm];omega
 ·simp only[Ui,c2,d2,RF]
  simp;omega
 ·simp only[Xr,RF,UL,a9x k ha hb]
  rfl
 ·simp only[Yg,ha,hb,if_true]
  exact Ke rfl
theorem O5: ∀ a:Lin×Lin×Unit,(Zx a.1&&Zx a.2.1)=true->Zc SA 0 (Za CQ (Zv (Yg a.1 a.2.1 1))) CP [] (Z9 a3j (encL a)):=by
 rintro⟨a,b,⟨⟩⟩ h
 exact b3i a b ⟨Zd (a,b,1,()) rfl h,Ze (a,b,1,()) rfl (Ke rfl)⟩
theorem a2j(k:Int):(if true=true then if (if false=true then if 1000001>k then 1000001 else k else if 1000001<k then 1000001 else k)>(-1000001:Int)then if false=true then if 1000001>k then 1000001 else k else if 1000001<k then 1000001 else k else(-1000001:Int)else if (if false=true then if 1000001>k then 1000001 else k else if 1000001<k then 1000001 else k)<(-1000001:Int)then if false=true then if 1000001>k then 1000001 else k else if 1000001<k then 1000001 else k else(-1000001:Int))=max (-1000001) (min k 1000001):=by
 simp only[if_true,Bool.false_eq_true,if_false]
 by_cases h1:(1000001:Int)<k
 ·rw[if_pos h1,if_pos (by omega)];omega
 ·rw[if_neg h1]
  by_cases h2:k > -1000001
  ·rw[if_pos h2];omega
  ·rw[if_neg h2];omega
theorem Lx: ∀ a:Lin×Int×Unit,Zx a.1=true->Zc DV 0 (Za H6 (Zv (WG a.1 a.2.1))) H8 [] (Z9 Es (encL a)):=by
 rintro⟨a,k,⟨⟩⟩ h
 have h:Zx a=true:=h
 refine a2l a k ?_
 rw[a2j]
 have hz:Zx ⟨0,[]⟩=true:=rfl
 have ez:(PV.agg [PV.int .i64 0,PV.sl 0 true []])=PV.agg [PV.int .i64 0,PV.sl 0 true []]:=rfl
 refine⟨Si (a:=((⟨0,[]⟩:Lin),a,max (-1000001) (min k 1000001),())) ?_ ?_ (by show(Zx _&&Zx a)=true;rw[h,hz];rfl),CB ((⟨0,[]⟩:Lin),a,max (-1000001) (min k 1000001),()) ?_ (Ke rfl)⟩
 ·simp;exact .inr rfl
 ·exact congrArg (fun x=>((⟨0,[]⟩:Lin),x,max (-1000001) (min k 1000001),())) (Enc.dec_enc a)
 ·exact congrArg (fun x=>((⟨0,[]⟩:Lin),x,max (-1000001) (min k 1000001),())) (Enc.dec_enc a)
theorem LB: ∀ a:Lin×Unit,Zx a.1=true->Zc Co 0 (Za Ha (Zv (X8 a.1))) Ht [] (Z9 a0t (encL a)):=by
 rintro⟨g,⟨⟩⟩ h
 refine a8b g ⟨Zd (g,-1,()) rfl h,Ze (g,-1,()) rfl (b0b (fun h1=> ?_) fun h1=> ?_)⟩
 ·have h1:(WG g (-1)).2≠0:=by simpa using h1
  simp only[X8,if_neg h1]
  exact⟨rfl,rfl⟩
 ·have h1:(WG g (-1)).2=0:=by simpa using h1
  have hv:=(Jb h1).2.2
  refine Ze ((-1:Int),()) rfl ⟨Zd ((WG g (-1)).1,⟨-1,[]⟩,()) rfl ?_,Ze ((WG g (-1)).1,⟨-1,[]⟩,()) rfl (Ke ?_)⟩
  ·show(Zx (WG g (-1)).1&&Zx ⟨-1,[]⟩)=true
   rw[show Zx (WG g (-1)).1=true from PD hv];rfl
  ·simp only[X8,if_pos h1]
theorem Ao(fs:List Fact)(l:Lin):ZU (enc fs) (enc l)=ZM fs l:=by unfold ZU;rw[Enc.dec_enc,Enc.dec_enc]
theorem VE(fs:List Fact)(l:Lin):ZU (enc fs) (PV.agg [enc l.k,enc l.t])=ZM fs l:=Ao fs l
theorem a5p: ∀ args os,YU args os=true->Zc Lr os.length (Zr os.length SS fun r=>r=QK args os) SH [] (Uh b1d args os):=by
 intro args os h
 unfold YU at h
 split at h
 ·rename_i l fs
  simp only[Bool.and_eq_true,decide_eq_true_eq]at h
  obtain⟨⟨hl,hf⟩,h1⟩:=h
  obtain⟨l,rfl⟩:=HY hl
  obtain⟨fs,rfl⟩:=HY hf
  rw[Enc.dec_enc]at h1
  have ev:QK [.pv (enc l),.ptr 0 0] [.box [.pv (enc fs)]]=a7w (enc fs) (enc l):=rfl
  rw[ev]
  have e1:List.drop 0 (List.take (Int.toNat (fs.length:Int)) (List.map (enc:Fact->PV) fs))=fs.map enc:=by rw[List.drop_zero];exact List.take_of_length_le (by simp)
  have e2:List.drop 0 (List.take 1 [PV.agg [PV.bool false,enc l.k,enc l.t]])=[enc (⟨false,l⟩:Fact)]:=rfl
  refine b7j l fs ?_
  simp only[List.length_map,e1,e2]
  refine⟨by simp[Enc.sz],by simp,by simp[Enc.sz];omega,?_⟩
  simp only[a7w,Ao,ZM,List.length_append,List.length_map,List.map_append]
  rfl
 ·cases h
theorem U0(c:Cert):PV.agg [.int .i64 (PV.asInt (List.getD (PV.cells (enc c)) 0 default)),.sl 1 (PV.asT (List.getD (PV.cells (enc c)) (0+1) default)) (PV.asXs (List.getD (PV.cells (enc c)) (0+1) default)),.int .i64 (PV.asInt (List.getD (PV.cells (enc c)) (0+1+1) default)),.sl 2 (PV.asT (List.getD (PV.cells (enc c)) (0+1+1+1) default)) (PV.asXs (List.getD (PV.cells (enc c)) (0+1+1+1) default)),.sl 5 (PV.asT (List.getD (PV.cells (enc c)) (0+1+1+1+1) default)) (PV.asXs (List.getD (PV.cells (enc c)) (0+1+1+1+1) default))]=enc c:=by
 obtain⟨k,m,l,ks⟩:=c
 rw[Zp]
 rfl
theorem Vi(c:Cert):(decide (0+List.length [Sh.int .i64,Sh.sl 1,Sh.int .i64,Sh.sl 2,Sh.sl 5]<=List.length (PV.cells (enc c)))&&Yk (PV.cells (enc c)) 0 [Sh.int .i64,Sh.sl 1,Sh.int .i64,Sh.sl 2,Sh.sl 5])=true:=by
 obtain⟨k,m,l,ks⟩:=c
 rw[Zp]
 rfl
def TH(x:List Fact×Cert×Unit):Bool:=Zi x.1&&Zq x.1&&Vu x.2.1&&decide (x.1.length+Zt x.2.1<=300)
theorem a6i{fs:List Fact}(hv:Zq fs=true)(hn:fs.length<=1000):Zi fs=true:=by
 simp only[Zi,Bool.and_eq_true,decide_eq_true_eq,List.all_eq_true]
 simp only[Zq,List.all_eq_true]at hv
 exact⟨by omega,fun f hf=>PD (hv f hf)⟩
theorem Kb{N:Nat}{fs:List Fact}{l:Lin}{c:Cert}(hv:Zq fs=true)(hl:Zj l=true)(hc:Vu c=true)(hn:fs.length+1+Zt c<=300)(hN:Zt c<N):(Zi (ZM fs l)&&Zq (ZM fs l)&&Vu c&&decide ((ZM fs l).length+Zt c<=300)&&decide (Zt c<N))=true:=by
 have h1:Zq (ZM fs l)=true:=by simp only[Zq,ZM,List.all_append,List.all_cons,List.all_nil,hl,Bool.and_true,Bool.and_self];exact hv
 have h2:(ZM fs l).length=fs.length+1:=by simp[ZM]
 rw[a6i h1 (by omega),h1,hc,h2,decide_eq_true hn,decide_eq_true hN]
 rfl
theorem Ub{c:Cert}: ∀ {cs:List Cert},J2 cs=true->c∈cs->Vu c=true
 | d::cs,hc,h=>by
  simp only[J2,Bool.and_eq_true]at hc
  rcases List.mem_cons.1 h with rfl|h
  ·exact hc.1
  ·exact Ub hc.2 h
theorem JS{k:Int}{m:List Int}{l:Lin}{ks:List Cert}{n:Int}{b:Bool}(h:Z4 (.mk k m l ks) n b=true):(ks.length:Int)=n:=by
 simp only[Z4,Bool.and_eq_true,decide_eq_true_eq]at h
 exact h.1
theorem a7c{α:Type}: ∀ {ks:List α},(ks.length:Int)=2-> ∃ a b,ks=[a,b]
 | [a,b],_=>⟨a,b,rfl⟩
 | [],h=>by simp at h
 | [_],h=>by simp at h
 | _::_::_::ks,h=>by simp at h;omega
theorem Jv{fs:List Fact}:PV.sl 3 false (List.drop 0 (List.take fs.length (List.map enc fs)))=enc fs:=by rw[UC];rfl
theorem Wv(fs:List Fact)(l:Lin)(h:fs.length<=1000000):YU [.pv (enc l),.ptr 0 0] [.box [.pv (enc fs)]]=true:=by
 simp only[YU,Qp,Enc.dec_enc,decide_eq_true h]
 rfl
theorem Rv{fs:List Fact}{m:List Int}(hf:Zi fs=true){b:Bool}(hb:QZ fs m=b):Xi b (enc fs) (enc m)=true:=by
 simp only[Zi,Bool.and_eq_true,decide_eq_true_eq,List.all_eq_true]at hf
 have h2:fs.all (fun f=>Zy f.l)=true:=by
  rw[List.all_eq_true]
  intro f hfm
  have:=hf.2 f hfm
  simp only[Zx,Bool.and_eq_true]at this
  exact this.1
 simp only[Xi,Qp,Enc.dec_enc,hb,h2,decide_eq_true hf.1]
 cases b <;> rfl
theorem a1o(fs:List Fact)(m:List Int):UD (enc fs) (enc m)=ZQ fs m:=by unfold UD;rw[Enc.dec_enc,Enc.dec_enc]
theorem TW(N:Nat): ∀ a:List Fact×Cert×Unit,(TH a&&decide (Zt a.2.1<N+1))=true ->
  (QZ a.1 a.2.1.mults=true->Zc (NB N) 0 (Za Sg (Zv (YC a.1 a.2.1))) Db [] (Z9 b2u (encL a)))∧(QZ a.1 a.2.1.mults=false->Zc (MU N) 0 (Za SY (Zv (YC a.1 a.2.1))) Tz [] (Z9 b0y (encL a))):=by
 rintro⟨fs,⟨k,m,l,ks⟩,⟨⟩⟩ h
 simp only[TH,Bool.and_eq_true,decide_eq_true_eq]at h
 obtain⟨⟨⟨⟨hf,hv⟩,hc⟩,hd⟩,hN⟩:=h
 have e:(encL ((fs,Cert.mk k m l ks,()):List Fact×Cert×Unit):List PV)=[enc fs,PV.agg [enc k,enc m,enc l.k,enc l.t,enc ks]]:=by
  show [enc fs,enc (Cert.mk k m l ks)]=_
  rw[Zp]
 rw[e]
 have ebare : ∀ (n:Int) (b:Bool),(encL ((Cert.mk k m l ks,n,b,()):Cert×Int×Bool×Unit):List PV)=[PV.agg [enc k,enc m,enc l.k,enc l.t,enc ks],enc n,enc b]:=by
  intro n b
  show [enc (Cert.mk k m l ks),enc n,enc b]=_
  rw[Zp]
 have hc':=hc
 simp only[Vu,Bool.and_eq_true,decide_eq_true_eq]at hc'
 obtain⟨⟨⟨hc1,hc2⟩,hc3⟩,hc4⟩:=hc'
 have hd':fs.length+Zt (Cert.mk k m l ks)<=300:=hd
 have hN':Zt (Cert.mk k m l ks)<N+1:=hN
 rw[Zt]at hd' hN'
 have hfl:fs.length<=1000000:=by omega
 constructor
 all_goals intro ho
 all_goals have ho:QZ fs m=_:=ho
 ·refine b6c N fs k m l ks (XL (fun hk=> ?_) fun hk1=>XL (fun hk=> ?_) fun hk2=>XL (fun hk=> ?_) fun hk3=>Zz (a8m fs k m l ks hk1 hk2 hk3).symm)
  ·subst hk
   refine⟨Rv hf ho,Zd (.mk 1 m l ks,0,true,()) (ebare 0 true).symm rfl,Ze (.mk 1 m l ks,0,true,()) (ebare 0 true).symm (QY (fun h1=> ?_) fun h1=> ?_)⟩
   ·have h1:Z4 (.mk 1 m l ks) 0 true=true:=h1
    rw[a1o,Gh,h1]
    refine XL (fun h2=> ?_) fun h2=> ?_
    ·have h2:(Uf (ZQ fs m).2)=[]:=by simpa [Zn]using h2
     refine Zz ?_
     simp only[Bo,ho,h2]
     rfl
    ·have h2:(Uf (ZQ fs m).2).isEmpty=false:=by simpa [Zn]using h2
     refine Zz ?_
     simp only[Bo,ho,h2]
     rfl
   ·have h1:Z4 (.mk 1 m l ks) 0 true=false:=h1
    refine Zz ?_
    rw[Gh,h1]
    rfl
  ·subst hk
   refine⟨Zd (.mk 2 m l ks,1,true,()) (ebare 1 true).symm rfl,Ze (.mk 2 m l ks,1,true,()) (ebare 1 true).symm (Y4 (fun h1=>Zz (NK fs m l ks h1).symm) fun h1=> ?_)⟩
   have h1:Z4 (.mk 2 m l ks) 1 true=true:=h1
   obtain⟨c,rfl⟩ : ∃ c,ks=[c]:=List.length_eq_one_iff.1 (by have:=JS h1;omega)
   rw[Dj,h1]
   have hcc:Vu c=true:=Ub hc4 (by simp)
   simp only[Yb]at hd' hN'
   have hnc:fs.length+1+Zt c<=300:=by omega
   have hNc:Zt c<N:=by omega
   refine⟨Zd (fs,m,()) rfl (by show(Zi fs&&decide (fs.length<=300))=true;rw[hf,decide_eq_true (by omega)];rfl),Ze (fs,m,()) rfl (XL (fun h2=> ?_) fun h2=> ?_)⟩
   ·have h2:(Yj fs m).2=0:=h2
    refine⟨Wv fs (Yj fs m).1 hfl,rfl,c,rfl,Vi c,?_⟩
    have em:ZU (enc fs) (PV.agg [enc (Yj fs m).1.k,enc (Yj fs m).1.t])=ZM fs (Yj fs m).1:=VE fs _
    simp only[em,Jv,U0]
    refine⟨by simp,Zd (ZM fs (Yj fs m).1,c,()) rfl (Kb hv (H7 h2) hcc hnc hNc),Ze (ZM fs (Yj fs m).1,c,()) rfl (Zz ?_)⟩
    rw[h2]
    rfl
   ·have h2 : ¬ (Yj fs m).2=0:=h2
    refine Zz ?_
    rw[decide_eq_false h2]
    rfl
  ·subst hk
   refine⟨Zd (.mk 3 m l ks,2,false,()) (ebare 2 false).symm rfl,Ze (.mk 3 m l ks,2,false,()) (ebare 2 false).symm (Y4 (fun h1=>Zz (Mv fs m l ks h1).symm) fun h1=> ?_)⟩
   have h1:Z4 (.mk 3 m l ks) 2 false=true:=h1
   obtain⟨a,b,rfl⟩ : ∃ a b,ks=[a,b]:=a7c (JS h1)
   rw[Rh,h1]
   have hca:Vu a=true:=Ub hc4 (by simp)
   have hcb:Vu b=true:=Ub hc4 (by simp)
   simp only[Yb]at hd' hN'
   have hna:fs.length+1+Zt a<=300:=by omega
   have hNa:Zt a<N:=by omega
   have hnb:fs.length+1+Zt b<=300:=by omega
   have hNb:Zt b<N:=by omega
   refine⟨Zd (l,()) rfl hc2,Ze (l,()) rfl (XL (fun h2=> ?_) fun h2=> ?_)⟩
   ·have h2:(X8 l).2=0:=h2
    have hl:=Hg h2
    refine⟨Wv fs l hfl,rfl,a,rfl,Vi a,?_⟩
    have em:ZU (enc fs) (PV.agg [enc l.k,enc l.t])=ZM fs l:=VE fs _
    have em2:ZU (enc fs) (PV.agg [enc (X8 l).1.k,enc (X8 l).1.t])=ZM fs (X8 l).1:=VE fs _
    simp only[em,em2,Jv,U0]
    refine⟨by simp,Zd (ZM fs l,a,()) rfl (Kb hv hl.1 hca hna hNa),Ze (ZM fs l,a,()) rfl (QY (fun h3=> ?_) fun h3=> ?_)⟩
    ·have h3:YC (ZM fs l) a=true:=h3
     refine⟨Wv fs (X8 l).1 hfl,rfl,b,rfl,Vi b,?_⟩
     refine⟨by simp,Zd (ZM fs (X8 l).1,b,()) rfl (Kb hv hl.2 hcb hnb hNb),Ze (ZM fs (X8 l).1,b,()) rfl (Zz ?_)⟩
     rw[h2,h3]
     rfl
    ·have h3:YC (ZM fs l) a=false:=h3
     refine Zz ?_
     rw[h2,h3]
     rfl
   ·have h2 : ¬ (X8 l).2=0:=h2
    refine Zz ?_
    rw[decide_eq_false h2]
    rfl
 ·refine b7x N fs k m l ks (XL (fun hk=> ?_) fun hk1=>XL (fun hk=> ?_) fun hk2=>XL (fun hk=> ?_) fun hk3=>Zz (a8m fs k m l ks hk1 hk2 hk3).symm)
  ·subst hk
   refine⟨Rv hf ho,Zd (.mk 1 m l ks,0,true,()) (ebare 0 true).symm rfl,Ze (.mk 1 m l ks,0,true,()) (ebare 0 true).symm (QY (fun h1=> ?_) fun h1=> ?_)⟩
   ·have h1:Z4 (.mk 1 m l ks) 0 true=true:=h1
    rw[Gh,h1]
    refine Zz ?_
    simp only[Bo,ho]
    rfl
   ·have h1:Z4 (.mk 1 m l ks) 0 true=false:=h1
    refine Zz ?_
    rw[Gh,h1]
    rfl
  ·subst hk
   refine⟨Zd (.mk 2 m l ks,1,true,()) (ebare 1 true).symm rfl,Ze (.mk 2 m l ks,1,true,()) (ebare 1 true).symm (Y4 (fun h1=>Zz (NK fs m l ks h1).symm) fun h1=> ?_)⟩
   have h1:Z4 (.mk 2 m l ks) 1 true=true:=h1
   obtain⟨c,rfl⟩ : ∃ c,ks=[c]:=List.length_eq_one_iff.1 (by have:=JS h1;omega)
   rw[Dj,h1]
   have hcc:Vu c=true:=Ub hc4 (by simp)
   simp only[Yb]at hd' hN'
   have hnc:fs.length+1+Zt c<=300:=by omega
   have hNc:Zt c<N:=by omega
   refine⟨Zd (fs,m,()) rfl (by show(Zi fs&&decide (fs.length<=300))=true;rw[hf,decide_eq_true (by omega)];rfl),Ze (fs,m,()) rfl (XL (fun h2=> ?_) fun h2=> ?_)⟩
   ·have h2:(Yj fs m).2=0:=h2
    refine⟨Wv fs (Yj fs m).1 hfl,rfl,c,rfl,Vi c,?_⟩
    have em:ZU (enc fs) (PV.agg [enc (Yj fs m).1.k,enc (Yj fs m).1.t])=ZM fs (Yj fs m).1:=VE fs _
    simp only[em,Jv,U0]
    refine⟨by simp,Zd (ZM fs (Yj fs m).1,c,()) rfl (Kb hv (H7 h2) hcc hnc hNc),Ze (ZM fs (Yj fs m).1,c,()) rfl (Zz ?_)⟩
    rw[h2]
    rfl
   ·have h2 : ¬ (Yj fs m).2=0:=h2
    refine Zz ?_
    rw[decide_eq_false h2]
    rfl
  ·subst hk
   refine⟨Zd (.mk 3 m l ks,2,false,()) (ebare 2 false).symm rfl,Ze (.mk 3 m l ks,2,false,()) (ebare 2 false).symm (Y4 (fun h1=>Zz (Mv fs m l ks h1).symm) fun h1=> ?_)⟩
   have h1:Z4 (.mk 3 m l ks) 2 false=true:=h1
   obtain⟨a,b,rfl⟩ : ∃ a b,ks=[a,b]:=a7c (JS h1)
   rw[Rh,h1]
   have hca:Vu a=true:=Ub hc4 (by simp)
   have hcb:Vu b=true:=Ub hc4 (by simp)
   simp only[Yb]at hd' hN'
   have hna:fs.length+1+Zt a<=300:=by omega
   have hNa:Zt a<N:=by omega
   have hnb:fs.length+1+Zt b<=300:=by omega
   have hNb:Zt b<N:=by omega
   refine⟨Zd (l,()) rfl hc2,Ze (l,()) rfl (XL (fun h2=> ?_) fun h2=> ?_)⟩
   ·have h2:(X8 l).2=0:=h2
    have hl:=Hg h2
    refine⟨Wv fs l hfl,rfl,a,rfl,Vi a,?_⟩
    have em:ZU (enc fs) (PV.agg [enc l.k,enc l.t])=ZM fs l:=VE fs _
    have em2:ZU (enc fs) (PV.agg [enc (X8 l).1.k,enc (X8 l).1.t])=ZM fs (X8 l).1:=VE fs _
    simp only[em,em2,Jv,U0]
    refine⟨by simp,Zd (ZM fs l,a,()) rfl (Kb hv hl.1 hca hna hNa),Ze (ZM fs l,a,()) rfl (QY (fun h3=> ?_) fun h3=> ?_)⟩
    ·have h3:YC (ZM fs l) a=true:=h3
     refine⟨Wv fs (X8 l).1 hfl,rfl,b,rfl,Vi b,?_⟩
     refine⟨by simp,Zd (ZM fs (X8 l).1,b,()) rfl (Kb hv hl.2 hcb hnb hNb),Ze (ZM fs (X8 l).1,b,()) rfl (Zz ?_)⟩
     rw[h2,h3]
     rfl
    ·have h3:YC (ZM fs l) a=false:=h3
     refine Zz ?_
     rw[h2,h3]
     rfl
   ·have h2 : ¬ (X8 l).2=0:=h2
    refine Zz ?_
    rw[decide_eq_false h2]
    rfl
theorem EY: ∀ a:List Fact×Cert×Unit,(Zi a.1&&Vu a.2.1&&decide (a.1.length+Zt a.2.1<=300))=true->Zc Tm 0 (Za Cx (Zv (Yp a.1 a.2.1))) D8 [] (Z9 a4l (encL a)):=by
 rintro⟨fs,⟨k,m,l,ks⟩,⟨⟩⟩ h
 simp only[Bool.and_eq_true,decide_eq_true_eq]at h
 obtain⟨⟨hf,hc⟩,hd⟩:=h
 have e:(encL ((fs,Cert.mk k m l ks,()):List Fact×Cert×Unit):List PV)=[enc fs,PV.agg [enc k,enc m,enc l.k,enc l.t,enc ks]]:=by
  show [enc fs,enc (Cert.mk k m l ks)]=_
  rw[Zp]
 have e1:(encL ((Cert.mk k m l ks,()):Cert×Unit):List PV)=[PV.agg [enc k,enc m,enc l.k,enc l.t,enc ks]]:=by
  show [enc (Cert.mk k m l ks)]=_
  rw[Zp]
 rw[e]
 have hf:Zi fs=true:=hf
 have hc:Vu (Cert.mk k m l ks)=true:=hc
 refine b3x fs k m l ks ⟨Zd (fs,()) rfl hf,Ze (fs,()) rfl (Y4 (fun hv=> ?_) fun hv=> ?_)⟩
 ·have hv:Zq fs=false:=hv
  refine XW ?_
  simp[Yp,hv]
 have hv:Zq fs=true:=hv
 have el:(List.map (enc:Fact->PV) fs).length=fs.length:=by simp
 show if decide (((List.map (enc:Fact->PV) fs).length:Int)>100)=true then _ else _
 rw[el]
 refine Yv (fun h1=> ?_) fun h1=>⟨Zd (.mk k m l ks,()) e1.symm (a3z hc),Ze (.mk k m l ks,()) e1.symm (Yv (fun h2=> ?_) fun h2=>⟨Zd (fs,.mk k m l ks,()) e.symm ?_,Ze (fs,.mk k m l ks,()) e.symm (Y4 (fun h3=> ?_) fun h3=> ?_)⟩)⟩
 ·refine XW ?_
  simp only[Yp,hv,if_true,if_pos h1]
 ·have h2:Z7 (.mk k m l ks)>1000:=h2
  refine XW ?_
  simp only[Yp,hv,if_true,if_neg h1,if_pos h2]
 ·show(Zi fs&&Zq fs&&Vu (.mk k m l ks)&&decide (fs.length+Zt (.mk k m l ks)<=300))=true
  rw[hf,hv,hc,decide_eq_true hd]
  rfl
 ·have h2 : ¬ Z7 (.mk k m l ks)>1000:=h2
  have h3:YC fs (.mk k m l ks)=false:=h3
  refine XW ?_
  simp only[Yp,hv,if_true,if_neg h1,if_neg h2,h3]
  rfl
 ·have h2 : ¬ Z7 (.mk k m l ks)>1000:=h2
  have h3:YC fs (.mk k m l ks)=true:=h3
  refine XW ?_
  simp only[Yp,hv,if_true,if_neg h1,if_neg h2,h3]
end Go.Pl

namespace Go.Pl
open Go.RowKit
open Enc (enc dec is)
open EncL (encL decL isL)
def exL:Lin:=⟨-1,[⟨⟨[110]⟩,1⟩]⟩
mutual
def Xo:Cert->Int->Bool
 | .mk _ m l ks,n=> !decide ((m.length:Int)>60)&&(Qt l 8&&(!decide (n<1)&&(!decide ((ks.length:Int)>n)&&WC ks n)))
def WC:List Cert->Int->Bool
 | [],_=>true
 | c::cs,n=>Xo c (Ym (n - 1))&&WC cs (Ym (n - Z7 c))
end
def F8:Str:=⟨[49]⟩
def Oa:Str:=⟨[45,49]⟩
def Sq:Str:=⟨[110,45,49]⟩
end Go.Pl

namespace Go.Pl
open Go.RowKit
open Enc (enc dec is)
open EncL (encL decL isL)
set_option maxRecDepth 100000
def VG:IC:=(.seq (.reg [⟨(some 2),(.mv (.c (.bool false))),0,none⟩] none) (.seq (.seq (.reg [⟨(some 3),(.mv (.c (.int .i64 0))),0,none⟩] none) (.block 0 (.loop [3,0] (.seq (.seq (.reg [⟨(some 4),(.mv (.t 3)),0,none⟩,⟨(some 5),(.mv (.t 0)),0,none⟩,⟨(some 6),(.len 1 (.t 5)),0,none⟩,⟨(some 7),(.bin .num .lss (.t 4) (.t 6)),0,none⟩] none) (.cond (.t 7) .skip (.exit 0))) (.seq (.block 1 (.seq (.reg [⟨(some 10),(.mv (.t 0)),0,none⟩,⟨(some 11),(.mv (.t 3)),0,none⟩,⟨(some 12),(.iaddr 3 (.t 10) (.t 11)),0,none⟩,⟨(some 13),(.faddr 1 (.t 12)),0,none⟩,⟨(some 14),(.load true [(.int .i64),(.sl 2)] (.t 13)),0,none⟩,⟨(some 15),(.call (.c (.fn 20)) [(.t 14)]),0,none⟩,⟨(some 16),(.un .not (.t 15)),2,none⟩] none) (.cond (.t 16) (.seq (.reg [⟨(some 2),(.mv (.c (.bool false))),0,none⟩] none) .ret) .skip))) (.reg [⟨(some 8),(.mv (.t 3)),0,none⟩,⟨(some 9),(.bin .num .add (.t 8) (.c (.int .i64 1))),0,none⟩,⟨(some 3),(.mv (.t 9)),0,none⟩] none)))))) (.seq (.reg [⟨(some 2),(.mv (.c (.bool true))),0,none⟩] none) .ret)))
def VN:List IRes:=[(.tmp 2)]
abbrev a4t:Nat:=17
def Qv:ZH:=XI [(20,.pure (preT (fun x:Lin×Unit=>Zy x.1)) (Zf (fun x:Lin×Unit=>Zj x.1)))]
theorem b2i{G:PV->Prop}(l:List Fact)(h:At Qv 0 (Za VN G) VG 0 17 [(0,(.pv (.sl 3 false (List.map enc l)))),(3,(.pv (.int .i64 0)))] []):Zc Qv 0 (Za VN G) VG [] (Z9 17 [enc l]):=Zc.tp (.nil) h (by kernel_rfl)
theorem P5{G:PV->Prop}(l:List Fact)(i:Int)(h:if (decide (i<(↑(List.length (List.map enc l)):Int)))=true then(decide (0<=i)&&decide (Int.toNat i<List.length (List.map enc l))&&Enc.sz Fact==3)=true∧(∃ y0:Fact,AV.pv (PV.rptr (PV.cells (List.getD (List.map enc l) (Int.toNat i) default)))=AV.pv (PV.rptr (PV.cells ((enc) y0)))∧((Go.Pl.preT (fun(x:Lin×Unit)=>Zy x.1) [(.agg [(.int .i64 (PV.asInt (List.getD (List.drop 1 (PV.cells (enc y0))) 0 default))),(.sl 2 false (PV.asXs (List.getD (List.drop 1 (PV.cells (enc y0))) (0+1) default)))])])=true∧(∃ y1:Bool,AV.pv (Zf (fun(x:Lin×Unit)=>Zj x.1) [(.agg [(.int .i64 (PV.asInt (List.getD (List.drop 1 (PV.cells (enc y0))) 0 default))),(.sl 2 false (PV.asXs (List.getD (List.drop 1 (PV.cells (enc y0))) (0+1) default)))])])=AV.pv (enc y1)∧(if (!y1)=true then G ((.bool false))else(At Qv 0 (Za VN G) VG 0 17 [(0,(.pv (.sl 3 false (List.map enc l)))),(3,(.pv (.int .i64 (IntKind.wrap IntKind.i64 (i+1)))))] [])))))else(G ((.bool true)))):At Qv 0 (Za VN G) VG 0 17 [(0,.pv (enc l)),(3,.pv (.int .i64 i))] []:=At.tp (.lit (.ask (.req (.abs (Fact) (fun YY=>AV.pv (PV.rptr (PV.cells ((enc) YY)))) (.lit (.req (.abs (Bool) (fun YY=>AV.pv (enc YY)) (.ask (.nil) (.lit (.nil)))))))) (.nil))) h (by kernel_rfl)
def Wo:IC:=(.seq (.reg [⟨(some 2),(.box 5 (.t 0)),0,none⟩,⟨(some 4),(.mv (.c (.bool false))),1,none⟩] none) (.seq (.seq (.reg [⟨(some 6),(.faddr 1 (.t 2)),0,none⟩,⟨(some 7),(.load false [(.sl 1)] (.t 6)),0,none⟩,⟨(some 8),(.len 1 (.t 7)),0,none⟩,⟨(some 9),(.bin .num .gtr (.t 8) (.c (.int .i64 60))),0,none⟩,⟨(some 10),(.mv (.t 9)),0,none⟩,⟨(some 11),(.faddr 2 (.t 2)),0,(some (10,false))⟩,⟨(some 12),(.load true [(.int .i64),(.sl 2)] (.t 11)),0,(some (10,false))⟩,⟨(some 13),(.call (.c (.fn 16)) [(.t 12),(.c (.int .i64 8))]),0,(some (10,false))⟩,⟨(some 14),(.un .not (.t 13)),2,(some (10,false))⟩,⟨(some 15),(.pick (.t 10) (.c (.bool true)) (.t 14)),2,none⟩,⟨(some 16),(.mv (.t 15)),2,none⟩,⟨(some 17),(.mv (.t 1)),2,(some (16,false))⟩,⟨(some 18),(.bin .num .lss (.t 17) (.c (.int .i64 1))),2,(some (16,false))⟩,⟨(some 19),(.pick (.t 16) (.c (.bool true)) (.t 18)),2,none⟩,⟨(some 20),(.mv (.t 19)),2,none⟩,⟨(some 21),(.faddr 4 (.t 2)),2,(some (20,false))⟩,⟨(some 22),(.load false [(.sl 5)] (.t 21)),2,(some (20,false))⟩,⟨(some 23),(.len 1 (.t 22)),2,(some (20,false))⟩,⟨(some 24),(.mv (.t 1)),2,(some (20,false))⟩,⟨(some 25),(.bin .num .gtr (.t 23) (.t 24)),2,(some (20,false))⟩,⟨(some 26),(.pick (.t 20) (.c (.bool true)) (.t 25)),2,none⟩] none) (.cond (.t 26) (.seq (.reg [⟨(some 4),(.mv (.c (.bool false))),0,none⟩] none) .ret) .skip)) (.seq (.seq (.reg [⟨(some 5),(.mv (.c (.int .i64 0))),0,none⟩] none) (.block 0 (.loop [5,2,1] (.seq (.seq (.reg [⟨(some 27),(.mv (.t 5)),0,none⟩,⟨(some 28),(.faddr 4 (.t 2)),0,none⟩,⟨(some 29),(.load false [(.sl 5)] (.t 28)),0,none⟩,⟨(some 30),(.len 1 (.t 29)),0,none⟩,⟨(some 31),(.bin .num .lss (.t 27) (.t 30)),0,none⟩] none) (.cond (.t 31) .skip (.exit 0))) (.seq (.block 1 (.seq (.seq (.reg [⟨(some 34),(.faddr 4 (.t 2)),0,none⟩,⟨(some 35),(.load false [(.sl 5)] (.t 34)),0,none⟩,⟨(some 36),(.mv (.t 5)),0,none⟩,⟨(some 37),(.iaddr 5 (.t 35) (.t 36)),0,none⟩,⟨(some 38),(.load true [(.int .i64),(.sl 1),(.int .i64),(.sl 2),(.sl 5)] (.t 37)),0,none⟩,⟨(some 39),(.mv (.t 1)),0,none⟩,⟨(some 40),(.bin .num .sub (.t 39) (.c (.int .i64 1))),0,none⟩,⟨(some 41),(.call (.c (.fn 24)) [(.t 38),(.t 40)]),0,none⟩,⟨(some 42),(.un .not (.t 41)),2,none⟩] none) (.cond (.t 42) (.seq (.reg [⟨(some 4),(.mv (.c (.bool false))),0,none⟩] none) .ret) .skip)) (.reg [⟨(some 43),(.mv (.t 1)),0,none⟩,⟨(some 44),(.faddr 4 (.t 2)),0,none⟩,⟨(some 45),(.load false [(.sl 5)] (.t 44)),0,none⟩,⟨(some 46),(.mv (.t 5)),0,none⟩,⟨(some 47),(.iaddr 5 (.t 45) (.t 46)),0,none⟩,⟨(some 48),(.load true [(.int .i64),(.sl 1),(.int .i64),(.sl 2),(.sl 5)] (.t 47)),0,none⟩,⟨(some 49),(.call (.c (.fn 96)) [(.t 48)]),0,none⟩,⟨(some 50),(.bin .num .sub (.t 43) (.t 49)),2,none⟩,⟨(some 1),(.mv (.t 50)),2,none⟩] none))) (.reg [⟨(some 32),(.mv (.t 5)),0,none⟩,⟨(some 33),(.bin .num .add (.t 32) (.c (.int .i64 1))),0,none⟩,⟨(some 5),(.mv (.t 33)),0,none⟩] none)))))) (.seq (.reg [⟨(some 4),(.mv (.c (.bool true))),0,none⟩] none) .ret))))
def Wm:List IRes:=[(.tmp 4)]
abbrev Ls:Nat:=51
def WY(N:Nat):ZH:=XI [(24,.pure (preT (fun x:Cert×Int×Unit=>UA x.1&&decide (Zt x.1<N))) (Zf (fun x:Cert×Int×Unit=>Xo x.1 x.2.1))),(16,.pure (preT (fun x:Lin×Int×Unit=>Zy x.1)) (Zf (fun x:Lin×Int×Unit=>Qt x.1 x.2.1))),(96,.pure (preT (fun x:Cert×Unit=>UA x.1)) (Zf (fun x:Cert×Unit=>Z7 x.1)))]
theorem a0u{G:PV->Prop}(N:Nat)(k:Int)(m:List Int)(l:Lin)(ks:List Cert)(n:Int)(h:if (decide ((↑(List.length (List.map enc m)):Int)>60))=true then G ((.bool false))else((Go.Pl.preT (fun(x:Lin×Int×Unit)=>Zy x.1) [(.agg [(.int .i64 l.k),(.sl 2 false (List.map enc l.t))]),(.int .i64 8)])=true∧(∃ y0:Bool,AV.pv (Zf (fun(x:Lin×Int×Unit)=>Qt x.1 x.2.1) [(.agg [(.int .i64 l.k),(.sl 2 false (List.map enc l.t))]),(.int .i64 8)])=AV.pv (enc y0)∧(if (!y0)=true then G ((.bool false))else(if (decide (n<1))=true then G ((.bool false))else(if (decide ((↑(List.length (List.map enc ks)):Int)>n))=true then G ((.bool false))else(At (WY N) 0 (Za Wm G) Wo 0 51 [(1,(.pv (.int .i64 n))),(2,(.ptr 0 0)),(5,(.pv (.int .i64 0)))] [(.obj (.box [(.pv (.int .i64 k)),(.pv (.sl 1 false (List.map enc m))),(.pv (.int .i64 l.k)),(.pv (.sl 2 false (List.map enc l.t))),(.pv (.sl 5 false (List.map enc ks)))]))]))))))):Zc (WY N) 0 (Za Wm G) Wo [] (Z9 51 [.agg [enc k,enc m,enc l.k,enc l.t,enc ks],enc n]):=Zc.tp (.lit (.ask (.lit (.lit (.lit (.lit (.lit (.lit (.lit (.lit (.lit (.lit (.lit (.lit (.lit (.lit (.nil))))))))))))))) (.lit (.lit (.req (.abs (Bool) (fun YY=>AV.pv (enc YY)) (.lit (.lit (.ask (.lit (.lit (.lit (.lit (.lit (.lit (.lit (.lit (.lit (.nil)))))))))) (.lit (.lit (.lit (.ask (.lit (.lit (.lit (.lit (.lit (.lit (.nil))))))) (.lit (.lit (.lit (.lit (.lit (.lit (.ask (.nil) (.nil))))))))))))))))))))) h (by kernel_rfl)
theorem Cv{G:PV->Prop}(N:Nat)(k:Int)(m:List Int)(l:Lin)(ks:List Cert)(n:Int)(i:Int)(h:if (decide (i<(↑(List.length (List.map enc ks)):Int)))=true then(decide (0<=i)&&decide (Int.toNat i<List.length (List.map enc ks))&&Enc.sz Cert==5)=true∧(∃ y0:Cert,AV.pv (PV.rptr (PV.cells (List.getD (List.map enc ks) (Int.toNat i) default)))=AV.pv (PV.rptr (PV.cells ((enc) y0)))∧((decide (0+List.length [Sh.int .i64,Sh.sl 1,Sh.int .i64,Sh.sl 2,Sh.sl 5]<=List.length (PV.cells (enc y0)))&&Yk (PV.cells (enc y0)) 0 [Sh.int .i64,Sh.sl 1,Sh.int .i64,Sh.sl 2,Sh.sl 5])=true∧((Go.Pl.preT (fun(x:Cert×Int×Unit)=>UA x.1&&decide (Zt x.1<N)) [(.agg [(.int .i64 (PV.asInt (List.getD (PV.cells (enc y0)) 0 default))),(.sl 1 (PV.asT (List.getD (PV.cells (enc y0)) (0+1) default)) (PV.asXs (List.getD (PV.cells (enc y0)) (0+1) default))),(.int .i64 (PV.asInt (List.getD (PV.cells (enc y0)) (0+1+1) default))),(.sl 2 (PV.asT (List.getD (PV.cells (enc y0)) (0+1+1+1) default)) (PV.asXs (List.getD (PV.cells (enc y0)) (0+1+1+1) default))),(.sl 5 (PV.asT (List.getD (PV.cells (enc y0)) (0+1+1+1+1) default)) (PV.asXs (List.getD (PV.cells (enc y0)) (0+1+1+1+1) default)))]),(.int .i64 (IntKind.wrap IntKind.i64 (n - 1)))])=true∧(∃ y1:Bool,AV.pv (Zf (fun(x:Cert×Int×Unit)=>Xo x.1 x.2.1) [(.agg [(.int .i64 (PV.asInt (List.getD (PV.cells (enc y0)) 0 default))),(.sl 1 (PV.asT (List.getD (PV.cells (enc y0)) (0+1) default)) (PV.asXs (List.getD (PV.cells (enc y0)) (0+1) default))),(.int .i64 (PV.asInt (List.getD (PV.cells (enc y0)) (0+1+1) default))),(.sl 2 (PV.asT (List.getD (PV.cells (enc y0)) (0+1+1+1) default)) (PV.asXs (List.getD (PV.cells (enc y0)) (0+1+1+1) default))),(.sl 5 (PV.asT (List.getD (PV.cells (enc y0)) (0+1+1+1+1) default)) (PV.asXs (List.getD (PV.cells (enc y0)) (0+1+1+1+1) default)))]),(.int .i64 (IntKind.wrap IntKind.i64 (n - 1)))])=AV.pv (enc y1)∧(if (!y1)=true then G ((.bool false))else((decide (0<=i)&&decide (Int.toNat i<List.length (List.map enc ks))&&Enc.sz Cert==5)=true∧(∃ y2:Cert,AV.pv (PV.rptr (PV.cells (List.getD (List.map enc ks) (Int.toNat i) default)))=AV.pv (PV.rptr (PV.cells ((enc) y2)))∧((decide (0+List.length [Sh.int .i64,Sh.sl 1,Sh.int .i64,Sh.sl 2,Sh.sl 5]<=List.length (PV.cells (enc y2)))&&Yk (PV.cells (enc y2)) 0 [Sh.int .i64,Sh.sl 1,Sh.int .i64,Sh.sl 2,Sh.sl 5])=true∧((Go.Pl.preT (fun(x:Cert×Unit)=>UA x.1) [(.agg [(.int .i64 (PV.asInt (List.getD (PV.cells (enc y2)) 0 default))),(.sl 1 (PV.asT (List.getD (PV.cells (enc y2)) (0+1) default)) (PV.asXs (List.getD (PV.cells (enc y2)) (0+1) default))),(.int .i64 (PV.asInt (List.getD (PV.cells (enc y2)) (0+1+1) default))),(.sl 2 (PV.asT (List.getD (PV.cells (enc y2)) (0+1+1+1) default)) (PV.asXs (List.getD (PV.cells (enc y2)) (0+1+1+1) default))),(.sl 5 (PV.asT (List.getD (PV.cells (enc y2)) (0+1+1+1+1) default)) (PV.asXs (List.getD (PV.cells (enc y2)) (0+1+1+1+1) default)))])])=true∧(∃ y3:Int,AV.pv (Zf (fun(x:Cert×Unit)=>Z7 x.1) [(.agg [(.int .i64 (PV.asInt (List.getD (PV.cells (enc y2)) 0 default))),(.sl 1 (PV.asT (List.getD (PV.cells (enc y2)) (0+1) default)) (PV.asXs (List.getD (PV.cells (enc y2)) (0+1) default))),(.int .i64 (PV.asInt (List.getD (PV.cells (enc y2)) (0+1+1) default))),(.sl 2 (PV.asT (List.getD (PV.cells (enc y2)) (0+1+1+1) default)) (PV.asXs (List.getD (PV.cells (enc y2)) (0+1+1+1) default))),(.sl 5 (PV.asT (List.getD (PV.cells (enc y2)) (0+1+1+1+1) default)) (PV.asXs (List.getD (PV.cells (enc y2)) (0+1+1+1+1) default)))])])=AV.pv (enc y3)∧(At (WY N) 0 (Za Wm G) Wo 0 51 [(1,(.pv (.int .i64 (IntKind.wrap IntKind.i64 (n - y3))))),(2,(.ptr 0 0)),(5,(.pv (.int .i64 (IntKind.wrap IntKind.i64 (i+1)))))] [(.obj (.box [(.pv (.int .i64 k)),(.pv (.sl 1 false (List.map enc m))),(.pv (.int .i64 l.k)),(.pv (.sl 2 false (List.map enc l.t))),(.pv (.sl 5 false (List.map enc ks)))]))])))))))))))else(G ((.bool true)))):At (WY N) 0 (Za Wm G) Wo 0 51 [(1,.pv (.int .i64 n)),(2,.ptr 0 0),(5,.pv (.int .i64 i))] [.obj (.box [.pv (enc k),.pv (enc m),.pv (enc l.k),.pv (enc l.t),.pv (enc ks)])]:=At.tp (.lit (.ask (.req (.abs (Cert) (fun YY=>AV.pv (PV.rptr (PV.cells ((enc) YY)))) (.req (.lit (.req (.abs (Bool) (fun YY=>AV.pv (enc YY)) (.ask (.nil) (.req (.abs (Cert) (fun YY=>AV.pv (PV.rptr (PV.cells ((enc) YY)))) (.req (.req (.abs (Int) (fun YY=>AV.pv (enc YY)) (.lit (.lit (.nil))))))))))))))) (.nil))) h (by kernel_rfl)
def Ko:IC:=(.seq (.reg [⟨(some 2),(.mv (.c (.str []))),0,none⟩] none) (.seq (.seq (.reg [⟨(some 3),(.mv (.t 0)),0,none⟩,⟨(some 4),(.bin .num .lss (.t 3) (.c (.int .i64 0))),0,none⟩] none) (.cond (.t 4) (.seq (.reg [⟨(some 5),(.mv (.t 0)),0,none⟩,⟨(some 6),(.un .neg (.t 5)),0,none⟩,⟨(some 7),(.call (.c (.fn 78)) [(.t 6)]),0,none⟩,⟨(some 8),(.bin .num .add (.c (.str [45])) (.t 7)),2,none⟩,⟨(some 2),(.mv (.t 8)),2,none⟩] none) .ret) .skip)) (.seq (.seq (.reg [⟨(some 9),(.mv (.t 0)),0,none⟩,⟨(some 10),(.bin .num .lss (.t 9) (.c (.int .i64 10))),0,none⟩] none) (.cond (.t 10) (.seq (.reg [⟨(some 11),(.mv (.t 0)),0,none⟩,⟨(some 12),(.mv (.t 0)),0,none⟩,⟨(some 13),(.bin .num .add (.t 12) (.c (.int .i64 1))),0,none⟩,⟨(some 14),(.strslc (.c (.str [48,49,50,51,52,53,54,55,56,57])) (some (.t 11)) (some (.t 13))),0,none⟩,⟨(some 2),(.mv (.t 14)),0,none⟩] none) .ret) .skip)) (.seq (.reg [⟨(some 15),(.mv (.t 0)),0,none⟩,⟨(some 16),(.bin .num .quo (.t 15) (.c (.int .i64 10))),0,none⟩,⟨(some 17),(.call (.c (.fn 78)) [(.t 16)]),0,none⟩,⟨(some 18),(.mv (.t 0)),2,none⟩,⟨(some 19),(.bin .num .rem (.t 18) (.c (.int .i64 10))),2,none⟩,⟨(some 20),(.call (.c (.fn 78)) [(.t 19)]),2,none⟩,⟨(some 21),(.bin .num .add (.t 17) (.t 20)),4,none⟩,⟨(some 2),(.mv (.t 21)),4,none⟩] none) .ret))))
def Ho:List IRes:=[(.tmp 2)]
abbrev EX:Nat:=22
def CS:ZH:=XI []
theorem a7f{G:PV->Prop}(h:G ((.str (List.drop (Int.toNat 1) (List.take (Int.toNat (IntKind.wrap IntKind.i64 (1+1))) [(48:UInt8),(49:UInt8),(50:UInt8),(51:UInt8),(52:UInt8),(53:UInt8),(54:UInt8),(55:UInt8),(56:UInt8),(57:UInt8)]))))):Zc CS 0 (Za Ho G) Ko [] (Z9 22 [.int .i64 1]):=Zc.tp (.lit (.lit (.lit (.lit (.lit (.lit (.nil))))))) h (by kernel_rfl)
def Hq:IC:=Ko
def Hy:List IRes:=[(.tmp 2)]
abbrev OP:Nat:=22
def CY:ZH:=XI [(78,.pure (preT (fun x:Int×Unit=>decide (x.1=1))) (Zf (fun _:Int×Unit=>F8)))]
theorem a5j{G:PV->Prop}(h : ∃ y0:Str,AV.pv (Zf (fun(x:Int×Unit)=>F8) [(.int .i64 1)])=AV.pv (enc y0)∧((decide (List.length [(45:UInt8)]+List.length (Str.s y0)<=1099511627776))=true∧(G ((.str ([(45:UInt8)]++Str.s y0)))))):Zc CY 0 (Za Hy G) Hq [] (Z9 22 [.int .i64 (-1)]):=Zc.tp (.lit (.lit (.lit (.abs (Str) (fun YY=>AV.pv (enc YY)) (.req (.nil)))))) h (by kernel_rfl)
def Wp:IC:=(.seq (.reg [⟨(some 1),(.box 2 (.t 0)),0,none⟩,⟨(some 2),(.mv (.c (.str []))),1,none⟩] none) (.seq (.seq (.reg [⟨(some 6),(.load true [(.int .i64),(.sl 2)] (.t 1)),0,none⟩,⟨(some 7),(.call (.c (.fn 20)) [(.t 6)]),0,none⟩,⟨(some 8),(.un .not (.t 7)),2,none⟩] none) (.cond (.t 8) (.seq (.reg [⟨(some 2),(.mv (.c (.str []))),0,none⟩] none) .ret) .skip)) (.seq (.reg [⟨(some 3),(.mv (.c (.str []))),0,none⟩] none) (.seq (.seq (.reg [⟨(some 4),(.mv (.c (.int .i64 0))),0,none⟩] none) (.block 0 (.loop [4,1,3] (.seq (.seq (.reg [⟨(some 9),(.mv (.t 4)),0,none⟩,⟨(some 10),(.faddr 1 (.t 1)),0,none⟩,⟨(some 11),(.load false [(.sl 2)] (.t 10)),0,none⟩,⟨(some 12),(.len 1 (.t 11)),0,none⟩,⟨(some 13),(.bin .num .lss (.t 9) (.t 12)),0,none⟩] none) (.cond (.t 13) .skip (.exit 0))) (.seq (.block 1 (.seq (.reg [⟨(some 16),(.faddr 1 (.t 1)),0,none⟩,⟨(some 17),(.load false [(.sl 2)] (.t 16)),0,none⟩,⟨(some 18),(.mv (.t 4)),0,none⟩,⟨(some 19),(.iaddr 2 (.t 17) (.t 18)),0,none⟩,⟨(some 20),(.load true [.str,(.int .i64)] (.t 19)),0,none⟩,⟨(some 5),(.alloc (.agg [(.str []),(.int .i64 0)])),0,none⟩,⟨none,(.store 2 (.t 5) (.t 20)),1,none⟩] none) (.seq (.block 2 (.seq (.reg [⟨(some 22),(.faddr 1 (.t 5)),0,none⟩,⟨(some 23),(.load false [(.int .i64)] (.t 22)),0,none⟩,⟨(some 24),(.bin .num .lss (.t 23) (.c (.int .i64 0))),0,none⟩,⟨(some 21),(.mv (.t 24)),0,none⟩] none) (.cond (.t 21) (.seq (.reg [⟨(some 25),(.mv (.t 3)),0,none⟩,⟨(some 26),(.bin .num .add (.t 25) (.c (.str [45]))),0,none⟩,⟨(some 3),(.mv (.t 26)),0,none⟩] none) (.reg [⟨(some 27),(.faddr 1 (.t 5)),0,none⟩,⟨(some 28),(.load false [(.int .i64)] (.t 27)),0,none⟩,⟨(some 29),(.un .neg (.t 28)),0,none⟩,⟨(some 30),(.faddr 1 (.t 5)),0,none⟩,⟨none,(.store 1 (.t 30) (.t 29)),0,none⟩] none)) (.seq (.reg [⟨(some 32),(.mv (.t 4)),0,none⟩,⟨(some 33),(.bin .num .gtr (.t 32) (.c (.int .i64 0))),0,none⟩,⟨(some 31),(.mv (.t 33)),0,none⟩] none) (.cond (.t 31) (.reg [⟨(some 34),(.mv (.t 3)),0,none⟩,⟨(some 35),(.bin .num .add (.t 34) (.c (.str [43]))),0,none⟩,⟨(some 3),(.mv (.t 35)),0,none⟩] none) .skip))))) (.seq (.seq (.reg [⟨(some 36),(.faddr 1 (.t 5)),0,none⟩,⟨(some 37),(.load false [(.int .i64)] (.t 36)),0,none⟩,⟨(some 38),(.bin .num .gtr (.t 37) (.c (.int .i64 1))),0,none⟩] none) (.cond (.t 38) (.reg [⟨(some 39),(.mv (.t 3)),0,none⟩,⟨(some 40),(.faddr 1 (.t 5)),0,none⟩,⟨(some 41),(.load false [(.int .i64)] (.t 40)),0,none⟩,⟨(some 42),(.call (.c (.fn 78)) [(.t 41)]),0,none⟩,⟨(some 43),(.bin .num .add (.t 39) (.t 42)),2,none⟩,⟨(some 3),(.mv (.t 43)),2,none⟩] none) .skip)) (.reg [⟨(some 44),(.mv (.t 3)),0,none⟩,⟨(some 45),(.faddr 0 (.t 5)),0,none⟩,⟨(some 46),(.load false [.str] (.t 45)),0,none⟩,⟨(some 47),(.bin .num .add (.t 44) (.t 46)),0,none⟩,⟨(some 3),(.mv (.t 47)),0,none⟩] none))))) (.reg [⟨(some 14),(.mv (.t 4)),0,none⟩,⟨(some 15),(.bin .num .add (.t 14) (.c (.int .i64 1))),0,none⟩,⟨(some 4),(.mv (.t 15)),0,none⟩] none)))))) (.seq (.seq (.reg [⟨(some 48),(.faddr 1 (.t 1)),0,none⟩,⟨(some 49),(.load false [(.sl 2)] (.t 48)),0,none⟩,⟨(some 50),(.len 1 (.t 49)),0,none⟩,⟨(some 51),(.bin .num .eql (.t 50) (.c (.int .i64 0))),0,none⟩] none) (.cond (.t 51) (.seq (.reg [⟨(some 52),(.faddr 0 (.t 1)),0,none⟩,⟨(some 53),(.load false [(.int .i64)] (.t 52)),0,none⟩,⟨(some 54),(.call (.c (.fn 78)) [(.t 53)]),0,none⟩,⟨(some 2),(.mv (.t 54)),2,none⟩] none) .ret) .skip)) (.seq (.seq (.reg [⟨(some 55),(.faddr 0 (.t 1)),0,none⟩,⟨(some 56),(.load false [(.int .i64)] (.t 55)),0,none⟩,⟨(some 57),(.bin .num .gtr (.t 56) (.c (.int .i64 0))),0,none⟩] none) (.cond (.t 57) (.reg [⟨(some 58),(.mv (.t 3)),0,none⟩,⟨(some 59),(.bin .num .add (.t 58) (.c (.str [43]))),0,none⟩,⟨(some 3),(.mv (.t 59)),0,none⟩] none) .skip)) (.seq (.seq (.reg [⟨(some 60),(.faddr 0 (.t 1)),0,none⟩,⟨(some 61),(.load false [(.int .i64)] (.t 60)),0,none⟩,⟨(some 62),(.bin .num .neq (.t 61) (.c (.int .i64 0))),0,none⟩] none) (.cond (.t 62) (.reg [⟨(some 63),(.mv (.t 3)),0,none⟩,⟨(some 64),(.faddr 0 (.t 1)),0,none⟩,⟨(some 65),(.load false [(.int .i64)] (.t 64)),0,none⟩,⟨(some 66),(.call (.c (.fn 78)) [(.t 65)]),0,none⟩,⟨(some 67),(.bin .num .add (.t 63) (.t 66)),2,none⟩,⟨(some 3),(.mv (.t 67)),2,none⟩] none) .skip)) (.seq (.reg [⟨(some 68),(.mv (.t 3)),0,none⟩,⟨(some 2),(.mv (.t 68)),0,none⟩] none) .ret))))))))
def Wn:List IRes:=[(.tmp 2)]
abbrev M5:Nat:=69
def WR:ZH:=XI [(20,.pure (preT (fun x:Lin×Unit=>Zy x.1)) (Zf (fun x:Lin×Unit=>Zj x.1))),(78,.pure (preT (fun x:Int×Unit=>decide (x.1 = -1))) (Zf (fun _:Int×Unit=>Oa)))]
theorem a0a{G:PV->Prop}(h : ∃ y0:Bool,AV.pv (Zf (fun(x:Lin×Unit)=>Zj x.1) [(.agg [(.int .i64 (-1)),(.sl 2 false [(.agg [(.str [(110:UInt8)]),(.int .i64 1)])])])])=AV.pv (enc y0)∧(if (!y0)=true then G ((.str []))else(At WR 0 (Za Wn G) Wp 0 69 [(1,(.ptr 0 0)),(3,(.pv (.str []))),(4,(.pv (.int .i64 0)))] [(.obj (.box [(.pv (.int .i64 (-1))),(.pv (.sl 2 false [(.agg [(.str [(110:UInt8)]),(.int .i64 1)])]))]))]))):Zc WR 0 (Za Wn G) Wp [] (Z9 69 [.agg [.int .i64 (-1),.sl 2 false [.agg [.str [110],.int .i64 1]]]]):=Zc.tp (.lit (.abs (Bool) (fun YY=>AV.pv (enc YY)) (.ask (.nil) (.nil)))) h (by kernel_rfl)
theorem RB{G:PV->Prop}(o:List UInt8)(h:(decide (List.length o+List.length (PV.asStr (List.getD (PV.cells (List.getD [PV.agg [PV.str [(110:UInt8)],PV.int .i64 1]] (Int.toNat 0) default)) 0 default))<=1099511627776))=true∧(At WR 0 (Za Wn G) Wp 0 69 [(1,(.ptr 0 0)),(3,(.pv (.str (o++PV.asStr (List.getD (PV.cells (List.getD [PV.agg [PV.str [(110:UInt8)],PV.int .i64 1]] (Int.toNat 0) default)) 0 default))))),(4,(.pv (.int .i64 1)))] [(.obj (.box [(.pv (.int .i64 (-1))),(.pv (.sl 2 false [(.agg [(.str [(110:UInt8)]),(.int .i64 1)])]))]))])):At WR 0 (Za Wn G) Wp 0 69 [(1,.ptr 0 0),(3,.pv (.str o)),(4,.pv (.int .i64 0))] [.obj (.box [.pv (.int .i64 (-1)),.pv (.sl 2 false [.agg [.str [110],.int .i64 1]])])]:=At.tp (.lit (.lit (.lit (.keep (.lit (.lit (.lit (.lit (.lit (.lit (.lit (.req (.lit (.nil)))))))))))))) h (by kernel_rfl)
theorem Rk{G:PV->Prop}(h : ∃ y0:Str,AV.pv (Zf (fun(x:Int×Unit)=>Oa) [(.int .i64 (-1))])=AV.pv (enc y0)∧((decide (List.length [(110:UInt8)]+List.length (Str.s y0)<=1099511627776))=true∧(G ((.str ([(110:UInt8)]++Str.s y0)))))):At WR 0 (Za Wn G) Wp 0 69 [(1,.ptr 0 0),(3,.pv (.str [110])),(4,.pv (.int .i64 1))] [.obj (.box [.pv (.int .i64 (-1)),.pv (.sl 2 false [.agg [.str [110],.int .i64 1]])])]:=At.tp (.lit (.lit (.lit (.lit (.lit (.lit (.lit (.lit (.lit (.abs (Str) (fun YY=>AV.pv (enc YY)) (.req (.nil)))))))))))) h (by kernel_rfl)
def Ba:IC:=(.seq (.reg [⟨(some 2),(.alloc (.agg [(.int .i64 0),(.sl 0 true []),(.int .i64 0),(.sl 0 true []),(.sl 0 true [])])),0,none⟩] none) (.seq (.reg [⟨(some 3),(.mv (.t 0)),0,none⟩,⟨(some 4),(.build [(.int .i64 0),(.sl 0 true []),(.int .i64 0),(.sl 0 true []),(.sl 0 true [])] [(0,(1,(.c (.int .i64 1)))),(1,(1,(.t 3)))]),0,none⟩,⟨none,(.store 5 (.t 2) (.t 4)),0,none⟩] none) .ret))
def D6:List IRes:=[(.cell true 5 2)]
abbrev a5c:Nat:=5
def Tx:ZH:=XI []
theorem b2w{G:PV->Prop}(m:List Int)(h:G ((.agg [(.int .i64 1),(.sl 1 false (List.map enc m)),(.int .i64 0),(.sl 0 true []),(.sl 0 true [])]))):Zc Tx 0 (Za D6 G) Ba [] (Z9 5 [enc m]):=Zc.tp (.nil) h (by kernel_rfl)
def Hm:IC:=(.seq (.reg [⟨(some 0),(.mv (.c (.bool false))),0,none⟩] none) (.seq (.reg [⟨(some 5),(.call (.c (.fn 91)) [(.c (.int .i64 (-1)))]),0,none⟩,⟨(some 6),(.call (.c (.fn 89)) [(.t 5),(.c (.str [110])),(.c (.int .i64 2))]),2,none⟩,⟨(some 7),(.build [(.bool false),(.int .i64 0),(.sl 0 true [])] [(0,(1,(.c (.bool true)))),(1,(2,(.t 6)))]),4,none⟩,⟨(some 8),(.bslice 100 3 1 (.agg [(.bool false),(.int .i64 0),(.sl 0 true [])]) [(0,(.t 7))]),4,none⟩,⟨(some 1),(.mv (.t 8)),5,none⟩] none) (.seq (.reg [⟨(some 9),(.bslice 3 1 1 (.int .i64 0) [(0,(.c (.int .i64 1)))]),0,none⟩,⟨(some 10),(.bslice 3 1 2 (.int .i64 0) [(0,(.c (.int .i64 (-1)))),(1,(.c (.int .i64 0)))]),1,none⟩,⟨(some 11),(.bslice 3 1 3 (.int .i64 0) [(0,(.c (.int .i64 0))),(1,(.c (.int .i64 1))),(2,(.c (.int .i64 1)))]),2,none⟩,⟨(some 12),(.call (.c (.fn 92)) [(.t 11)]),3,none⟩,⟨(some 13),(.bslice 37 5 1 (.agg [(.int .i64 0),(.sl 0 true []),(.int .i64 0),(.sl 0 true []),(.sl 0 true [])]) [(0,(.t 12))]),5,none⟩,⟨(some 14),(.build [(.int .i64 0),(.sl 0 true []),(.int .i64 0),(.sl 0 true []),(.sl 0 true [])] [(0,(1,(.c (.int .i64 2)))),(1,(1,(.t 10))),(4,(1,(.t 13)))]),6,none⟩,⟨(some 15),(.bslice 37 5 1 (.agg [(.int .i64 0),(.sl 0 true []),(.int .i64 0),(.sl 0 true []),(.sl 0 true [])]) [(0,(.t 14))]),6,none⟩,⟨(some 16),(.build [(.int .i64 0),(.sl 0 true []),(.int .i64 0),(.sl 0 true []),(.sl 0 true [])] [(0,(1,(.c (.int .i64 2)))),(1,(1,(.t 9))),(4,(1,(.t 15)))]),7,none⟩,⟨(some 2),(.alloc (.agg [(.int .i64 0),(.sl 0 true []),(.int .i64 0),(.sl 0 true []),(.sl 0 true [])])),7,none⟩,⟨none,(.store 5 (.t 2) (.t 16)),8,none⟩] none) (.seq (.reg [⟨(some 18),(.mv (.t 1)),0,none⟩,⟨(some 19),(.bslice 3 1 1 (.int .i64 0) [(0,(.c (.int .i64 1)))]),0,none⟩,⟨(some 20),(.call (.c (.fn 93)) [(.t 18),(.t 19)]),1,none⟩,⟨(some 17),(.mv (.t 20)),3,none⟩,⟨(some 21),(.extract (.t 17) 0),3,none⟩,⟨(some 22),(.extract (.t 17) 1),3,none⟩,⟨(some 3),(.alloc (.agg [(.int .i64 0),(.sl 0 true [])])),3,none⟩,⟨none,(.store 2 (.t 3) (.t 21)),4,none⟩,⟨(some 4),(.mv (.t 22)),4,none⟩] none) (.seq (.reg [⟨(some 23),(.mv (.t 1)),0,none⟩,⟨(some 24),(.load true [(.int .i64),(.sl 1),(.int .i64),(.sl 2),(.sl 5)] (.t 2)),0,none⟩,⟨(some 25),(.call (.c (.fn 36)) [(.t 23),(.t 24)]),0,none⟩,⟨(some 26),(.bin .num .eql (.t 25) (.c (.int .i64 0))),2,none⟩,⟨(some 27),(.mv (.t 26)),2,none⟩,⟨(some 28),(.mv (.t 1)),2,(some (27,true))⟩,⟨(some 29),(.bslice 3 1 1 (.int .i64 0) [(0,(.c (.int .i64 1)))]),2,(some (27,true))⟩,⟨(some 30),(.call (.c (.fn 92)) [(.t 29)]),3,(some (27,true))⟩,⟨(some 31),(.call (.c (.fn 36)) [(.t 28),(.t 30)]),5,(some (27,true))⟩,⟨(some 32),(.bin .num .eql (.t 31) (.c (.int .i64 18))),7,(some (27,true))⟩,⟨(some 33),(.pick (.t 27) (.t 32) (.c (.bool false))),7,none⟩,⟨(some 34),(.mv (.t 33)),7,none⟩,⟨(some 35),(.load true [(.int .i64),(.sl 1),(.int .i64),(.sl 2),(.sl 5)] (.t 2)),7,(some (34,true))⟩,⟨(some 36),(.call (.c (.fn 94)) [(.t 35)]),7,(some (34,true))⟩,⟨(some 37),(.bin .num .eql (.t 36) (.c (.int .i64 3))),9,(some (34,true))⟩,⟨(some 38),(.pick (.t 34) (.t 37) (.c (.bool false))),9,none⟩,⟨(some 39),(.mv (.t 38)),9,none⟩,⟨(some 40),(.mv (.t 4)),9,(some (39,true))⟩,⟨(some 41),(.bin .num .eql (.t 40) (.c (.int .i64 0))),9,(some (39,true))⟩,⟨(some 42),(.pick (.t 39) (.t 41) (.c (.bool false))),9,none⟩,⟨(some 43),(.mv (.t 42)),9,none⟩,⟨(some 44),(.load true [(.int .i64),(.sl 2)] (.t 3)),9,(some (43,true))⟩,⟨(some 45),(.call (.c (.fn 18)) [(.t 44)]),9,(some (43,true))⟩,⟨(some 46),(.bin .num .eql (.t 45) (.c (.str [110,45,49]))),11,(some (43,true))⟩,⟨(some 47),(.pick (.t 43) (.t 46) (.c (.bool false))),11,none⟩,⟨(some 48),(.mv (.t 47)),11,none⟩,⟨(some 49),(.mv (.t 1)),11,(some (48,true))⟩,⟨(some 50),(.call (.c (.fn 95)) [(.t 49)]),11,(some (48,true))⟩,⟨(some 51),(.pick (.t 48) (.t 50) (.c (.bool false))),13,none⟩,⟨(some 0),(.mv (.t 51)),13,none⟩] none) .ret)))))
def Gc:List IRes:=[(.tmp 0)]
abbrev OC:Nat:=52
def Bc:ZH:=XI [(91,.pure (preT (fun _:Int×Unit=>true)) (Zf (fun x:Int×Unit=>(⟨x.1,[]⟩:Lin)))),(89,.pure (preT (fun x:Lin×Str×Int×Unit=>decide (x.1.t.length<=1000000))) (Zf (fun x:Lin×Str×Int×Unit=>Un x.1 x.2.1 x.2.2.1))),(92,.pure (preT (fun _:List Int×Unit=>true)) (Zf (fun x:List Int×Unit=>Cert.mk 1 x.1 ⟨0,[]⟩ []))),(93,.pure (preT (fun x:List Fact×List Int×Unit=>Zi x.1&&decide (x.1.length<=300))) (Zf (fun x:List Fact×List Int×Unit=>Yj x.1 x.2.1))),(36,.pure (preT (fun x:List Fact×Cert×Unit=>Zi x.1&&Vu x.2.1&&decide (x.1.length+Zt x.2.1<=300))) (Zf (fun x:List Fact×Cert×Unit=>Yp x.1 x.2.1))),(94,.pure (preT (fun x:Cert×Unit=>UA x.1)) (Zf (fun x:Cert×Unit=>Z7 x.1))),(18,.pure (preT (fun x:Lin×Unit=>decide (x.1=exL))) (Zf (fun _:Lin×Unit=>Sq))),(95,.pure (preT (fun x:List Fact×Unit=>Zi x.1)) (Zf (fun x:List Fact×Unit=>Zq x.1)))]
theorem a5q{G:PV->Prop}(h : ∃ y0:Lin,AV.pv (Zf (fun(x:Int×Unit)=>Lin.mk x.1 []) [(.int .i64 (-1))])=AV.pv (enc y0)∧((Go.Pl.preT (fun(x:Lin×Str×Int×Unit)=>decide (List.length x.1.t<=1000000)) [(.agg [(.int .i64 y0.k),(.sl 2 false (List.map enc y0.t))]),(.str [(110:UInt8)]),(.int .i64 2)])=true∧(∃ y1:Lin,AV.pv (Zf (fun(x:Lin×Str×Int×Unit)=>Un x.1 x.2.1 x.2.2.1) [(.agg [(.int .i64 y0.k),(.sl 2 false (List.map enc y0.t))]),(.str [(110:UInt8)]),(.int .i64 2)])=AV.pv (enc y1)∧(∃ y2:Cert,AV.pv (Zf (fun(x:List Int×Unit)=>Cert.mk 1 x.1 (Lin.mk 0 []) []) [(.sl 1 false [(.int .i64 0),(.int .i64 1),(.int .i64 1)])])=AV.pv (enc y2)∧((List.all [enc y2] fun(x:PV)=>List.length (PV.cells x)==5&&PV.cellsOk x)=true∧((Go.Pl.preT (fun(x:List Fact×List Int×Unit)=>Zi x.1&&decide (List.length x.1<=300)) [(.sl 3 false [(.agg [(.bool true),(.int .i64 y1.k),(.sl 2 false (List.map enc y1.t))])]),(.sl 1 false [(.int .i64 1)])])=true∧(∃ y3:Lin×Int,AV.pv (Zf (fun(x:List Fact×List Int×Unit)=>Yj x.1 x.2.1) [(.sl 3 false [(.agg [(.bool true),(.int .i64 y1.k),(.sl 2 false (List.map enc y1.t))])]),(.sl 1 false [(.int .i64 1)])])=AV.pv (enc y3)∧((Go.Pl.preT (fun(x:List Fact×Cert×Unit)=>Zi x.1&&Vu x.2.1&&decide (List.length x.1+Zt x.2.1<=300)) [(.sl 3 false [(.agg [(.bool true),(.int .i64 y1.k),(.sl 2 false (List.map enc y1.t))])]),(.agg [(.int .i64 2),(.sl 1 false [(.int .i64 1)]),(.int .i64 0),(.sl 0 true []),(.sl 5 false [(.agg [(.int .i64 2),(.sl 1 false [(.int .i64 (-1)),(.int .i64 0)]),(.int .i64 0),(.sl 0 true []),(.sl 5 false [enc y2])])])])])=true∧(∃ y4:Int,AV.pv (Zf (fun(x:List Fact×Cert×Unit)=>Yp x.1 x.2.1) [(.sl 3 false [(.agg [(.bool true),(.int .i64 y1.k),(.sl 2 false (List.map enc y1.t))])]),(.agg [(.int .i64 2),(.sl 1 false [(.int .i64 1)]),(.int .i64 0),(.sl 0 true []),(.sl 5 false [(.agg [(.int .i64 2),(.sl 1 false [(.int .i64 (-1)),(.int .i64 0)]),(.int .i64 0),(.sl 0 true []),(.sl 5 false [enc y2])])])])])=AV.pv (enc y4)∧(if (y4==0)=true then ∃ y5:Cert,AV.pv (Zf (fun(x:List Int×Unit)=>Cert.mk 1 x.1 (Lin.mk 0 []) []) [(.sl 1 false [(.int .i64 1)])])=AV.pv (enc y5)∧((Go.Pl.preT (fun(x:List Fact×Cert×Unit)=>Zi x.1&&Vu x.2.1&&decide (List.length x.1+Zt x.2.1<=300)) [(.sl 3 false [(.agg [(.bool true),(.int .i64 y1.k),(.sl 2 false (List.map enc y1.t))])]),enc y5])=true∧(∃ y6:Int,AV.pv (Zf (fun(x:List Fact×Cert×Unit)=>Yp x.1 x.2.1) [(.sl 3 false [(.agg [(.bool true),(.int .i64 y1.k),(.sl 2 false (List.map enc y1.t))])]),enc y5])=AV.pv (enc y6)∧(if (y6==18)=true then(Go.Pl.preT (fun(x:Cert×Unit)=>UA x.1) [(.agg [(.int .i64 2),(.sl 1 false [(.int .i64 1)]),(.int .i64 0),(.sl 0 true []),(.sl 5 false [(.agg [(.int .i64 2),(.sl 1 false [(.int .i64 (-1)),(.int .i64 0)]),(.int .i64 0),(.sl 0 true []),(.sl 5 false [enc y2])])])])])=true∧(∃ y7:Int,AV.pv (Zf (fun(x:Cert×Unit)=>Z7 x.1) [(.agg [(.int .i64 2),(.sl 1 false [(.int .i64 1)]),(.int .i64 0),(.sl 0 true []),(.sl 5 false [(.agg [(.int .i64 2),(.sl 1 false [(.int .i64 (-1)),(.int .i64 0)]),(.int .i64 0),(.sl 0 true []),(.sl 5 false [enc y2])])])])])=AV.pv (enc y7)∧(if (y7==3)=true then if (y3.2==0)=true then(Go.Pl.preT (fun(x:Lin×Unit)=>decide (x.1=exL)) [(.agg [(.int .i64 y3.1.k),(.sl 2 false (List.map enc y3.1.t))])])=true∧(∃ y8:Str,AV.pv (Zf (fun(x:Lin×Unit)=>Sq) [(.agg [(.int .i64 y3.1.k),(.sl 2 false (List.map enc y3.1.t))])])=AV.pv (enc y8)∧(if (Str.s y8==[(110:UInt8),(45:UInt8),(49:UInt8)])=true then(Go.Pl.preT (fun(x:List Fact×Unit)=>Zi x.1) [(.sl 3 false [(.agg [(.bool true),(.int .i64 y1.k),(.sl 2 false (List.map enc y1.t))])])])=true∧(∃ y9:Bool,AV.pv (Zf (fun(x:List Fact×Unit)=>Zq x.1) [(.sl 3 false [(.agg [(.bool true),(.int .i64 y1.k),(.sl 2 false (List.map enc y1.t))])])])=AV.pv (enc y9)∧(G ((.bool y9))))else(G ((.bool false)))))else(G ((.bool false)))else(G ((.bool false)))))else(G ((.bool false))))))else(G ((.bool false))))))))))))):Zc Bc 0 (Za Gc G) Hm [] (Z9 52 []):=Zc.tp (.lit (.abs (Lin) (fun YY=>AV.pv (enc YY)) (.req (.abs (Lin) (fun YY=>AV.pv (enc YY)) (.lit (.lit (.lit (.lit (.lit (.lit (.abs (Cert) (fun YY=>AV.pv (enc YY)) (.req (.lit (.lit (.lit (.lit (.lit (.lit (.req (.abs (Lin×Int) (fun YY=>AV.pv (enc YY)) (.lit (.lit (.lit (.req (.abs (Int) (fun YY=>AV.pv (enc YY)) (.lit (.ask (.lit (.lit (.lit (.lit (.lit (.abs (Cert) (fun YY=>AV.pv (enc YY)) (.lit (.lit (.req (.abs (Int) (fun YY=>AV.pv (enc YY)) (.lit (.lit (.lit (.ask (.lit (.lit (.lit (.req (.abs (Int) (fun YY=>AV.pv (enc YY)) (.lit (.lit (.lit (.ask (.lit (.lit (.lit (.ask (.lit (.req (.abs (Str) (fun YY=>AV.pv (enc YY)) (.lit (.lit (.lit (.ask (.lit (.lit (.req (.abs (Bool) (fun YY=>AV.pv (enc YY)) (.lit (.nil)))))) (.lit (.lit (.nil)))))))))) (.lit (.lit (.lit (.lit (.lit (.lit (.nil))))))))))) (.lit (.lit (.lit (.lit (.lit (.lit (.lit (.lit (.lit (.nil))))))))))))))))))) (.lit (.lit (.lit (.lit (.lit (.lit (.lit (.lit (.lit (.lit (.lit (.lit (.lit (.nil)))))))))))))))))))))))))))) (.lit (.lit (.lit (.lit (.lit (.lit (.lit (.lit (.lit (.lit (.lit (.lit (.lit (.lit (.lit (.lit (.lit (.lit (.lit (.nil))))))))))))))))))))))))))))))))))))))))))))))) h (by kernel_rfl)
end Go.Pl

