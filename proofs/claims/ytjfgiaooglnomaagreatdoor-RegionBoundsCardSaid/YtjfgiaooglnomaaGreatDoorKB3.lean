/-
  Texts of mine that belong together (packed by pack.py), for every input: TyL, TyM, TyN, TyT, TyO, TyS, GLb, GLa, QLa, QLb, GLc, QLc, GLd, QLd, TyU, QLh, QLm, GLe, QLe, GLg, QLg, QLf, GLi, GL1, QL1, QL2, QLi, QLj, QL3, QL4, GL5, QL5, GL7, QL7, TyR, GLr, QRp, QRq, TyRa, GRa, QGa, GRb, TyP, GLo, QLq, QGb.
-/
import Derived.Test.YtjfgiaooglnomaaGreatDoorKB2
import Derived.KernelRfl
import Derived.Lib.AtoiAllMem
import Derived.Lib.AtoiAllCases
import Derived.Lib.ItoaNum
set_option linter.unusedVariables false
set_option linter.unusedSimpArgs false
namespace Go.Pl
open Go.RowKit
open Enc (enc dec is)
open EncL (encL decL isL)
structure Coef where
 v:Str
 c:Int
 deriving DecidableEq
instance:Enc Coef where
 sz:=2
 enc x:=.agg [enc x.v,enc x.c]
 dec | .agg [a,b]=>⟨dec a,dec b⟩|_=>⟨⟨[]⟩,0⟩
 is | .agg [a,b]=>is Str a&&is Int b|_=>false
 is_enc v:=by simp
 dec_enc v:=by simp
 sub p h:=by
  cases p with
  | agg xs=>
   match xs,h with
   | [a,b],h=>
    simp only[Bool.and_eq_true]at h
    exact .agg (.cons (Enc.sub a h.1).2 (.cons (Enc.sub b h.2).2 .nil))
  | _=>cases h
structure Lin where
 k:Int
 t:List Coef
 deriving DecidableEq
instance:Enc Lin where
 sz:=2
 enc x:=.agg [enc x.k,enc x.t]
 dec | .agg [a,b]=>⟨dec a,dec b⟩|_=>⟨0,[]⟩
 is | .agg [a,b]=>is Int a&&is (List Coef) b|_=>false
 is_enc v:=by simp
 dec_enc v:=by simp
 sub p h:=by
  cases p with
  | agg xs=>
   match xs,h with
   | [a,b],h=>
    simp only[Bool.and_eq_true]at h
    exact .agg (.cons (Enc.sub a h.1).2 (.cons (Enc.sub b h.2).2 .nil))
  | _=>cases h
@[simp] theorem c8x (a b : PV) : is Coef (.agg [a, b]) = (is Str a && is Int b) := rfl
@[simp] theorem c7z (a b : PV) : (dec (.agg [a, b]) : Coef) = ⟨dec a, dec b⟩ := rfl
@[simp] theorem c9v (a b : PV) : is Lin (.agg [a, b]) = (is Int a && is (List Coef) b) := rfl
@[simp] theorem c8r (a b : PV) : (dec (.agg [a, b]) : Lin) = ⟨dec a, dec b⟩ := rfl
def Wn(c:UInt8):Bool:=decide (48<=c)&&decide (c<=57)
def WB(c:UInt8):Bool:=decide (97<=c)&&decide (c<=122)
def ZA(s:Str):Bool:=match s.s with
 | []=>false
 | c::r=>if c=95 then r.all Wn&& !r.isEmpty&&decide (r.head? ≠ some 48)&&decide (r.length<=9)else WB c&&r.all (fun c=>WB c||Wn c)&&decide (r.length<=29)
def Yp(n:Int):Bool:=decide (-1000000<=n)&&decide (n<=1000000)
def Jg:List Coef->Bool
 | a::b::l=>decide (a.v.s<b.v.s)&&Jg (b::l)
 | _=>true
def Zg(l:Lin):Bool:=l.t.all (fun t=>ZA t.v&&decide (t.c≠0)&&Yp t.c)&&Jg l.t&&Yp l.k&&decide (l.t.length<=12)
def atM(m:List (Str×Int))(s:List UInt8):Int:=((m.find? fun p=>p.1.s==s).map (·.2)).getD 0
end Go.Pl

namespace Go.Pl
open Go.RowKit
open Enc (enc dec is)
open EncL (encL decL isL)
structure Fact where
 eq:Bool
 l:Lin
 deriving DecidableEq
instance:Enc Fact where
 sz:=3
 enc x:=.agg [enc x.eq,enc x.l.k,enc x.l.t]
 dec | .agg [a,b,c]=>⟨dec a,⟨dec b,dec c⟩⟩|_=>⟨false,⟨0,[]⟩⟩
 is | .agg [a,b,c]=>is Bool a&&is Int b&&is (List Coef) c|_=>false
 is_enc v:=by simp
 dec_enc v:=by simp
 sub p h:=by
  cases p with
  | agg xs=>
   match xs,h with
   | [a,b,c],h=>
    simp only[Bool.and_eq_true]at h
    exact .agg (.cons (Enc.sub a h.1.1).2 (.cons (Enc.sub b h.1.2).2 (.cons (Enc.sub c h.2).2 .nil)))
  | _=>cases h
@[simp] theorem c9e (a b c : PV) : is Fact (.agg [a, b, c]) = (is Bool a && is Int b && is (List Coef) c) := rfl
@[simp] theorem c7o (a b c : PV) : (dec (.agg [a, b, c]) : Fact) = ⟨dec a, ⟨dec b, dec c⟩⟩ := rfl
structure Bnd where
 kind:Int
 v:Str
 dim:Lin
 row:Str
 dims:List Lin
 elem:Str
 deriving DecidableEq
instance:Enc Bnd where
 sz:=7
 enc x:=.agg [enc x.kind,enc x.v,enc x.dim.k,enc x.dim.t,enc x.row,enc x.dims,enc x.elem]
 dec | .agg [a,b,c,d,e,f,g]=>⟨dec a,dec b,⟨dec c,dec d⟩,dec e,dec f,dec g⟩|_=>⟨0,⟨[]⟩,⟨0,[]⟩,⟨[]⟩,[],⟨[]⟩⟩
 is | .agg [a,b,c,d,e,f,g]=>is Int a&&is Str b&&is Int c&&is (List Coef) d&&is Str e&&is (List Lin) f&&is Str g|_=>false
 is_enc v:=by simp
 dec_enc v:=by simp
 sub p h:=by
  cases p with
  | agg xs=>
   match xs,h with
   | [a,b,c,d,e,f,g],h=>
    simp only[Bool.and_eq_true]at h
    exact .agg (.cons (Enc.sub a h.1.1.1.1.1.1).2 (.cons (Enc.sub b h.1.1.1.1.1.2).2 (.cons (Enc.sub c h.1.1.1.1.2).2 (.cons (Enc.sub d h.1.1.1.2).2 (.cons (Enc.sub e h.1.1.2).2 (.cons (Enc.sub f h.1.2).2 (.cons (Enc.sub g h.2).2 .nil)))))))
  | _=>cases h
@[simp] theorem c9m (a b c d e f g : PV) : is Bnd (.agg [a, b, c, d, e, f, g]) = (is Int a && is Str b && is Int c && is (List Coef) d && is Str e && is (List Lin) f && is Str g) := rfl
@[simp] theorem c8y (a b c d e f g : PV) : (dec (.agg [a, b, c, d, e, f, g]) : Bnd) = ⟨dec a, dec b, ⟨dec c, dec d⟩, dec e, dec f, dec g⟩ := rfl
inductive Cert where
 | mk (kind:Int) (mults:List Int) (lin:Lin) (kids:List Cert)
mutual
def KH:Cert->PV
 | .mk k m l ks=>.agg [enc k,enc m,enc l.k,enc l.t,.sl 5 false (X0 ks)]
def X0:List Cert->List PV
 | []=>[]
 | c::cs=>KH c::X0 cs
end
mutual
def Gi:PV->Cert
 | .agg [a,b,c,d,.sl _ _ ks]=>.mk (dec a) (dec b) ⟨dec c,dec d⟩ (Vn ks)
 | _=>.mk 0 [] ⟨0,[]⟩ []
def Vn:List PV->List Cert
 | []=>[]
 | p::ps=>Gi p::Vn ps
end
mutual
def Qg:PV->Bool
 | .agg [a,b,c,d,.sl s _ ks]=>is Int a&&is (List Int) b&&is Int c&&is (List Coef) d&&(ks.isEmpty||s==5)&&Qm ks
 | _=>false
def Qm:List PV->Bool
 | []=>true
 | p::ps=>Qg p&&Qm ps
end
theorem FI(cs:List Cert):X0 cs=cs.map KH:=by
 induction cs with
 | nil=>simp[X0]
 | cons c cs ih=>simp[X0,ih]
theorem O7(cs:List PV):Vn cs=cs.map Gi:=by
 induction cs with
 | nil=>simp[Vn]
 | cons c cs ih=>simp[Vn,ih]
theorem Fw(cs:List PV):Qm cs=cs.all Qg:=by
 induction cs with
 | nil=>simp[Qm]
 | cons c cs ih=>simp[Qm,ih]
mutual
theorem a2d: ∀ c:Cert,Qg (KH c)=true
 | .mk k m l ks=>by
  have h:=Mi ks
  simp only[KH,Qg,Enc.is_enc,Bool.true_and,Bool.and_eq_true,h,and_true]
  simp
theorem Mi: ∀ cs:List Cert,Qm (X0 cs)=true
 | []=>by simp[X0,Qm]
 | c::cs=>by simp[X0,Qm,a2d c,Mi cs]
end
mutual
theorem a1j: ∀ c:Cert,Gi (KH c)=c
 | .mk k m l ks=>by
  have h:=Mf ks
  simp only[KH,Gi,Enc.dec_enc,h]
theorem Mf: ∀ cs:List Cert,Vn (X0 cs)=cs
 | []=>by simp[X0,Vn]
 | c::cs=>by simp[X0,Vn,a1j c,Mf cs]
end
mutual
theorem NK: ∀ p:PV,Qg p=true->Ql p (KH (Gi p))
 | .agg [a,b,c,d,.sl s t ks],h=>by
  simp only[Qg,Bool.and_eq_true]at h
  obtain⟨⟨⟨⟨⟨h1,h2⟩,h3⟩,h4⟩,h5⟩,h6⟩:=h
  have hk:=TG ks h6
  simp only[Gi,KH]
  refine .agg (.cons (Enc.sub a h1).2 (.cons (Enc.sub b h2).2 (.cons (Enc.sub c h3).2 (.cons (Enc.sub d h4).2 (.cons ?_ .nil)))))
  simp only[Bool.or_eq_true,List.isEmpty_iff,beq_iff_eq]at h5
  rcases h5 with rfl|rfl
  ·simp only[Vn,X0]
   exact(Ql.sl0 _ _ _).2
  ·exact(Ql.sl hk.1 hk.2).2
 | .bool _,h | .int _ _,h | .str _,h | .sl _ _ _,h | .tup _,h | .nilp,h | .nilmap,h | .nilfn,h | .nili,h | .ifc,h | .fn _,h | .rptr _,h=>by simp[Qg]at h
 | .agg [],h | .agg [_],h | .agg [_,_],h | .agg [_,_,_],h | .agg [_,_,_,_],h=>by simp[Qg]at h
 | .agg (a::b::c::d::e::f::g),h=>by
  have h':Qg (.agg (a::b::c::d::e::f::g))=false:=by cases e <;> kernel_rfl
  rw[h']at h;cases h
 | .agg [_,_,_,_,.bool _],h | .agg [_,_,_,_,.int _ _],h | .agg [_,_,_,_,.str _],h | .agg [_,_,_,_,.agg _],h | .agg [_,_,_,_,.tup _],h | .agg [_,_,_,_,.nilp],h | .agg [_,_,_,_,.nilmap],h | .agg [_,_,_,_,.nilfn],h | .agg [_,_,_,_,.nili],h | .agg [_,_,_,_,.ifc],h | .agg [_,_,_,_,.fn _],h | .agg [_,_,_,_,.rptr _],h=>by simp[Qg]at h
theorem TG: ∀ ps:List PV,Qm ps=true->ps.length=(X0 (Vn ps)).length∧ ∀ (j:Nat) x y,ps[j]? = some x->(X0 (Vn ps))[j]? = some y->Ql x y
 | [],_=>⟨by simp[Vn,X0],fun j x y h=>by simp at h⟩
 | p::ps,h=>by
  simp only[Qm,Bool.and_eq_true]at h
  have h1:=NK p h.1
  have h2:=TG ps h.2
  refine⟨by simp[Vn,X0,<- h2.1],fun j x y hx hy=> ?_⟩
  simp only[Vn,X0]at hy
  cases j with
  | zero=>simp at hx hy;subst hx hy;exact h1
  | succ j=>exact h2.2 j x y (by simpa using hx) (by simpa using hy)
end
instance:Enc Cert where
 sz:=5
 enc:=KH
 dec:=Gi
 is:=Qg
 is_enc:=a2d
 dec_enc:=a1j
 sub:=NK
abbrev Cert.kind:Cert->Int | .mk k _ _ _=>k
abbrev Cert.mults:Cert->List Int | .mk _ m _ _=>m
abbrev Cert.lin:Cert->Lin | .mk _ _ l _=>l
abbrev Cert.kids:Cert->List Cert | .mk _ _ _ k=>k
theorem V9(k:Int)(m:List Int)(l:Lin)(ks:List Cert):(enc (Cert.mk k m l ks):PV) = .agg [enc k,enc m,enc l.k,enc l.t,enc ks]:=by
 show KH _=_
 rw[KH,FI]
 rfl
@[simp] theorem c8v (a b c d e : PV) : is Cert (.agg [a, b, c, d, e]) = (is Int a && is (List Int) b && is Int c && is (List Coef) d && is (List Cert) e) := by
 show Qg _=_
 cases e <;> simp only[Qg] <;> try (simp[is];done)
 rename_i s t ks
 rw[Fw]
 show _=(_&&((ks.isEmpty||s==5)&&ks.all Qg))
 rw[Bool.and_assoc]
@[simp] theorem c7s (a b c d e : PV) (h : is (List Cert) e = true) : (dec (.agg [a, b, c, d, e]) : Cert) = .mk (dec a) (dec b) ⟨dec c, dec d⟩ (dec e) := by
 show Gi _=_
 cases e <;> try (cases h;done)
 rw[Gi,O7]
 rfl
end Go.Pl

namespace Go.Pl
open Enc (enc dec is)
structure Er where
 b:Bool
 deriving DecidableEq
instance:Enc Er where
 sz:=1
 enc x:=if x.b then .ifc else .nili
 dec | .ifc=>⟨true⟩|_=>⟨false⟩
 is | .ifc=>true | .nili=>true|_=>false
 is_enc v:=by obtain⟨b⟩:=v;cases b <;> rfl
 dec_enc v:=by obtain⟨b⟩:=v;cases b <;> rfl
 sub p h:=by cases p <;> first|exact .refl _|cases h
def Yv(s:Str):Int×Er:=match Lib.atoiAll s.s with
 | .ok v=>(v,⟨false⟩)
 | .range=>(Lib.atoiSat s.s,⟨true⟩)
 | _=>(0,⟨true⟩)
def M4(n:Int):Str:=⟨Lib.itoa n⟩
def KG(l:Lin)(n:Int):Bool:=l.t.all (fun t=>decide (t.v.s.length<=40))&&decide ((l.t.length:Int)<=n)
abbrev XO(n:Int):Int:=IntKind.i64.wrap n
def Xu(s:Str)(c:Int):Bool->List Coef->List Coef
 | put,[]=>if put then []else [⟨s,c⟩]
 | put,t::r=>(if !put&&decide (s.s<t.v.s)then [⟨s,c⟩]else [])++(if t.v=s then⟨t.v,XO (t.c+c)⟩::Xu s c true r else t::Xu s c (put||decide (s.s<t.v.s)) r)
def WW(l:Lin)(s:Str)(c:Int):Lin:=⟨l.k,(Xu s c false l.t).filter fun t=>decide (t.c≠0)⟩
def Vm(l x:Lin)(k:Int):Lin:=x.t.foldl (fun o t=>WW o t.v (XO (k*t.c))) ⟨XO (l.k+XO (k*x.k)),l.t⟩
def Us(v:List Coef)(s:Str):Option Int:=(v.find? fun t=>decide (t.v=s)).map (·.c)
def Vy(v:List Coef):Int->List Coef->Int×Int
 | n,[]=>(n,0)
 | n,t::r=>match Us v t.v with
  | none=>(0,7)
  | some x=>if x < -1000000000 then(0,2)else if x>1000000000 then(0,2)else Vy v (XO (n+XO (t.c*x))) r
def ZX(l:Lin)(v:List Coef):Int×Int:=if Zg l then Vy v l.k l.t else(0,1)
def U1(n:Int):Bool:=decide (-4611686018427387904<=n)&&decide (n<=4611686018427387904)
mutual
def CP:Cert->Int
 | .mk _ _ _ ks=>GN 1 ks
def GN(n:Int):List Cert->Int
 | []=>n
 | c::cs=>GN (XO (n+CP c)) cs
end
def YC(l:Lin):Bool:=decide (l.t.length<=9223372036854775807)
def ZP(l:Lin):Bool:=YC l&&l.t.all fun t=>decide (t.v.s.length<=1000000)
mutual
def cOk:Cert->Bool
 | .mk _ m l ks=>decide (m.length<=9223372036854775807)&&YC l&&decide (ks.length<=9223372036854775807)&&a5f ks
def a5f:List Cert->Bool
 | []=>true
 | c::cs=>cOk c&&a5f cs
end
mutual
def c5i:Cert->Nat
 | .mk _ _ _ ks=>LU ks+1
def LU:List Cert->Nat
 | []=>0
 | c::cs=>max (c5i c) (LU cs)
end
end Go.Pl

namespace Go.Pl
open Go.RowKit
open Enc (enc dec is)
open EncL (encL decL isL)
theorem ZY{α:Type}[Enc α]{l:List α}{i:Nat}(h:i<l.length){P:α->Prop}(k:P l[i]):
  ∃ y:α,AV.pv (PV.rptr (PV.cells (List.getD (List.map enc l) (Int.toNat (i:Int)) default)))=AV.pv (PV.rptr (PV.cells (enc y)))∧P y:=⟨l[i],by rw[LZ enc h],k⟩
theorem ZB{α:Type}[Enc α]{l:List α}{i n:Nat}(h:i<l.length)(hn:Enc.sz α=n):(decide (0<=(i:Int))&&decide (Int.toNat (i:Int)<List.length (List.map (enc:α->PV) l))&&Enc.sz α==n)=true:=by simp[hn,h]
theorem Uj{α:Type}[Enc α]{l:List α}{i:Nat}(h:i<l.length):decide ((i:Int)<(List.length (List.map (enc:α->PV) l):Int))=true:=by simp;omega
theorem UJ{α:Type}[Enc α]{l:List α}{i:Nat}(h : ¬ i<l.length): ¬ decide ((i:Int)<(List.length (List.map (enc:α->PV) l):Int))=true:=by simp;omega
theorem Ya{n i:Nat}(h:i<n):decide ((i:Int)<(n:Int))=true:=by simp;omega
theorem Yd{n i:Nat}(h : ¬ i<n): ¬ decide ((i:Int)<(n:Int))=true:=by simp;omega
theorem c2j{P Q:Prop}:(if (!false)=true then P else Q)=P:=rfl
theorem c7w{P Q:Prop}:(if (!true)=true then P else Q)=Q:=rfl
theorem ZV{c:Prop}[Decidable c]{P Q:Prop}(h:c)(k:P):if c then P else Q:=by rw[if_pos h];exact k
theorem Z0{c:Prop}[Decidable c]{P Q:Prop}(h : ¬ c)(k:Q):if c then P else Q:=by rw[if_neg h];exact k
theorem Vu{b:Bool}{P Q:Prop}(h1:b=false->P)(h2:b=true->Q):if (!b)=true then P else Q:=by cases b;exact h1 rfl;exact h2 rfl
theorem Xj{b:Bool}{P Q:Prop}(h1:b=true->P)(h2:b=false->Q):if b=true then P else Q:=by cases b;exact h2 rfl;exact h1 rfl
theorem WR{c:Prop}[Decidable c]{P Q:Prop}(h1:c->P)(h2 : ¬ c->Q):if decide c=true then P else Q:=by by_cases h:c;rw[if_pos (by simpa using h)];exact h1 h;rw[if_neg (by simpa using h)];exact h2 h
theorem JZ{α:Type}[BEq α][LawfulBEq α]{x y:α}{P Q:Prop}(h1:x=y->P)(h2:x≠y->Q):if (x==y)=true then P else Q:=by by_cases h:x=y;rw[if_pos (by simpa using h)];exact h1 h;rw[if_neg (by simpa using h)];exact h2 h
theorem ZK{β:Type}[Enc β]{x y:β}(h:x=y):Zm y (enc x):=⟨Enc.is_enc x,by rw[Enc.dec_enc,h]⟩
theorem ZZ{x y:Bool}(h:x=y):Zm y (.bool x):=⟨rfl,h⟩
theorem Ka{x y:Int}(h:x=y):Zm y (.int .i64 x):=⟨rfl,h⟩
section
variable (x:Coef) (f:Fact)
theorem co1:PV.asStr (List.getD (PV.cells (enc x)) 0 default)=x.v.s:=rfl
theorem co2:PV.asInt (List.getD (PV.cells (enc x)) (0+1) default)=x.c:=rfl
theorem co3:PV.asStr (List.getD (List.drop 0 (PV.cells (enc x))) 0 default)=x.v.s:=rfl
theorem co4:PV.asInt (List.getD (List.drop 1 (PV.cells (enc x))) 0 default)=x.c:=rfl
end
theorem c2a{c:UInt8}(n:Nat)(h:c≠UInt8.ofNat n)(hn:n<256): ¬ ((c.toNat:Int)==(n:Int))=true:=by
 intro e
 have e:(c.toNat:Int)=n:=by simpa using e
 have e:c.toNat=n:=by omega
 exact h (UInt8.toNat_inj.1 (by rw[e,UInt8.toNat_ofNat'];omega))
theorem YP: ∀ a b:List UInt8,Op.bytesLess a b=decide (a<b)
 | [],[]=>by simp[Op.bytesLess]
 | _::_,[]=>by simp[Op.bytesLess]
 | [],_::_=>by simp[Op.bytesLess]
 | x::a,y::b=>by
  rw[Op.bytesLess,YP a b]
  simp only[List.cons_lt_cons_iff]
  by_cases h1:x<y
  ·simp[h1]
  ·by_cases h2:x=y
   ·subst h2;simp
   ·simp[h1,h2]
theorem Zr.fuel{P:Program}{f:Nat}{α β:Type}[EncL α][Enc β]{pre:α->Bool}{F:α->β}(μ:α->Nat)(h : ∀ N,Zr P f (fun a=>pre a&&decide (μ a<N)) F):Zr P f pre F:=fun ps hps=>by
 refine h (μ (decL ps)+1) ps ?_
 simp only[preT,Bool.and_eq_true,decide_eq_true_eq]at hps ⊢
 exact⟨hps.1,hps.2,by omega⟩
theorem Zr.void{P:Program}{f:Nat}{α β:Type}[EncL α][Enc β]{pre:α->Bool}{F:α->β}(h : ∀ a,pre a=false):Zr P f pre F:=fun ps hps=>by simp[preT,h]at hps
theorem Zr.rec{P:Program}{f:Nat}{α β:Type}[EncL α][Enc β]{pre:α->Bool}{F:α->β}(μ:α->Nat)(h : ∀ N,Zr P f (fun a=>pre a&&decide (μ a<N)) F->Zr P f (fun a=>pre a&&decide (μ a<N+1)) F):Zr P f pre F:=by
 refine Zr.fuel μ fun N=> ?_
 induction N with
 | zero=>exact Zr.void fun a=>by simp
 | succ N ih=>exact h N ih
theorem Zr.or{P:Program}{f:Nat}{α β:Type}[EncL α][Enc β]{pre:α->Bool}{F:α->β}(c:α->Bool)(h1:Zr P f (fun a=>pre a&&c a) F)(h2:Zr P f (fun a=>pre a&& !c a) F):Zr P f pre F:=fun ps hps=>by
 have hps':=hps
 simp only[preT,Bool.and_eq_true]at hps'
 cases hc:c (decL ps)
 ·exact h2 ps (by simp only[preT,hps'.1,hps'.2,hc];rfl)
 ·exact h1 ps (by simp only[preT,hps'.1,hps'.2,hc];rfl)
mutual
def Sm:PV->PV->Bool
 | .bool a,.bool b=>a==b
 | .int k a,.int l b=>JX k l&&a==b
 | .str a,.str b=>a==b
 | .sl s t xs,.sl s' t' ys=>s==s'&&t==t'&&DY xs ys
 | .agg xs,.agg ys=>DY xs ys
 | .tup xs,.tup ys=>DY xs ys
 | .nilp,.nilp=>true
 | .nilmap,.nilmap=>true
 | .nilfn,.nilfn=>true
 | .nili,.nili=>true
 | .ifc,.ifc=>true
 | .fn a,.fn b=>a==b
 | .rptr xs,.rptr ys=>DY xs ys
 | _,_=>false
def DY:List PV->List PV->Bool
 | [],[]=>true
 | x::xs,y::ys=>Sm x y&&DY xs ys
 | _,_=>false
end
theorem LW(k:IntKind):JX k k=true:=by cases k <;> rfl
mutual
theorem a9j: ∀ (p q:PV),Sm p q=true->p=q
 | .bool a,q,h=>by cases q <;> simp[Sm]at h;rw[h]
 | .int k a,q,h=>by cases q <;> simp[Sm]at h;rw[Jd h.1,h.2]
 | .str a,q,h=>by cases q <;> simp[Sm]at h;rw[h]
 | .sl s t xs,q,h=>by cases q <;> simp[Sm]at h;rw[h.1.1,h.1.2,Gq xs _ h.2]
 | .agg xs,q,h=>by cases q <;> simp[Sm]at h;rw[Gq xs _ h]
 | .tup xs,q,h=>by cases q <;> simp[Sm]at h;rw[Gq xs _ h]
 | .nilp,q,h=>by cases q <;> simp[Sm]at h;rfl
 | .nilmap,q,h=>by cases q <;> simp[Sm]at h;rfl
 | .nilfn,q,h=>by cases q <;> simp[Sm]at h;rfl
 | .nili,q,h=>by cases q <;> simp[Sm]at h;rfl
 | .ifc,q,h=>by cases q <;> simp[Sm]at h;rfl
 | .fn a,q,h=>by cases q <;> simp[Sm]at h;rw[h]
 | .rptr xs,q,h=>by cases q <;> simp[Sm]at h;rw[Gq xs _ h]
theorem Gq: ∀ (xs ys:List PV),DY xs ys=true->xs=ys
 | [],ys,h=>by cases ys <;> simp[DY]at h;rfl
 | x::xs,ys,h=>by
  cases ys with
  | nil=>simp[DY]at h
  | cons y ys=>simp[DY]at h;rw[a9j x y h.1,Gq xs ys h.2]
end
mutual
theorem LA: ∀ (p:PV),Sm p p=true
 | .bool a | .str a | .fn a=>by simp[Sm]
 | .int k a=>by simp[Sm,LW]
 | .sl s t xs=>by simp[Sm,GR xs]
 | .agg xs | .tup xs | .rptr xs=>by simp[Sm,GR xs]
 | .nilp | .nilmap | .nilfn | .nili | .ifc=>by simp[Sm]
theorem GR: ∀ (xs:List PV),DY xs xs=true
 | []=>by simp[DY]
 | x::xs=>by simp[DY,LA x,GR xs]
end
def XX(α:Type)[Enc α](p:PV):Bool:=Sm p (enc (dec p:α))
@[simp] theorem ZI {α : Type} [Enc α] (a : α) : XX α (enc a) = true := by unfold XX; rw [Enc.dec_enc]; exact LA _
theorem Ym{α:Type}[Enc α]{p:PV}(h:XX α p=true): ∃ a:α,p=enc a:=⟨_,a9j _ _ h⟩
end Go.Pl

namespace Go.Pl
open Enc (enc dec is)
@[irreducible] def JW (a : Nat) (r : List UInt8) : Nat := r.foldl (fun a c => a * 10 + (c.toNat - 48)) a
theorem H7(a:Nat):JW a []=a:=by unfold JW;rfl
theorem QJ(a:Nat)(c:UInt8)(r:List UInt8):JW a (c::r)=JW (a*10+(c.toNat - 48)) r:=by unfold JW;rfl
theorem Vd{c:UInt8}:Wn c=true ↔ 48<=c.toNat∧c.toNat<=57:=by
 simp only[Wn,Bool.and_eq_true,decide_eq_true_eq,UInt8.le_iff_toNat_le]
 have e1:(48:UInt8).toNat=48:=rfl
 have e2:(57:UInt8).toNat=57:=rfl
 rw[e1,e2]
theorem a1u: ∀ (r:List UInt8) (a:Nat),r.all Wn=true->JW a r<(a+1)*10 ^ r.length
 | [],a,_=>by simp[H7]
 | c::r,a,h=>by
  simp only[List.all_cons,Bool.and_eq_true,Vd]at h
  have:=a1u r (a*10+(c.toNat - 48)) h.2
  rw[QJ,List.length_cons,Nat.pow_succ]
  refine Nat.lt_of_lt_of_le this ?_
  rw[Nat.mul_comm (10 ^ r.length) 10,<- Nat.mul_assoc]
  exact Nat.mul_le_mul_right _ (by omega)
theorem PU: ∀ (r:List UInt8) (a:Nat),a<=JW a r
 | [],a=>by rw[H7];exact Nat.le_refl _
 | c::r,a=>by
  have:=PU r (a*10+(c.toNat - 48))
  rw[QJ]
  omega
theorem TZ: ∀ (r:List UInt8) (a:Nat),r.all Wn=true->JW a r<1000000000000000000->Lib.parseUint10 a r = .ok (JW a r)
 | [],a,_,_=>by rw[H7,Lib.parseUint10]
 | c::r,a,h,hv=>by
  simp only[List.all_cons,Bool.and_eq_true,Vd]at h
  rw[QJ]at hv ⊢
  have hge:=PU r (a*10+(c.toNat - 48))
  rw[Lib.parseUint10,if_pos h.1,if_neg (by omega),if_neg (by omega)]
  exact TZ r _ h.2 hv
theorem b3x{a d:Nat}(ha:1<=a)(hd:d<=9):Lib.decDigits (a*10+d)=Lib.decDigits a++[UInt8.ofNat (48+d)]:=by
 rw[Lib.decDigits,dif_neg (by omega),show(a*10+d) / 10=a by omega,show(a*10+d) % 10=d by omega]
theorem a1z: ∀ (r:List UInt8) (a:Nat),1<=a->r.all Wn=true->Lib.decDigits (JW a r)=Lib.decDigits a++r
 | [],a,_,_=>by simp[H7]
 | c::r,a,ha,h=>by
  simp only[List.all_cons,Bool.and_eq_true,Vd]at h
  rw[QJ,a1z r _ (by omega) h.2,b3x ha (by omega)]
  have:UInt8.ofNat (48+(c.toNat - 48))=c:=by
   rw[show 48+(c.toNat - 48)=c.toNat by omega]
   exact UInt8.ofNat_toNat
  rw[this]
  simp
theorem b1p{n:Nat}(h:n<256):(UInt8.ofNat n).toNat=n:=by rw[UInt8.toNat_ofNat'];omega
theorem FO: ∀ (u:Nat),1<=u->(Lib.decDigits u).all Wn=true∧(Lib.decDigits u).head? ≠ some 48∧Lib.decDigits u≠[]:=by
 intro u
 induction u using Nat.strongRecOn with
 | _ u ih=>
  intro h1
  rw[Lib.decDigits]
  by_cases h:u<10
  ·rw[dif_pos h]
   refine⟨?_,?_,by simp⟩
   ·simp only[List.all_cons,List.all_nil,Bool.and_true]
    rw[Vd,b1p (by omega)]
    omega
   ·simp only[List.head?_cons,ne_eq,Option.some.injEq]
    intro e
    have:=congrArg UInt8.toNat e
    rw[b1p (by omega)]at this
    have e48:(48:UInt8).toNat=48:=rfl
    rw[e48]at this
    omega
  ·rw[dif_neg h]
   obtain⟨i1,i2,i3⟩:=ih (u / 10) (by omega) (by omega)
   refine⟨?_,?_,by simp⟩
   ·rw[List.all_append,i1]
    simp only[List.all_cons,List.all_nil,Bool.and_true,Bool.true_and]
    rw[Vd,b1p (by omega)]
    omega
   ·cases hd:Lib.decDigits (u / 10)with
    | nil=>exact absurd hd i3
    | cons c r=>rw[hd]at i2;simpa using i2
def NN(r:List UInt8):Bool:=r.all Wn&& !r.isEmpty&&decide (r.head? ≠ some 48)
theorem c6i(b:Bool):UO (enc (⟨b⟩:Er)) = !b:=by cases b <;> rfl
theorem c1y(e:Er):CL (enc e)=true:=by obtain⟨b⟩:=e;cases b <;> rfl
theorem a0b(r:List UInt8)(hr:r.length<=9):(UO (enc (Yv ⟨r⟩).2)&&decide ((Yv ⟨r⟩).1>0)&&(Lib.itoa (Yv ⟨r⟩).1==r))=NN r:=by
 by_cases hn:NN r=true
 ·rw[hn]
  simp only[NN,Bool.and_eq_true,Bool.not_eq_true',decide_eq_true_eq]at hn
  obtain⟨⟨h1,h2⟩,h3⟩:=hn
  cases r with
  | nil=>simp at h2
  | cons c r=>
   have h1':=h1
   simp only[List.all_cons,Bool.and_eq_true,Vd]at h1
   have hc:c≠48:=by simpa using h3
   have hc':c.toNat≠48:=fun e=>hc (UInt8.toNat_inj.1 (by rw[e];rfl))
   have hv:=a1u (c::r) 0 h1'
   have hp:10 ^ (c::r).length<=10 ^ 9:=Nat.pow_le_pow_right (by omega) hr
   have hpm:=TZ (c::r) 0 h1' (by omega)
   have hat:Lib.atoiAll (c::r) = .ok (JW 0 (c::r):Int):=by
    have e1 : ¬ (c.toNat=43∨c.toNat=45):=by omega
    have e2 : ¬ c.toNat=45:=by omega
    simp only[Lib.atoiAll,if_neg e1,Lib.parseMag,if_neg (show ¬ (c::r=[]) by simp),hpm]
    rw[if_neg (by omega),if_neg (fun e=>e2 e.1),if_neg e2]
   have ha:Yv ⟨c::r⟩=((JW 0 (c::r):Int),⟨false⟩):=by simp only[Yv,hat]
   have hvd:JW 0 (c::r)=JW (c.toNat - 48) r:=by rw[QJ];congr 1;omega
   have hpos:=PU r (c.toNat - 48)
   rw[ha]
   have h4:Lib.itoa (JW 0 (c::r):Int)=c::r:=by
    rw[Lib.itoa,if_neg (by omega),Int.toNat_natCast,hvd,a1z r _ (by omega) h1.2,Lib.decDigits,dif_pos (by omega)]
    have:UInt8.ofNat (48+(c.toNat - 48))=c:=by
     rw[show 48+(c.toNat - 48)=c.toNat by omega]
     exact UInt8.ofNat_toNat
    rw[this];rfl
   simp only[c6i,h4,beq_self_eq_true,Bool.and_true,Bool.not_false,Bool.true_and]
   exact decide_eq_true (by omega)
 ·have hn:NN r=false:=by simpa using hn
  rw[hn]
  by_cases h1:decide ((Yv ⟨r⟩).1>0)=true
  ·by_cases h2:(Lib.itoa (Yv ⟨r⟩).1==r)=true
   ·exfalso
    have h1:(Yv ⟨r⟩).1>0:=by simpa using h1
    have h2:Lib.itoa (Yv ⟨r⟩).1=r:=by simpa using h2
    rw[Lib.itoa,if_neg (by omega)]at h2
    obtain⟨d1,d2,d3⟩:=FO (Yv ⟨r⟩).1.toNat (by omega)
    rw[h2]at d1 d2 d3
    have:NN r=true:=by simp only[NN,d1,decide_eq_true d2,Bool.true_and,Bool.and_true];cases r <;> simp at d3 ⊢
    rw[this]at hn;cases hn
   ·simp[h2]
  ·simp[h1]
theorem Ns(r:List UInt8):ZA ⟨95::r⟩=(NN r&&decide (r.length<=9)):=by simp[ZA,NN]
end Go.Pl

namespace Go.Pl
open Go.RowKit
open Enc (enc dec is)
open EncL (encL decL isL)
def a6v(s:Str)(c:Int):List (Str×Int)->List (Str×Int)
 | []=>[(s,c)]
 | p::m=>if s.s=p.1.s then(s,c)::m else p::a6v s c m
def c5d(k:Int):List Coef->List (Str×Int)->List (Str×Int)
 | [],m=>m
 | t::l,m=>c5d k l (a6v t.v (IntKind.i64.wrap (atM m t.v.s+IntKind.i64.wrap (k*t.c))) m)
def Zp(l:List Fact):Bool:=decide (l.length<=9223372036854775807)&&l.all fun f=>ZP f.l
def XN(l:List Fact):Bool:=l.all fun f=>Zg f.l
def Wz:AV×List AObj×List AObj:=(.tup [.pv (.int .i64 0),.pv .nilmap,.pv (.bool false)],[],[])
structure FnV (n:Nat) where
 u:Unit:=()
instance (n:Nat):Enc (FnV n) where
  sz:=1
  enc _:=.fn n
  dec _:={}
  is | .fn m=>m==n|_=>false
  is_enc _:=by simp
  dec_enc _:=rfl
  sub p h:=by
    cases p with
    | fn m => have : m = n := by simpa using h
              subst this;exact .refl _
    | _=>cases h
def Zy{α:Type}(p:α->Bool)(l:List α):Int:=match l.findIdx? p with|some i=>i|none=> -1
theorem XL{α:Type}(p:α->Bool)(l:List α):decide (Zy p l ≥ 0)=l.any p:=by
 unfold Zy
 cases h:l.findIdx? p with
 | none=>
  rw[List.findIdx?_eq_none_iff]at h
  have:l.any p=false:=by rw[List.any_eq_false];intro x hx;simp[h x hx]
  rw[this];rfl
 | some i=>
  have:l.any p=true:=by
   rw[List.findIdx?_eq_some_iff_getElem]at h
   obtain⟨hi,hp,_⟩:=h
   rw[List.any_eq_true]
   exact⟨_,List.getElem_mem hi,hp⟩
  rw[this]
  exact decide_eq_true (by show(i:Int) ≥ 0;omega)
theorem Qc{α:Type}(p:α->Bool)(l:List α)(i:Nat)(hlt:i<l.length)(hno : ∀ j (h:j<l.length),j<i->p l[j]=false)(hp:p l[i]=true):Zy p l=i:=by
 unfold Zy
 have:l.findIdx? p=some i:=by
  rw[List.findIdx?_eq_some_iff_getElem]
  exact⟨hlt,hp,fun j hj=>by simp[hno j (by omega) hj]⟩
 rw[this]
theorem U5{α:Type}(p:α->Bool)(l:List α)(hno : ∀ j (h:j<l.length),p l[j]=false):Zy p l = -1:=by
 unfold Zy
 have:l.findIdx? p=none:=by
  rw[List.findIdx?_eq_none_iff]
  intro x hx
  obtain⟨j,hj,rfl⟩:=List.getElem_of_mem hx
  exact hno j hj
 rw[this]
def YW(f:Fact)(v:List Coef):Bool:=decide ((ZX f.l v).2=0)&& !decide ((ZX f.l v).1<0)&&(!f.eq||decide ((ZX f.l v).1=0))
def JK:List AV->List AObj->Bool
 | [.pv f,.ptr 0 0],[.box [.pv v]]=>XX Fact f&&XX (List Coef) v&&ZP (dec f:Fact).l&&decide ((dec v:List Coef).length<=9223372036854775807)
 | _,_=>false
def GM:List AV->List AObj->AV×List AObj×List AObj
 | [.pv f,_],[.box [.pv v]]=>(.pv (.bool (!YW (dec f) (dec v))),[.box [.pv v]],[])
 | _,_=>Wz
def WH(g:Nat):List AV->List AObj->Bool
 | [.pv l,.fn g' [] [.ptr 0 0]],[.box [.pv v]]=>g'==g&&XX (List Fact) l&&XX (List Coef) v&&Zp (dec l)&&decide ((dec v:List Coef).length<=9223372036854775807)
 | _,_=>false
def Cc:List AV->List AObj->AV×List AObj×List AObj
 | [.pv l,_],[.box [.pv v]]=>(.pv (.int .i64 (Zy (fun f=> !YW f (dec v)) (dec l))),[.box [.pv v]],[])
 | _,_=>Wz
def Ci:List AV->List AObj->AV×List AObj×List AObj
 | [.pv l,_],[.box [.pv v]]=>(.pv (.bool ((dec l:List Fact).any (fun f=> !YW f (dec v)))),[.box [.pv v]],[])
 | _,_=>Wz
def BL:List AV->List AObj->Bool
 | [.pv x,.ptr 0 0],[.box [.pv (.str v),.pv (.int .i64 c)]]=>XX Coef x
 | _,_=>false
def R8:List AV->List AObj->AV×List AObj×List AObj
 | [.pv x,_],[.box [.pv (.str v),.pv (.int .i64 c)]]=>(.pv (.bool ((dec x:Coef).v.s==v)),[.box [.pv (.str v),.pv (.int .i64 c)]],[])
 | _,_=>Wz
def QX(g:Nat):List AV->List AObj->Bool
 | [.pv l,.fn g' [] [.ptr 0 0]],[.box [.pv (.str v),.pv (.int .i64 c)]]=>g'==g&&XX (List Coef) l&&decide ((dec l:List Coef).length<=9223372036854775807)
 | _,_=>false
def Cg:List AV->List AObj->AV×List AObj×List AObj
 | [.pv l,_],[.box [.pv (.str v),.pv (.int .i64 c)]]=>(.pv (.int .i64 (Zy (fun t:Coef=>t.v.s==v) (dec l))),[.box [.pv (.str v),.pv (.int .i64 c)]],[])
 | _,_=>Wz
end Go.Pl

namespace Go.Pl
open Go.RowKit
open Enc (enc dec is)
open EncL (encL decL isL)
set_option maxRecDepth 100000
end Go.Pl

namespace Go.Pl
open Go.RowKit
open Enc (enc dec is)
open EncL (encL decL isL)
set_option maxRecDepth 100000
-- IMPOSSIBLE
end Go.Pl

namespace Go.Pl
open Go.RowKit
open Enc (enc dec is)
open EncL (encL decL isL)
end Go.Pl

namespace Go.Pl
open Go.RowKit
open Enc (enc dec is)
open EncL (encL decL isL)
end Go.Pl

namespace Go.Pl
open Go.RowKit
open Enc (enc dec is)
open EncL (encL decL isL)
set_option maxRecDepth 100000
end Go.Pl

namespace Go.Pl
open Go.RowKit
open Enc (enc dec is)
open EncL (encL decL isL)
end Go.Pl

namespace Go.Pl
open Go.RowKit
open Enc (enc dec is)
open EncL (encL decL isL)
set_option maxRecDepth 100000
end Go.Pl

namespace Go.Pl
open Go.RowKit
open Enc (enc dec is)
open EncL (encL decL isL)
end Go.Pl

namespace Go.Pl
open Go.RowKit
open Enc (enc dec is)
open EncL (encL decL isL)
mutual
def cSm:Cert->Bool
 | .mk _ m l ks=>decide (m.length<=9223372036854775807)&&ZP l&&decide (ks.length<=9223372036854775807)&&a4k ks
def a4k:List Cert->Bool
 | []=>true
 | c::cs=>cSm c&&a4k cs
end
mutual
theorem c3m: ∀ {c:Cert},cSm c=true->cOk c=true
 | .mk k m l ks,h=>by
  simp only[cSm,cOk,ZP,Bool.and_eq_true]at h ⊢
  exact⟨⟨⟨h.1.1.1,h.1.1.2.1⟩,h.1.2⟩,EP h.2⟩
theorem EP: ∀ {cs:List Cert},a4k cs=true->a5f cs=true
 | [],_=>rfl
 | c::cs,h=>by
  simp only[a4k,a5f,Bool.and_eq_true]at h ⊢
  exact⟨c3m h.1,EP h.2⟩
end
theorem G9{l:Lin}(h:Zg l=true):l.t.length<=12:=by
 simp only[Zg,Bool.and_eq_true,decide_eq_true_eq]at h
 exact h.2
theorem Q3{l:Lin}(h:Zg l=true){t:Coef}(ht:t∈l.t):ZA t.v=true∧t.c≠0∧ -1000000<=t.c∧t.c<=1000000:=by
 simp only[Zg,Bool.and_eq_true,decide_eq_true_eq,List.all_eq_true]at h
 have:=h.1.1.1 t ht
 simp only[Yp,Bool.and_eq_true,decide_eq_true_eq]at this
 exact⟨this.1.1,this.1.2,this.2⟩
theorem Cv{l:Lin}(h:Zg l=true): -1000000<=l.k∧l.k<=1000000:=by
 simp only[Zg,Yp,Bool.and_eq_true,decide_eq_true_eq]at h
 exact h.1.2
end Go.Pl

namespace Go.Pl
open Go.RowKit
open Enc (enc dec is)
open EncL (encL decL isL)
theorem Wx{n:Int}(h1 : -9223372036854775808<=n)(h2:n<=9223372036854775807):XO n=n:=WS h1 h2
end Go.Pl

namespace Go.Pl
open Go.RowKit
open Enc (enc dec is)
open EncL (encL decL isL)
end Go.Pl

namespace Go.Pl
open Go.RowKit
open Enc (enc dec is)
open EncL (encL decL isL)
set_option maxRecDepth 100000
def Eg:IC:=(.seq (.reg [⟨(some 1),(.box 3 (.t 0)),0,none⟩,⟨(some 2),(.mv (.c (.bool false))),1,none⟩] none) (.seq (.reg [⟨(some 3),(.faddr 1 (.t 1)),0,none⟩,⟨(some 4),(.load true [(.int .i64),(.sl 2)] (.t 3)),0,none⟩,⟨(some 5),(.call (.c (.fn 73)) [(.t 4)]),0,none⟩,⟨(some 6),(.un .not (.t 5)),2,none⟩,⟨(some 2),(.mv (.t 6)),2,none⟩] none) .ret))
def Od:List IRes:=[(.tmp 2)]
abbrev c6a:Nat:=7
def a7z:ZE:=Xg [(73,.pure (preT (fun x:Lin×Unit=>ZP x.1)) (Zf (fun x:Lin×Unit=>Zg x.1)))]
theorem c7d{G:PV->Prop}(f:Fact)(h:(Go.Pl.preT (fun(x:Lin×Unit)=>ZP x.1) [(.agg [(.int .i64 (Lin.k f.l)),(.sl 2 false (List.map enc (Lin.t f.l)))])])=true∧(∃ y0:Bool,AV.pv (Zf (fun(x:Lin×Unit)=>Zg x.1) [(.agg [(.int .i64 (Lin.k f.l)),(.sl 2 false (List.map enc (Lin.t f.l)))])])=AV.pv (enc y0)∧(G ((.bool !y0))))):Zc a7z 0 (Za Od G) Eg [] (Yz 7 [enc f]):=Zc.tp (.req (.abs (Bool) (fun YY=>AV.pv (enc YY)) (.nil))) h (by kernel_rfl)
def KI:IC:=(.seq (.reg [⟨(some 4),(.mv (.c (.int .i64 0))),0,none⟩] none) (.seq (.seq (.reg [⟨(some 6),(.mv (.t 0)),0,none⟩,⟨(some 7),(.len 1 (.t 6)),0,none⟩,⟨(some 8),(.mv (.c (.int .i64 0))),0,none⟩] none) (.block 0 (.loop [8,7,1,0] (.seq (.reg [⟨(some 9),(.bin .num .lss (.t 8) (.t 7)),0,none⟩] none) (.seq (.cond (.t 9) .skip (.exit 0)) (.seq (.block 1 (.seq (.reg [⟨(some 10),(.mv (.t 8)),0,none⟩,⟨(some 5),(.mv (.t 10)),0,none⟩] none) (.seq (.reg [⟨(some 11),(.mv (.t 1)),0,none⟩,⟨(some 12),(.mv (.t 0)),0,none⟩,⟨(some 13),(.mv (.t 5)),0,none⟩,⟨(some 14),(.iaddr 3 (.t 12) (.t 13)),0,none⟩,⟨(some 15),(.load true [.bool,(.int .i64),(.sl 2)] (.t 14)),0,none⟩,⟨(some 16),(.call (.t 11) [(.t 15)]),0,none⟩] none) (.cond (.t 16) (.seq (.reg [⟨(some 17),(.mv (.t 5)),0,none⟩,⟨(some 4),(.mv (.t 17)),0,none⟩] none) .ret) .skip)))) (.reg [⟨(some 18),(.bin .num .add (.t 8) (.c (.int .i64 1))),0,none⟩,⟨(some 8),(.mv (.t 18)),0,none⟩] none))))))) (.seq (.reg [⟨(some 4),(.mv (.c (.int .i64 (-1)))),0,none⟩] none) .ret)))
def J5:List IRes:=[(.tmp 4)]
abbrev c2n:Nat:=19
def BZ:ZE:=Xg [(162,.pure (preT (fun x:Fact×Unit=>ZP x.1.l)) (Zf (fun x:Fact×Unit=> !(Zg x.1.l))))]
theorem c7v{G:PV->Prop}(l:List Fact)(h:At BZ 0 (Za J5 G) KI 0 19 [(0,(.pv (.sl 3 false (List.map enc l)))),(1,(.pv (.fn 162))),(7,(.pv (.int .i64 (↑(List.length (List.map enc l)):Int)))),(8,(.pv (.int .i64 0)))] []):Zc BZ 0 (Za J5 G) KI [] (Yz 19 [enc l,.fn 162]):=Zc.tp (.nil) h (by kernel_rfl)
theorem b1b{G:PV->Prop}(l:List Fact)(i:Int)(h:if (decide (i<(↑(List.length l):Int)))=true then(decide (0<=i)&&decide (Int.toNat i<List.length (List.map enc l))&&Enc.sz Fact==3)=true∧(∃ y0:Fact,AV.pv (PV.rptr (PV.cells (List.getD (List.map enc l) (Int.toNat i) default)))=AV.pv (PV.rptr (PV.cells ((enc) y0)))∧((Go.Pl.preT (fun(x:Fact×Unit)=>ZP x.1.l) [(.agg [(.bool (PV.asBool (List.getD (PV.cells (enc y0)) 0 default))),(.int .i64 (PV.asInt (List.getD (PV.cells (enc y0)) (0+1) default))),(.sl 2 false (PV.asXs (List.getD (PV.cells (enc y0)) (0+1+1) default)))])])=true∧(∃ y1:Bool,AV.pv (Zf (fun(x:Fact×Unit)=> !Zg x.1.l) [(.agg [(.bool (PV.asBool (List.getD (PV.cells (enc y0)) 0 default))),(.int .i64 (PV.asInt (List.getD (PV.cells (enc y0)) (0+1) default))),(.sl 2 false (PV.asXs (List.getD (PV.cells (enc y0)) (0+1+1) default)))])])=AV.pv (enc y1)∧(if (y1)=true then G ((.int .i64 i))else(At BZ 0 (Za J5 G) KI 0 19 [(0,(.pv (.sl 3 false (List.map enc l)))),(1,(.pv (.fn 162))),(7,(.pv (.int .i64 (↑(List.length l):Int)))),(8,(.pv (.int .i64 (IntKind.wrap IntKind.i64 (i+1)))))] [])))))else(G ((.int .i64 (-1))))):At BZ 0 (Za J5 G) KI 0 19 [(0,.pv (enc l)),(1,.pv (.fn 162)),(7,.pv (.int .i64 l.length)),(8,.pv (.int .i64 i))] []:=At.tp (.lit (.ask (.req (.abs (Fact) (fun YY=>AV.pv (PV.rptr (PV.cells ((enc) YY)))) (.lit (.req (.abs (Bool) (fun YY=>AV.pv (enc YY)) (.ask (.nil) (.lit (.nil)))))))) (.nil))) h (by kernel_rfl)
def RD:IC:=(.seq (.reg [⟨(some 4),(.mv (.c (.bool false))),0,none⟩] none) (.seq (.reg [⟨(some 5),(.mv (.t 0)),0,none⟩,⟨(some 6),(.mv (.t 1)),0,none⟩,⟨(some 7),(.call (.c (.fn 227)) [(.t 5),(.t 6)]),0,none⟩,⟨(some 8),(.bin .num .geq (.t 7) (.c (.int .i64 0))),2,none⟩,⟨(some 4),(.mv (.t 8)),2,none⟩] none) .ret))
def Oi:List IRes:=[(.tmp 4)]
abbrev c3f:Nat:=9
def b6i:ZE:=Xg [(227,.pure (preT (fun x:List Fact×FnV 162×Unit=>Zp x.1)) (Zf (fun x:List Fact×FnV 162×Unit=>Zy (fun f:Fact=> !(Zg f.l)) x.1)))]
theorem c7t{G:PV->Prop}(l:List Fact)(h:(Go.Pl.preT (fun(x:List Fact×FnV 162×Unit)=>Zp x.1) [(.sl 3 false (List.map enc l)),(.fn 162)])=true∧(∃ y0:Int,AV.pv (Zf (fun(x:List Fact×FnV 162×Unit)=>Zy (fun(f:Fact)=> !Zg f.l) x.1) [(.sl 3 false (List.map enc l)),(.fn 162)])=AV.pv (enc y0)∧(G ((.bool (decide (y0 ≥ 0))))))):Zc b6i 0 (Za Oi G) RD [] (Yz 9 [enc l,.fn 162]):=Zc.tp (.req (.abs (Int) (fun YY=>AV.pv (enc YY)) (.lit (.nil)))) h (by kernel_rfl)
def Da:IC:=(.seq (.reg [⟨(some 2),(.mv (.c (.bool false))),0,none⟩] none) (.seq (.reg [⟨(some 3),(.mv (.t 0)),0,none⟩,⟨(some 4),(.call (.c (.fn 161)) [(.t 3),(.c (.fn 162))]),0,none⟩,⟨(some 5),(.un .not (.t 4)),2,none⟩,⟨(some 2),(.mv (.t 5)),2,none⟩] none) .ret))
def Df:List IRes:=[(.tmp 2)]
abbrev a3f:Nat:=6
def BB:ZE:=Xg [(161,.pure (preT (fun x:List Fact×FnV 162×Unit=>Zp x.1)) (Zf (fun x:List Fact×FnV 162×Unit=>x.1.any fun f:Fact=> !(Zg f.l))))]
theorem b5m{G:PV->Prop}(l:List Fact)(h:(Go.Pl.preT (fun(x:List Fact×FnV 162×Unit)=>Zp x.1) [(.sl 3 false (List.map enc l)),(.fn 162)])=true∧(∃ y0:Bool,AV.pv (Zf (fun(x:List Fact×FnV 162×Unit)=>List.any x.1 fun(f:Fact)=> !Zg f.l) [(.sl 3 false (List.map enc l)),(.fn 162)])=AV.pv (enc y0)∧(G ((.bool !y0))))):Zc BB 0 (Za Df G) Da [] (Yz 6 [enc l]):=Zc.tp (.req (.abs (Bool) (fun YY=>AV.pv (enc YY)) (.nil))) h (by kernel_rfl)
def Oj:IC:=(.seq (.reg [⟨(some 2),(.box 2 (.t 0)),0,none⟩,⟨(some 3),(.mv (.c (.bool false))),1,none⟩] none) (.seq (.reg [⟨(some 4),(.faddr 0 (.t 2)),0,none⟩,⟨(some 5),(.load false [.str] (.t 4)),0,none⟩,⟨(some 6),(.faddr 0 (.t 1)),0,none⟩,⟨(some 7),(.load false [.str] (.t 6)),0,none⟩,⟨(some 8),(.bin .num .eql (.t 5) (.t 7)),0,none⟩,⟨(some 3),(.mv (.t 8)),0,none⟩] none) .ret))
def Oa:List IRes:=[(.tmp 3)]
abbrev c4e:Nat:=9
def b4n:ZE:=Xg []
theorem c7u{G:AV×List AObj×List AObj->Prop}(x:Coef)(v:List UInt8)(c:Int)(h:G (((.pv (.bool (Str.s x.v==v))),([(.box [(.pv (.str v)),(.pv (.int .i64 c))])],[])))):Zc b4n 1 (Zk 1 Oa G) Oj [] (YD 9 [.pv (enc x),.ptr 0 0] [.box [.pv (.str v),.pv (.int .i64 c)]]):=Zc.to (.lit (.nil)) h (by kernel_rfl)
def KE:IC:=(.seq (.reg [⟨(some 4),(.mv (.c (.int .i64 0))),0,none⟩] none) (.seq (.seq (.reg [⟨(some 6),(.mv (.t 0)),0,none⟩,⟨(some 7),(.len 1 (.t 6)),0,none⟩,⟨(some 8),(.mv (.c (.int .i64 0))),0,none⟩] none) (.block 0 (.loop [8,7,1,0] (.seq (.reg [⟨(some 9),(.bin .num .lss (.t 8) (.t 7)),0,none⟩] none) (.seq (.cond (.t 9) .skip (.exit 0)) (.seq (.block 1 (.seq (.reg [⟨(some 10),(.mv (.t 8)),0,none⟩,⟨(some 5),(.mv (.t 10)),0,none⟩] none) (.seq (.reg [⟨(some 11),(.mv (.t 1)),0,none⟩,⟨(some 12),(.mv (.t 0)),0,none⟩,⟨(some 13),(.mv (.t 5)),0,none⟩,⟨(some 14),(.iaddr 2 (.t 12) (.t 13)),0,none⟩,⟨(some 15),(.load true [.str,(.int .i64)] (.t 14)),0,none⟩,⟨(some 16),(.call (.t 11) [(.t 15)]),0,none⟩] none) (.cond (.t 16) (.seq (.reg [⟨(some 17),(.mv (.t 5)),0,none⟩,⟨(some 4),(.mv (.t 17)),0,none⟩] none) .ret) .skip)))) (.reg [⟨(some 18),(.bin .num .add (.t 8) (.c (.int .i64 1))),0,none⟩,⟨(some 8),(.mv (.t 18)),0,none⟩] none))))))) (.seq (.reg [⟨(some 4),(.mv (.c (.int .i64 (-1)))),0,none⟩] none) .ret)))
def JF:List IRes:=[(.tmp 4)]
abbrev c3h:Nat:=19
def BP:ZE:=Xg [(110,.own BL R8)]
theorem c7m{G:AV×List AObj×List AObj->Prop}(l:List Coef)(v:List UInt8)(c:Int)(h:At BP 1 (Zk 1 JF G) KE 0 19 [(0,(.pv (.sl 2 false (List.map enc l)))),(1,(.fn 110 [] [(.ptr 0 0)])),(7,(.pv (.int .i64 (↑(List.length (List.map enc l)):Int)))),(8,(.pv (.int .i64 0)))] [(.obj (.box [(.pv (.str v)),(.pv (.int .i64 c))]))]):Zc BP 1 (Zk 1 JF G) KE [] (YD 19 [.pv (enc l),.fn 110 [] [.ptr 0 0]] [.box [.pv (.str v),.pv (.int .i64 c)]]):=Zc.to (.nil) h (by kernel_rfl)
theorem b4d{G:AV×List AObj×List AObj->Prop}(l:List Coef)(v:List UInt8)(c:Int)(i:Int)(h:if (decide (i<(↑(List.length l):Int)))=true then(decide (0<=i)&&decide (Int.toNat i<List.length (List.map enc l))&&Enc.sz Coef==2)=true∧(∃ y0:Coef,AV.pv (PV.rptr (PV.cells (List.getD (List.map enc l) (Int.toNat i) default)))=AV.pv (PV.rptr (PV.cells ((enc) y0)))∧((BL [(.pv (.agg [(.str (PV.asStr (List.getD (PV.cells (enc y0)) 0 default))),(.int .i64 (PV.asInt (List.getD (PV.cells (enc y0)) (0+1) default)))])),(.ptr 0 0)] [(.box [(.pv (.str v)),(.pv (.int .i64 c))])])=true∧(if (Str.s (Coef.v (dec (PV.agg (QB (PV.cells (enc y0)) 0 [Sh.str,Sh.int .i64]))))==v)=true then G (((.pv (.int .i64 i)),([(.box [(.pv (.str v)),(.pv (.int .i64 c))])],[])))else(At BP 1 (Zk 1 JF G) KE 0 19 [(0,(.pv (.sl 2 false (List.map enc l)))),(1,(.fn 110 [] [(.ptr 0 0)])),(7,(.pv (.int .i64 (↑(List.length l):Int)))),(8,(.pv (.int .i64 (IntKind.wrap IntKind.i64 (i+1)))))] [(.obj (.box [(.pv (.str v)),(.pv (.int .i64 c))]))]))))else(G (((.pv (.int .i64 (-1))),([(.box [(.pv (.str v)),(.pv (.int .i64 c))])],[]))))):At BP 1 (Zk 1 JF G) KE 0 19 [(0,.pv (enc l)),(1,.fn 110 [] [.ptr 0 0]),(7,.pv (.int .i64 l.length)),(8,.pv (.int .i64 i))] [.obj (.box [.pv (.str v),.pv (.int .i64 c)])]:=At.to (.lit (.ask (.req (.abs (Coef) (fun YY=>AV.pv (PV.rptr (PV.cells ((enc) YY)))) (.lit (.req (.keep (.ask (.nil) (.lit (.nil)))))))) (.nil))) h (by kernel_rfl)
def KN:IC:=(.seq (.reg [⟨(some 2),(.box 2 (.t 0)),0,none⟩,⟨(some 4),(.mv (.c (.int .i64 0))),1,none⟩,⟨(some 5),(.mv (.c (.int .i64 0))),1,none⟩] none) (.seq (.seq (.reg [⟨(some 11),(.load true [(.int .i64),(.sl 2)] (.t 2)),0,none⟩,⟨(some 12),(.call (.c (.fn 73)) [(.t 11)]),0,none⟩,⟨(some 13),(.un .not (.t 12)),2,none⟩] none) (.cond (.t 13) (.seq (.reg [⟨(some 4),(.mv (.c (.int .i64 0))),0,none⟩,⟨(some 5),(.mv (.c (.int .i64 1))),0,none⟩] none) .ret) .skip)) (.seq (.reg [⟨(some 14),(.faddr 0 (.t 2)),0,none⟩,⟨(some 15),(.load false [(.int .i64)] (.t 14)),0,none⟩,⟨(some 6),(.mv (.t 15)),0,none⟩] none) (.seq (.seq (.reg [⟨(some 16),(.faddr 1 (.t 2)),0,none⟩,⟨(some 17),(.load false [(.sl 2)] (.t 16)),0,none⟩,⟨(some 18),(.len 1 (.t 17)),0,none⟩,⟨(some 19),(.mv (.c (.int .i64 0))),0,none⟩] none) (.block 0 (.loop [19,18,17,1,6] (.seq (.reg [⟨(some 20),(.bin .num .lss (.t 19) (.t 18)),0,none⟩] none) (.seq (.cond (.t 20) .skip (.exit 0)) (.seq (.block 1 (.seq (.reg [⟨(some 21),(.iaddr 2 (.t 17) (.t 19)),0,none⟩,⟨(some 22),(.load true [.str,(.int .i64)] (.t 21)),0,none⟩,⟨(some 8),(.alloc (.agg [(.str []),(.int .i64 0)])),0,none⟩,⟨none,(.store 2 (.t 8) (.t 22)),1,none⟩] none) (.seq (.reg [⟨(some 23),(.mv (.t 1)),0,none⟩,⟨(some 24),(.mkfn 110 [] [(.t 8)]),0,none⟩,⟨(some 25),(.call (.c (.fn 109)) [(.t 23),(.t 24)]),0,none⟩,⟨(some 9),(.mv (.t 25)),2,none⟩] none) (.seq (.seq (.reg [⟨(some 26),(.mv (.t 9)),0,none⟩,⟨(some 27),(.bin .num .lss (.t 26) (.c (.int .i64 0))),0,none⟩] none) (.cond (.t 27) (.seq (.reg [⟨(some 4),(.mv (.c (.int .i64 0))),0,none⟩,⟨(some 5),(.mv (.c (.int .i64 7))),0,none⟩] none) .ret) .skip)) (.seq (.seq (.reg [⟨(some 28),(.mv (.t 1)),0,none⟩,⟨(some 29),(.mv (.t 9)),0,none⟩,⟨(some 30),(.iaddr 2 (.t 28) (.t 29)),0,none⟩,⟨(some 31),(.faddr 1 (.t 30)),0,none⟩,⟨(some 32),(.load false [(.int .i64)] (.t 31)),0,none⟩,⟨(some 10),(.mv (.t 32)),0,none⟩] none) (.seq (.reg [⟨(some 33),(.mv (.t 10)),0,none⟩,⟨(some 34),(.bin .num .lss (.t 33) (.c (.int .i64 (-1000000000)))),0,none⟩,⟨(some 35),(.mv (.t 34)),0,none⟩,⟨(some 36),(.mv (.t 10)),0,(some (35,false))⟩,⟨(some 37),(.bin .num .gtr (.t 36) (.c (.int .i64 1000000000))),0,(some (35,false))⟩,⟨(some 38),(.pick (.t 35) (.c (.bool true)) (.t 37)),0,none⟩] none) (.cond (.t 38) (.seq (.reg [⟨(some 4),(.mv (.c (.int .i64 0))),0,none⟩,⟨(some 5),(.mv (.c (.int .i64 2))),0,none⟩] none) .ret) .skip))) (.reg [⟨(some 39),(.mv (.t 6)),0,none⟩,⟨(some 40),(.faddr 1 (.t 8)),0,none⟩,⟨(some 41),(.load false [(.int .i64)] (.t 40)),0,none⟩,⟨(some 42),(.mv (.t 1)),0,none⟩,⟨(some 43),(.mv (.t 9)),0,none⟩,⟨(some 44),(.iaddr 2 (.t 42) (.t 43)),0,none⟩,⟨(some 45),(.faddr 1 (.t 44)),0,none⟩,⟨(some 46),(.load false [(.int .i64)] (.t 45)),0,none⟩,⟨(some 47),(.bin .num .mul (.t 41) (.t 46)),0,none⟩,⟨(some 48),(.bin .num .add (.t 39) (.t 47)),0,none⟩,⟨(some 6),(.mv (.t 48)),0,none⟩] (some [[],[],[1],[],[],[3,4],[5,3,4],[6,5,3,4],[2,7,1,6,5,3,4],[0,8,2,7,1,6,5,3,4],[9,0,1,2,3,4,5,6,7,8]]))))))) (.reg [⟨(some 49),(.bin .num .add (.t 19) (.c (.int .i64 1))),0,none⟩,⟨(some 19),(.mv (.t 49)),0,none⟩] none))))))) (.seq (.reg [⟨(some 50),(.mv (.t 6)),0,none⟩,⟨(some 4),(.mv (.t 50)),0,none⟩,⟨(some 5),(.mv (.c (.int .i64 0))),0,none⟩] none) .ret)))))
def Kv:List IRes:=[(.tmp 4),(.tmp 5)]
abbrev c2z:Nat:=51
def DX:ZE:=Xg [(73,.pure (preT (fun x:Lin×Unit=>ZP x.1)) (Zf (fun x:Lin×Unit=>Zg x.1))),(109,.own (QX 110) Cg)]
theorem c8b{G:PV->Prop}(l:Lin)(v:List Coef)(h:(Go.Pl.preT (fun(x:Lin×Unit)=>ZP x.1) [(.agg [(.int .i64 l.k),(.sl 2 false (List.map enc l.t))])])=true∧(∃ y0:Bool,AV.pv (Zf (fun(x:Lin×Unit)=>Zg x.1) [(.agg [(.int .i64 l.k),(.sl 2 false (List.map enc l.t))])])=AV.pv (enc y0)∧(if (!y0)=true then G ((.tup [(.int .i64 0),(.int .i64 1)]))else(At DX 0 (Za Kv G) KN 0 51 [(1,(.pv (.sl 2 false (List.map enc v)))),(6,(.pv (.int .i64 l.k))),(17,(.pv (.sl 2 false (List.map enc l.t)))),(18,(.pv (.int .i64 (↑(List.length (List.map enc l.t)):Int)))),(19,(.pv (.int .i64 0)))] [])))):Zc DX 0 (Za Kv G) KN [] (Yz 51 [enc l,enc v]):=Zc.tp (.req (.abs (Bool) (fun YY=>AV.pv (enc YY)) (.ask (.nil) (.nil)))) h (by kernel_rfl)
theorem b2y{G:PV->Prop}(l:Lin)(v:List Coef)(n i:Int)(h:if (decide (i<(↑(List.length l.t):Int)))=true then(decide (0<=i)&&decide (Int.toNat i<List.length (List.map enc l.t))&&Enc.sz Coef==2)=true∧(∃ y0:Coef,AV.pv (PV.rptr (PV.cells (List.getD (List.map enc l.t) (Int.toNat i) default)))=AV.pv (PV.rptr (PV.cells ((enc) y0)))∧((QX 110 [(.pv (.sl 2 false (List.map enc v))),(.fn 110 [] [(.ptr 0 0)])] [(.box [(.pv (.str (PV.asStr (List.getD (PV.cells (enc y0)) 0 default)))),(.pv (.int .i64 (PV.asInt (List.getD (PV.cells (enc y0)) (0+1) default))))])])=true∧(if (decide (Zy (fun(t:Coef)=>Str.s t.v==PV.asStr (List.getD (PV.cells (enc y0)) 0 default)) (dec (enc v))<0))=true then G ((.tup [(.int .i64 0),(.int .i64 7)]))else((decide (0<=Zy (fun(t:Coef)=>Str.s t.v==PV.asStr (List.getD (PV.cells (enc y0)) 0 default)) (dec (enc v)))&&decide (Int.toNat (Zy (fun(t:Coef)=>Str.s t.v==PV.asStr (List.getD (PV.cells (enc y0)) 0 default)) (dec (enc v)))<List.length (List.map enc v))&&Enc.sz Coef==2)=true∧(∃ y1:Coef,AV.pv (PV.rptr (PV.cells (List.getD (List.map enc v) (Int.toNat (Zy (fun(t:Coef)=>Str.s t.v==PV.asStr (List.getD (PV.cells (enc y0)) 0 default)) (dec (enc v)))) default)))=AV.pv (PV.rptr (PV.cells ((enc) y1)))∧(if (decide (PV.asInt (List.getD (List.drop 1 (PV.cells (enc y1))) 0 default)<(-1000000000:Int)))=true then G ((.tup [(.int .i64 0),(.int .i64 2)]))else(if (decide (PV.asInt (List.getD (List.drop 1 (PV.cells (enc y1))) 0 default)>1000000000))=true then G ((.tup [(.int .i64 0),(.int .i64 2)]))else((decide (0<=Zy (fun(t:Coef)=>Str.s t.v==PV.asStr (List.getD (PV.cells (enc y0)) 0 default)) (dec (enc v)))&&decide (Int.toNat (Zy (fun(t:Coef)=>Str.s t.v==PV.asStr (List.getD (PV.cells (enc y0)) 0 default)) (dec (enc v)))<List.length (List.map enc v))&&Enc.sz Coef==2)=true∧(∃ y2:Coef,AV.pv (PV.rptr (PV.cells (List.getD (List.map enc v) (Int.toNat (Zy (fun(t:Coef)=>Str.s t.v==PV.asStr (List.getD (PV.cells (enc y0)) 0 default)) (dec (enc v)))) default)))=AV.pv (PV.rptr (PV.cells ((enc) y2)))∧(At DX 0 (Za Kv G) KN 0 51 [(1,(.pv (.sl 2 false (List.map enc v)))),(6,(.pv (.int .i64 (IntKind.wrap IntKind.i64 (n+IntKind.wrap IntKind.i64 (PV.asInt (List.getD (PV.cells (enc y0)) (0+1) default)*PV.asInt (List.getD (List.drop 1 (PV.cells (enc y2))) 0 default))))))),(17,(.pv (.sl 2 false (List.map enc l.t)))),(18,(.pv (.int .i64 (↑(List.length l.t):Int)))),(19,(.pv (.int .i64 (IntKind.wrap IntKind.i64 (i+1)))))] []))))))))))else(G ((.tup [(.int .i64 n),(.int .i64 0)])))):At DX 0 (Za Kv G) KN 0 51 [(1,.pv (enc v)),(6,.pv (.int .i64 n)),(17,.pv (enc l.t)),(18,.pv (.int .i64 l.t.length)),(19,.pv (.int .i64 i))] []:=At.tp (.lit (.ask (.req (.abs (Coef) (fun YY=>AV.pv (PV.rptr (PV.cells ((enc) YY)))) (.lit (.req (.keep (.lit (.ask (.nil) (.req (.abs (Coef) (fun YY=>AV.pv (PV.rptr (PV.cells ((enc) YY)))) (.lit (.lit (.ask (.lit (.lit (.lit (.nil)))) (.lit (.lit (.lit (.ask (.nil) (.req (.abs (Coef) (fun YY=>AV.pv (PV.rptr (PV.cells ((enc) YY)))) (.lit (.lit (.lit (.lit (.nil))))))))))))))))))))))) (.nil))) h (by kernel_rfl)
def b3e:IC:=(.seq (.reg [⟨(some 2),(.box 3 (.t 0)),0,none⟩,⟨(some 3),(.mv (.c (.bool false))),1,none⟩] none) (.seq (.reg [⟨(some 7),(.faddr 1 (.t 2)),0,none⟩,⟨(some 8),(.load true [(.int .i64),(.sl 2)] (.t 7)),0,none⟩,⟨(some 9),(.load false [(.sl 2)] (.t 1)),0,none⟩,⟨(some 10),(.call (.c (.fn 38)) [(.t 8),(.t 9)]),0,none⟩,⟨(some 6),(.mv (.t 10)),2,none⟩,⟨(some 11),(.extract (.t 6) 0),2,none⟩,⟨(some 12),(.extract (.t 6) 1),2,none⟩,⟨(some 4),(.mv (.t 11)),2,none⟩,⟨(some 5),(.mv (.t 12)),2,none⟩] none) (.seq (.reg [⟨(some 13),(.mv (.t 5)),0,none⟩,⟨(some 14),(.bin .num .neq (.t 13) (.c (.int .i64 0))),0,none⟩,⟨(some 15),(.mv (.t 14)),0,none⟩,⟨(some 16),(.mv (.t 4)),0,(some (15,false))⟩,⟨(some 17),(.bin .num .lss (.t 16) (.c (.int .i64 0))),0,(some (15,false))⟩,⟨(some 18),(.pick (.t 15) (.c (.bool true)) (.t 17)),0,none⟩,⟨(some 19),(.mv (.t 18)),0,none⟩,⟨(some 20),(.faddr 0 (.t 2)),0,(some (19,false))⟩,⟨(some 21),(.load false [.bool] (.t 20)),0,(some (19,false))⟩,⟨(some 22),(.mv (.t 21)),0,(some (19,false))⟩,⟨(some 23),(.mv (.t 4)),0,(some (22,true))⟩,⟨(some 24),(.bin .num .neq (.t 23) (.c (.int .i64 0))),0,(some (22,true))⟩,⟨(some 25),(.pick (.t 22) (.t 24) (.c (.bool false))),0,(some (19,false))⟩,⟨(some 26),(.pick (.t 19) (.c (.bool true)) (.t 25)),0,none⟩,⟨(some 3),(.mv (.t 26)),0,none⟩] none) .ret)))
def b1c:List IRes:=[(.tmp 3)]
abbrev c6s:Nat:=27
def c3k:ZE:=Xg [(38,.pure (preT (fun x:Lin×List Coef×Unit=>ZP x.1&&decide (x.2.1.length<=9223372036854775807))) (Zf (fun x:Lin×List Coef×Unit=>ZX x.1 x.2.1)))]
theorem c9t{G:AV×List AObj×List AObj->Prop}(f:Fact)(v:List Coef)(h:(Go.Pl.preT (fun(x:Lin×List Coef×Unit)=>ZP x.1&&decide (List.length x.2.1<=9223372036854775807)) [(.agg [(.int .i64 (Lin.k f.l)),(.sl 2 false (List.map enc (Lin.t f.l)))]),(.sl 2 false (List.map enc v))])=true∧(∃ y0:Int×Int,AV.pv (Zf (fun(x:Lin×List Coef×Unit)=>ZX x.1 x.2.1) [(.agg [(.int .i64 (Lin.k f.l)),(.sl 2 false (List.map enc (Lin.t f.l)))]),(.sl 2 false (List.map enc v))])=AV.pv (enc y0)∧(if (y0.2 != 0)=true then G (((.pv (.bool true)),([(.box [(.pv (.sl 2 false (List.map enc v)))])],[])))else(if (decide (y0.1<0))=true then G (((.pv (.bool true)),([(.box [(.pv (.sl 2 false (List.map enc v)))])],[])))else(if f.eq=true then G (((.pv (.bool (y0.1 != 0))),([(.box [(.pv (.sl 2 false (List.map enc v)))])],[])))else(G (((.pv (.bool false)),([(.box [(.pv (.sl 2 false (List.map enc v)))])],[]))))))))):Zc c3k 1 (Zk 1 b1c G) b3e [] (YD 27 [.pv (enc f),.ptr 0 0] [.box [.pv (enc v)]]):=Zc.to (.req (.abs (Int×Int) (fun YY=>AV.pv (enc YY)) (.lit (.ask (.lit (.lit (.lit (.lit (.lit (.lit (.lit (.nil)))))))) (.lit (.lit (.lit (.ask (.lit (.lit (.lit (.lit (.nil))))) (.lit (.lit (.ask (.lit (.lit (.lit (.lit (.lit (.nil)))))) (.lit (.lit (.lit (.lit (.nil)))))))))))))))) h (by kernel_rfl)
def Jy:IC:=KI
def JC:List IRes:=[(.tmp 4)]
abbrev c3o:Nat:=19
def Bb:ZE:=Xg [(239,.own JK GM)]
theorem c7q{G:AV×List AObj×List AObj->Prop}(l:List Fact)(v:List Coef)(h:At Bb 1 (Zk 1 JC G) Jy 0 19 [(0,(.pv (.sl 3 false (List.map enc l)))),(1,(.fn 239 [] [(.ptr 0 0)])),(7,(.pv (.int .i64 (↑(List.length (List.map enc l)):Int)))),(8,(.pv (.int .i64 0)))] [(.obj (.box [(.pv (.sl 2 false (List.map enc v)))]))]):Zc Bb 1 (Zk 1 JC G) Jy [] (YD 19 [.pv (enc l),.fn 239 [] [.ptr 0 0]] [.box [.pv (enc v)]]):=Zc.to (.nil) h (by kernel_rfl)
theorem a7i{G:AV×List AObj×List AObj->Prop}(l:List Fact)(v:List Coef)(i:Int)(h:if (decide (i<(↑(List.length l):Int)))=true then(decide (0<=i)&&decide (Int.toNat i<List.length (List.map enc l))&&Enc.sz Fact==3)=true∧(∃ y0:Fact,AV.pv (PV.rptr (PV.cells (List.getD (List.map enc l) (Int.toNat i) default)))=AV.pv (PV.rptr (PV.cells ((enc) y0)))∧((JK [(.pv (.agg [(.bool (PV.asBool (List.getD (PV.cells (enc y0)) 0 default))),(.int .i64 (PV.asInt (List.getD (PV.cells (enc y0)) (0+1) default))),(.sl 2 false (PV.asXs (List.getD (PV.cells (enc y0)) (0+1+1) default)))])),(.ptr 0 0)] [(.box [(.pv (.sl 2 false (List.map enc v)))])])=true∧(if (!YW (dec (PV.agg (QB (PV.cells (enc y0)) 0 [Sh.bool,Sh.int .i64,Sh.sl 2]))) (dec (enc v)))=true then G (((.pv (.int .i64 i)),([(.box [(.pv (.sl 2 false (List.map enc v)))])],[])))else(At Bb 1 (Zk 1 JC G) Jy 0 19 [(0,(.pv (.sl 3 false (List.map enc l)))),(1,(.fn 239 [] [(.ptr 0 0)])),(7,(.pv (.int .i64 (↑(List.length l):Int)))),(8,(.pv (.int .i64 (IntKind.wrap IntKind.i64 (i+1)))))] [(.obj (.box [(.pv (.sl 2 false (List.map enc v)))]))]))))else(G (((.pv (.int .i64 (-1))),([(.box [(.pv (.sl 2 false (List.map enc v)))])],[]))))):At Bb 1 (Zk 1 JC G) Jy 0 19 [(0,.pv (enc l)),(1,.fn 239 [] [.ptr 0 0]),(7,.pv (.int .i64 l.length)),(8,.pv (.int .i64 i))] [.obj (.box [.pv (enc v)])]:=At.to (.lit (.ask (.req (.abs (Fact) (fun YY=>AV.pv (PV.rptr (PV.cells ((enc) YY)))) (.lit (.req (.keep (.ask (.nil) (.lit (.nil)))))))) (.nil))) h (by kernel_rfl)
def Oe:IC:=RD
def FH:List IRes:=[(.tmp 4)]
abbrev c5b:Nat:=9
def a8z:ZE:=Xg [(227,.own (WH 239) Cc)]
theorem c8d{G:AV×List AObj×List AObj->Prop}(l:List Fact)(v:List Coef)(h:(WH 239 [(.pv (.sl 3 false (List.map enc l))),(.fn 239 [] [(.ptr 0 0)])] [(.box [(.pv (.sl 2 false (List.map enc v)))])])=true∧(G (((.pv (.bool (decide (Zy (fun(f:Fact)=> !YW f (dec (enc v))) (dec (enc l)) ≥ 0)))),([(.box [(.pv (.sl 2 false (List.map enc v)))])],[]))))):Zc a8z 1 (Zk 1 FH G) Oe [] (YD 9 [.pv (enc l),.fn 239 [] [.ptr 0 0]] [.box [.pv (enc v)]]):=Zc.to (.req (.keep (.lit (.nil)))) h (by kernel_rfl)
def Dq:IC:=(.seq (.reg [⟨(some 3),(.box 1 (.t 1)),0,none⟩,⟨(some 4),(.mv (.c (.bool false))),1,none⟩] none) (.seq (.reg [⟨(some 5),(.mv (.t 0)),0,none⟩,⟨(some 6),(.mkfn 239 [] [(.t 3)]),0,none⟩,⟨(some 7),(.call (.c (.fn 161)) [(.t 5),(.t 6)]),0,none⟩,⟨(some 8),(.un .not (.t 7)),2,none⟩,⟨(some 4),(.mv (.t 8)),2,none⟩] none) .ret))
def GD:List IRes:=[(.tmp 4)]
abbrev a3m:Nat:=9
def Aq:ZE:=Xg [(161,.own (WH 239) Ci)]
theorem b0m{G:PV->Prop}(l:List Fact)(v:List Coef)(h:(WH 239 [(.pv (.sl 3 false (List.map enc l))),(.fn 239 [] [(.ptr 0 0)])] [(.box [(.pv (.sl 2 false (List.map enc v)))])])=true∧(G ((.bool (!List.any (dec (enc l)) fun(f:Fact)=> !YW f (dec (enc v))))))):Zc Aq 0 (Za GD G) Dq [] (Yz 9 [enc l,enc v]):=Zc.tp (.req (.keep (.nil))) h (by kernel_rfl)
end Go.Pl

namespace Go.Pl
open Go.RowKit
open Enc (enc dec is)
open EncL (encL decL isL)
theorem b6r: ∀ a:Fact×Unit,ZP a.1.l=true->Zc a7z 0 (Za Od (Zm (!(Zg a.1.l)))) Eg [] (Yz c6a (encL a)):=by
 rintro⟨f,⟨⟩⟩ h
 exact c7d f ⟨Zl (f.l,()) rfl h,Zj (f.l,()) rfl (ZZ rfl)⟩
theorem DR{l:List Fact}(h:Zp l=true):l.length<=9223372036854775807∧ ∀ f∈l,ZP f.l=true:=by
 simp only[Zp,Bool.and_eq_true,decide_eq_true_eq,List.all_eq_true]at h
 exact h
theorem b0e(l:List Fact)(h:Zp l=true): ∀ (m i:Nat),m+i=l.length->(∀ j (hj:j<l.length),j<i->(!(Zg l[j].l))=false) ->
  At BZ 0 (Za J5 (Zm (Zy (fun f:Fact=> !(Zg f.l)) l))) KI 0 19 [(0,.pv (enc l)),(1,.pv (.fn 162)),(7,.pv (.int .i64 l.length)),(8,.pv (.int .i64 i))] []:=by
 obtain⟨hl,hs⟩:=DR h
 intro m
 induction m with
 | zero=>
  intro i hi hno
  refine b1b l i (Z0 (Yd (by omega)) (Ka ?_))
  rw[U5 _ _ (fun j hj=>hno j hj (by omega))]
 | succ m ih=>
  intro i hi hno
  have hlt:i<l.length:=by omega
  refine b1b l i (ZV (Ya hlt) ⟨ZB hlt rfl,ZY hlt ⟨Zl (l[i],()) rfl (hs _ (List.getElem_mem hlt)),Zj (l[i],()) rfl (Xj (fun hb=> ?_) fun hb=> ?_)⟩⟩)
  ·exact Ka (Qc (fun f:Fact=> !(Zg f.l)) l i hlt hno hb).symm
  ·rw[next (by omega)]
   refine ih (i+1) (by omega) fun j hj hji=> ?_
   by_cases e:j=i
   ·subst e;exact hb
   ·exact hno j hj (by omega)
theorem b6n: ∀ a:List Fact×FnV 162×Unit,Zp a.1=true->Zc BZ 0 (Za J5 (Zm (Zy (fun f:Fact=> !(Zg f.l)) a.1))) KI [] (Yz c2n (encL a)):=by
 rintro⟨l,g,⟨⟩⟩ h
 refine c7v l ?_
 rw[List.length_map]
 exact b0e l h l.length 0 (by omega) (fun j hj h=>by omega)
theorem b8o: ∀ a:List Fact×FnV 162×Unit,Zp a.1=true->Zc b6i 0 (Za Oi (Zm (a.1.any fun f:Fact=> !(Zg f.l)))) RD [] (Yz c3f (encL a)):=by
 rintro⟨l,g,⟨⟩⟩ h
 exact c7t l ⟨Zl (l,{},()) rfl h,Zj (l,{},()) rfl (ZZ (XL _ _))⟩
theorem a0k(l:List Fact)(p:Fact->Bool):(!(l.any fun f=> !(p f)))=l.all p:=by
 induction l with
 | nil=>rfl
 | cons x l ih=>simp only[List.any_cons,List.all_cons,Bool.not_or,Bool.not_not,ih]
theorem O5: ∀ a:List Fact×Unit,Zp a.1=true->Zc BB 0 (Za Df (Zm (XN a.1))) Da [] (Yz a3f (encL a)):=by
 rintro⟨l,⟨⟩⟩ h
 exact b5m l ⟨Zl (l,{},()) rfl h,Zj (l,{},()) rfl (ZZ (a0k l _))⟩
theorem b7o: ∀ args os,BL args os=true->Zc b4n os.length (Zk os.length Oa fun r=>r=R8 args os) Oj [] (YD c4e args os):=by
 intro args os h
 unfold BL at h
 split at h
 ·rename_i x v c
  obtain⟨x,rfl⟩:=Ym h
  exact c7u x v c (by simp only[R8,Enc.dec_enc])
 ·cases h
theorem b1k(l:List Coef)(v:List UInt8)(c:Int)(hl:l.length<=9223372036854775807)(H:AV×List AObj×List AObj)(hH:H=(.pv (.int .i64 (Zy (fun t:Coef=>t.v.s==v) l)),[.box [.pv (.str v),.pv (.int .i64 c)]],[])): ∀ (m i:Nat),m+i=l.length->(∀ j (hj:j<l.length),j<i->(l[j].v.s==v)=false) ->
  At BP 1 (Zk 1 JF fun r=>r=H) KE 0 19 [(0,.pv (enc l)),(1,.fn 110 [] [.ptr 0 0]),(7,.pv (.int .i64 l.length)),(8,.pv (.int .i64 i))] [.obj (.box [.pv (.str v),.pv (.int .i64 c)])]:=by
 subst hH
 intro m
 induction m with
 | zero=>
  intro i hi hno
  refine b4d l v c i (Z0 (Yd (by omega)) ?_)
  rw[U5 _ _ (fun j hj=>hno j hj (by omega))]
 | succ m ih=>
  intro i hi hno
  have hlt:i<l.length:=by omega
  refine b4d l v c i (ZV (Ya hlt) ⟨ZB hlt rfl,ZY hlt ⟨ZI l[i],Xj (fun hb=> ?_) fun hb=> ?_⟩⟩)
  ·rw[Qc (fun t:Coef=>t.v.s==v) l i hlt hno hb]
  ·rw[next (by omega)]
   refine ih (i+1) (by omega) fun j hj hji=> ?_
   by_cases e:j=i
   ·subst e;exact hb
   ·exact hno j hj (by omega)
theorem b6o: ∀ args os,QX 110 args os=true->Zc BP os.length (Zk os.length JF fun r=>r=Cg args os) KE [] (YD c3h args os):=by
 intro args os h
 unfold QX at h
 split at h
 ·rename_i l g v c
  simp only[Bool.and_eq_true,beq_iff_eq,decide_eq_true_eq]at h
  obtain⟨⟨rfl,hl⟩,h2⟩:=h
  obtain⟨l,rfl⟩:=Ym hl
  rw[Enc.dec_enc]at h2
  refine c7m l v c ?_
  rw[List.length_map]
  exact b1k l v c h2 _ (by simp only[Cg,Enc.dec_enc]) l.length 0 (by omega) (fun j hj h=>by omega)
 ·cases h
theorem Ni(v:List Coef)(s:Str):(Zy (fun t:Coef=>t.v.s==s.s) v<0∧Us v s=none) ∨ ∃ (i:Nat) (hi:i<v.length),Zy (fun t:Coef=>t.v.s==s.s) v=i∧Us v s=some v[i].c:=by
 unfold Zy Us
 have hp:(fun t:Coef=>decide (t.v=s))=fun t:Coef=>t.v.s==s.s:=by
  funext t
  by_cases h:t.v=s
  ·simp[h]
  ·have : ¬ t.v.s=s.s:=fun e=>h (by cases hv:t.v;cases s;rw[hv]at e;cases e;rfl)
   simp[h,this]
 rw[hp]
 cases h:v.findIdx? (fun t:Coef=>t.v.s==s.s)with
 | none=>
  left
  refine⟨by show(-1:Int)<0;omega,?_⟩
  rw[List.findIdx?_eq_none_iff]at h
  have:v.find? (fun t:Coef=>t.v.s==s.s)=none:=List.find?_eq_none.2 fun x hx=>by simp[h x hx]
  rw[this];rfl
 | some i=>
  right
  have h':=h
  rw[List.findIdx?_eq_some_iff_getElem]at h
  obtain⟨hi,h1,h2⟩:=h
  refine⟨i,hi,rfl,?_⟩
  have:v.find? (fun t:Coef=>t.v.s==s.s)=some v[i]:=by
   rw[List.find?_eq_some_iff_getElem]
   exact⟨h1,i,hi,rfl,fun j hj=>by simpa using h2 j hj⟩
  rw[this];rfl
theorem b1v(l:Lin)(v:List Coef)(hl:l.t.length<=9223372036854775807)(hv:v.length<=9223372036854775807): ∀ (m i:Nat) (n:Int),m+i=l.t.length ->
  At DX 0 (Za Kv (Zm (Vy v n (l.t.drop i)))) KN 0 51 [(1,.pv (enc v)),(6,.pv (.int .i64 n)),(17,.pv (enc l.t)),(18,.pv (.int .i64 l.t.length)),(19,.pv (.int .i64 i))] []:=by
 intro m
 induction m with
 | zero=>
  intro i n hi
  refine b2y l v n i (Z0 (Yd (by omega)) ?_)
  rw[List.drop_of_length_le (show l.t.length<=i by omega)]
  exact⟨rfl,rfl⟩
 | succ m ih=>
  intro i n hi
  have hlt:i<l.t.length:=by omega
  refine b2y l v n i (ZV (Ya hlt) ⟨ZB hlt rfl,ZY hlt ?_⟩)
  rw[List.drop_eq_getElem_cons hlt,Vy,next (by omega)]
  have e0:PV.asStr (List.getD (PV.cells (enc l.t[i])) 0 default)=l.t[i].v.s:=rfl
  simp only[e0,Enc.dec_enc]
  refine⟨by show QX _ [.pv (enc v),_] _=true;simp[QX,hv],?_⟩
  rcases Ni v l.t[i].v with ⟨h1,h2⟩|⟨k,hk,h1,h2⟩
  ·rw[h2]
   exact ZV (by simpa using h1) ⟨rfl,rfl⟩
  ·rw[h2]
   simp only[h1]
   refine Z0 (by simp) ⟨ZB hk rfl,ZY hk ?_⟩
   refine WR (fun h3=> ?_) fun h3=>WR (fun h4=> ?_) fun h4=>⟨ZB hk rfl,ZY hk ?_⟩
   ·have h3:v[k].c < -1000000000:=h3
    rw[if_pos h3];exact⟨rfl,rfl⟩
   ·have h3 : ¬ v[k].c < -1000000000:=h3
    have h4:v[k].c>1000000000:=h4
    rw[if_neg h3,if_pos h4];exact⟨rfl,rfl⟩
   ·have h3 : ¬ v[k].c < -1000000000:=h3
    have h4 : ¬ v[k].c>1000000000:=h4
    rw[if_neg h3,if_neg h4]
    exact ih (i+1) _ (by omega)
theorem b9u: ∀ a:Lin×List Coef×Unit,(ZP a.1&&decide (a.2.1.length<=9223372036854775807))=true->Zc DX 0 (Za Kv (Zm (ZX a.1 a.2.1))) KN [] (Yz c2z (encL a)):=by
 rintro⟨l,v,⟨⟩⟩ h
 simp only[Bool.and_eq_true,decide_eq_true_eq]at h
 have hl:l.t.length<=9223372036854775807:=by
  have:=h.1
  simp only[ZP,YC,Bool.and_eq_true,decide_eq_true_eq]at this
  exact this.1
 refine c8b l v ⟨Zl (l,()) rfl h.1,Zj (l,()) rfl ?_⟩
 show if (!Zg l)=true then Zm (ZX l v) _ else At DX 0 (Za Kv (Zm (ZX l v))) KN 0 51 _ _
 unfold ZX
 refine Vu (fun hv=> ?_) fun hv=> ?_
 ·rw[if_neg (by rw[hv];simp)]
  exact⟨rfl,rfl⟩
 ·rw[if_pos hv,List.length_map]
  exact b1v l v hl h.2 l.t.length 0 l.k (by omega)
theorem c6o: ∀ args os,JK args os=true->Zc c3k os.length (Zk os.length b1c fun r=>r=GM args os) b3e [] (YD c6s args os):=by
 intro args os h
 unfold JK at h
 split at h
 ·rename_i f v
  simp only[Bool.and_eq_true,decide_eq_true_eq]at h
  obtain⟨⟨⟨hf,hv⟩,h1⟩,h2⟩:=h
  obtain⟨f,rfl⟩:=Ym hf
  obtain⟨v,rfl⟩:=Ym hv
  rw[Enc.dec_enc]at h1 h2
  refine c9t f v ⟨Zl (f.l,v,()) rfl (by simp only[h1,Bool.true_and];exact decide_eq_true h2),Zj (f.l,v,()) rfl ?_⟩
  show if ((ZX f.l v).2 != 0)=true then(_:AV×List AObj×List AObj)=GM _ _ else _
  have hval:GM [.pv (enc f),.ptr 0 0] [.box [.pv (enc v)]]=(.pv (.bool (!YW f v)),[.box [.pv (enc v)]],[]):=by simp only[GM,Enc.dec_enc]
  rw[hval]
  unfold YW
  by_cases a1:(ZX f.l v).2=0
  ·refine Z0 (by simp[a1]) (WR (fun a2=> ?_) fun a2=>Xj (fun a3=> ?_) fun a3=> ?_)
   ·have a2:(ZX f.l v).1<0:=a2
    simp[a2];rfl
   ·have a2 : ¬ (ZX f.l v).1<0:=a2
    rw[decide_eq_true a1,decide_eq_false a2,a3]
    simp only[Bool.not_false,Bool.true_and,Bool.not_true,Bool.false_or]
    rfl
   ·have a2 : ¬ (ZX f.l v).1<0:=a2
    rw[decide_eq_true a1,decide_eq_false a2,a3]
    rfl
  ·refine ZV (by simpa using a1) ?_
   rw[decide_eq_false a1]
   rfl
 ·cases h
theorem a7j(l:List Fact)(v:List Coef)(hl:Zp l=true)(hv:v.length<=9223372036854775807)(H:AV×List AObj×List AObj)(hH:H=(.pv (.int .i64 (Zy (fun f=> !YW f v) l)),[.box [.pv (enc v)]],[])): ∀ (m i:Nat),m+i=l.length->(∀ j (hj:j<l.length),j<i->(!YW l[j] v)=false) ->
  At Bb 1 (Zk 1 JC fun r=>r=H) Jy 0 19 [(0,.pv (enc l)),(1,.fn 239 [] [.ptr 0 0]),(7,.pv (.int .i64 l.length)),(8,.pv (.int .i64 i))] [.obj (.box [.pv (enc v)])]:=by
 subst hH
 obtain⟨hl,hs⟩:=DR hl
 intro m
 induction m with
 | zero=>
  intro i hi hno
  refine a7i l v i (Z0 (Yd (by omega)) ?_)
  rw[U5 _ _ (fun j hj=>hno j hj (by omega))]
  rfl
 | succ m ih=>
  intro i hi hno
  have hlt:i<l.length:=by omega
  have hsi:=hs _ (List.getElem_mem hlt)
  refine a7i l v i (ZV (Ya hlt) ⟨ZB hlt rfl,ZY hlt ⟨?_,?_⟩⟩)
  ·show JK [.pv (enc l[i]),.ptr 0 0] [.box [.pv (enc v)]]=true
   simp[JK,hsi,hv]
  ·have e:YW (dec (enc l[i]:PV)) (dec (enc v:PV))=YW l[i] v:=by rw[Enc.dec_enc,Enc.dec_enc]
   show if (!YW (dec (enc l[i]:PV)) (dec (enc v:PV)))=true then _ else _
   rw[e]
   refine Xj (fun hb=> ?_) fun hb=> ?_
   ·rw[Qc (fun f=> !YW f v) l i hlt hno hb]
    rfl
   ·rw[next (by omega)]
    refine ih (i+1) (by omega) fun j hj hji=> ?_
    by_cases e:j=i
    ·subst e;exact hb
    ·exact hno j hj (by omega)
theorem c0p: ∀ args os,WH 239 args os=true->Zc Bb os.length (Zk os.length JC fun r=>r=Cc args os) Jy [] (YD c3o args os):=by
 intro args os h
 unfold WH at h
 split at h
 ·rename_i l g v
  simp only[Bool.and_eq_true,beq_iff_eq,decide_eq_true_eq]at h
  obtain⟨⟨⟨⟨rfl,hl⟩,hv⟩,h1⟩,h2⟩:=h
  obtain⟨l,rfl⟩:=Ym hl
  obtain⟨v,rfl⟩:=Ym hv
  rw[Enc.dec_enc]at h1 h2
  refine c7q l v ?_
  rw[List.length_map]
  exact a7j l v h1 h2 _ (by simp only[Cc,Enc.dec_enc]) l.length 0 (by omega) (fun j hj h=>by omega)
 ·cases h
theorem b9l: ∀ args os,WH 239 args os=true->Zc a8z os.length (Zk os.length FH fun r=>r=Ci args os) Oe [] (YD c5b args os):=by
 intro args os h
 have h':=h
 unfold WH at h
 split at h
 ·rename_i l g v
  simp only[Bool.and_eq_true,beq_iff_eq,decide_eq_true_eq]at h
  obtain⟨⟨⟨⟨rfl,hl⟩,hv⟩,h1⟩,h2⟩:=h
  obtain⟨l,rfl⟩:=Ym hl
  obtain⟨v,rfl⟩:=Ym hv
  refine c8d l v ⟨h',?_⟩
  simp only[Ci,Enc.dec_enc,XL]
  rfl
 ·cases h
theorem F8: ∀ a:List Fact×List Coef×Unit,(Zp a.1&&decide (a.2.1.length<=9223372036854775807))=true->Zc Aq 0 (Za GD (Zm (a.1.all fun f=>YW f a.2.1))) Dq [] (Yz a3m (encL a)):=by
 rintro⟨l,v,⟨⟩⟩ h
 refine b0m l v ⟨?_,?_⟩
 ·show WH _ [.pv (enc l),_] [.box [.pv (enc v)]]=true
  simpa [WH]using h
 ·rw[Enc.dec_enc,Enc.dec_enc]
  exact ZZ (a0k l _)
end Go.Pl

namespace Go.Pl
open Go.RowKit
open Enc (enc dec is)
open EncL (encL decL isL)
set_option maxRecDepth 100000
end Go.Pl

namespace Go.Pl
open Go.RowKit
open Enc (enc dec is)
open EncL (encL decL isL)
end Go.Pl

namespace Go.Pl
open Go.RowKit
open Enc (enc dec is)
open EncL (encL decL isL)
mutual
def Ey:Cert->Int->Bool
 | .mk _ m l ks,n=> !decide ((m.length:Int)>60)&&(KG l 8&&(!decide (n<1)&&(!decide ((ks.length:Int)>n)&&Cw ks n)))
def Cw:List Cert->Int->Bool
 | [],_=>true
 | c::cs,n=>Ey c (XO (n - 1))&&Cw cs (XO (n - CP c))
end
end Go.Pl

namespace Go.Pl
open Go.RowKit
open Enc (enc dec is)
open EncL (encL decL isL)
set_option maxRecDepth 100000
end Go.Pl

namespace Go.Pl
open Go.RowKit
open Enc (enc dec is)
open EncL (encL decL isL)
set_option maxRecDepth 100000
def RA:IC:=(.seq (.reg [⟨(some 2),(.mv (.c (.bool false))),0,none⟩] none) (.seq (.reg [⟨(some 3),(.mv (.t 0)),0,none⟩,⟨(some 4),(.bin .num .geq (.t 3) (.c (.int .u8 48))),0,none⟩,⟨(some 5),(.mv (.t 4)),0,none⟩,⟨(some 6),(.mv (.t 0)),0,(some (5,true))⟩,⟨(some 7),(.bin .num .leq (.t 6) (.c (.int .u8 57))),0,(some (5,true))⟩,⟨(some 8),(.pick (.t 5) (.t 7) (.c (.bool false))),0,none⟩,⟨(some 2),(.mv (.t 8)),0,none⟩] none) .ret))
def Nn:List IRes:=[(.tmp 2)]
abbrev b7b:Nat:=9
def Oc:ZE:=Xg []
theorem c3n{G:PV->Prop}(c:UInt8)(h:if (decide ((↑(UInt8.toNat c):Int) ≥ 48))=true then G ((.bool (decide ((↑(UInt8.toNat c):Int)<=57))))else(G ((.bool false)))):Zc Oc 0 (Za Nn G) RA [] (Yz 9 [enc c]):=Zc.tp (.lit (.ask (.lit (.lit (.lit (.nil)))) (.lit (.lit (.nil))))) h (by kernel_rfl)
def Pb:IC:=(.seq (.reg [⟨(some 2),(.mv (.c (.bool false))),0,none⟩] none) (.seq (.reg [⟨(some 3),(.mv (.t 0)),0,none⟩,⟨(some 4),(.bin .num .geq (.t 3) (.c (.int .u8 97))),0,none⟩,⟨(some 5),(.mv (.t 4)),0,none⟩,⟨(some 6),(.mv (.t 0)),0,(some (5,true))⟩,⟨(some 7),(.bin .num .leq (.t 6) (.c (.int .u8 122))),0,(some (5,true))⟩,⟨(some 8),(.pick (.t 5) (.t 7) (.c (.bool false))),0,none⟩,⟨(some 2),(.mv (.t 8)),0,none⟩] none) .ret))
def Rt:List IRes:=[(.tmp 2)]
abbrev b6l:Nat:=9
def EI:ZE:=Xg []
theorem c6k{G:PV->Prop}(c:UInt8)(h:if (decide ((↑(UInt8.toNat c):Int) ≥ 97))=true then G ((.bool (decide ((↑(UInt8.toNat c):Int)<=122))))else(G ((.bool false)))):Zc EI 0 (Za Rt G) Pb [] (Yz 9 [enc c]):=Zc.tp (.lit (.ask (.lit (.lit (.lit (.nil)))) (.lit (.lit (.nil))))) h (by kernel_rfl)
def Jf:IC:=(.seq (.reg [⟨(some 2),(.mv (.c (.bool false))),0,none⟩] none) (.seq (.reg [⟨(some 3),(.mv (.t 0)),0,none⟩,⟨(some 4),(.bin .num .geq (.t 3) (.c (.int .i64 (-1000000)))),0,none⟩,⟨(some 5),(.mv (.t 4)),0,none⟩,⟨(some 6),(.mv (.t 0)),0,(some (5,true))⟩,⟨(some 7),(.bin .num .leq (.t 6) (.c (.int .i64 1000000))),0,(some (5,true))⟩,⟨(some 8),(.pick (.t 5) (.t 7) (.c (.bool false))),0,none⟩,⟨(some 2),(.mv (.t 8)),0,none⟩] none) .ret))
def GJ:List IRes:=[(.tmp 2)]
abbrev a4m:Nat:=9
def CZ:ZE:=Xg []
theorem b3b{G:PV->Prop}(n:Int)(h:if (decide (n ≥ (-1000000:Int)))=true then G ((.bool (decide (n<=1000000))))else(G ((.bool false)))):Zc CZ 0 (Za GJ G) Jf [] (Yz 9 [enc n]):=Zc.tp (.lit (.ask (.lit (.lit (.lit (.nil)))) (.lit (.lit (.nil))))) h (by kernel_rfl)
def EG:IC:=Jf
def OA:List IRes:=[(.tmp 2)]
abbrev c6q:Nat:=9
def a8v:ZE:=Xg []
theorem c6x{G:PV->Prop}(n:Int)(h:if (decide (n ≥ (-1000000:Int)))=true then G ((.bool (decide (n<=1000000))))else(G ((.bool false)))):Zc a8v 0 (Za OA G) EG [] (Yz 9 [enc n]):=Zc.tp (.lit (.ask (.lit (.lit (.lit (.nil)))) (.lit (.lit (.nil))))) h (by kernel_rfl)
def XB:IC:=(.seq (.reg [⟨(some 2),(.mv (.c (.bool false))),0,none⟩] none) (.seq (.seq (.reg [⟨(some 5),(.mv (.t 0)),0,none⟩,⟨(some 6),(.len 0 (.t 5)),0,none⟩,⟨(some 7),(.bin .num .eql (.t 6) (.c (.int .i64 0))),0,none⟩,⟨(some 8),(.mv (.t 7)),0,none⟩,⟨(some 9),(.mv (.t 0)),0,(some (8,false))⟩,⟨(some 10),(.len 0 (.t 9)),0,(some (8,false))⟩,⟨(some 11),(.bin .num .gtr (.t 10) (.c (.int .i64 30))),0,(some (8,false))⟩,⟨(some 12),(.pick (.t 8) (.c (.bool true)) (.t 11)),0,none⟩] none) (.cond (.t 12) (.seq (.reg [⟨(some 2),(.mv (.c (.bool false))),0,none⟩] none) .ret) .skip)) (.seq (.seq (.reg [⟨(some 13),(.mv (.t 0)),0,none⟩,⟨(some 14),(.index (.t 13) (.c (.int .i64 0))),0,none⟩,⟨(some 15),(.bin .num .eql (.t 14) (.c (.int .u8 95))),0,none⟩] none) (.cond (.t 15) (.seq (.seq (.reg [⟨(some 16),(.mv (.t 0)),0,none⟩,⟨(some 17),(.len 0 (.t 16)),0,none⟩,⟨(some 18),(.bin .num .lss (.t 17) (.c (.int .i64 2))),0,none⟩,⟨(some 19),(.mv (.t 18)),0,none⟩,⟨(some 20),(.mv (.t 0)),0,(some (19,false))⟩,⟨(some 21),(.len 0 (.t 20)),0,(some (19,false))⟩,⟨(some 22),(.bin .num .gtr (.t 21) (.c (.int .i64 10))),0,(some (19,false))⟩,⟨(some 23),(.pick (.t 19) (.c (.bool true)) (.t 22)),0,none⟩,⟨(some 24),(.mv (.t 23)),0,none⟩,⟨(some 25),(.mv (.t 0)),0,(some (24,false))⟩,⟨(some 26),(.index (.t 25) (.c (.int .i64 1))),0,(some (24,false))⟩,⟨(some 27),(.bin .num .eql (.t 26) (.c (.int .u8 48))),0,(some (24,false))⟩,⟨(some 28),(.pick (.t 24) (.c (.bool true)) (.t 27)),0,none⟩] none) (.cond (.t 28) (.seq (.reg [⟨(some 2),(.mv (.c (.bool false))),0,none⟩] none) .ret) .skip)) (.seq (.seq (.reg [⟨(some 3),(.mv (.c (.int .i64 1))),0,none⟩] none) (.block 0 (.loop [3,0] (.seq (.seq (.reg [⟨(some 29),(.mv (.t 3)),0,none⟩,⟨(some 30),(.mv (.t 0)),0,none⟩,⟨(some 31),(.len 0 (.t 30)),0,none⟩,⟨(some 32),(.bin .num .lss (.t 29) (.t 31)),0,none⟩] none) (.cond (.t 32) .skip (.exit 0))) (.seq (.block 1 (.seq (.reg [⟨(some 35),(.mv (.t 0)),0,none⟩,⟨(some 36),(.mv (.t 3)),0,none⟩,⟨(some 37),(.index (.t 35) (.t 36)),0,none⟩,⟨(some 38),(.call (.c (.fn 155)) [(.t 37)]),0,none⟩,⟨(some 39),(.un .not (.t 38)),2,none⟩] none) (.cond (.t 39) (.seq (.reg [⟨(some 2),(.mv (.c (.bool false))),0,none⟩] none) .ret) .skip))) (.reg [⟨(some 33),(.mv (.t 3)),0,none⟩,⟨(some 34),(.bin .num .add (.t 33) (.c (.int .i64 1))),0,none⟩,⟨(some 3),(.mv (.t 34)),0,none⟩] none)))))) (.seq (.reg [⟨(some 2),(.mv (.c (.bool true))),0,none⟩] none) .ret))) .skip)) (.seq (.seq (.reg [⟨(some 4),(.mv (.c (.int .i64 0))),0,none⟩] none) (.block 2 (.loop [4,0] (.seq (.seq (.reg [⟨(some 40),(.mv (.t 4)),0,none⟩,⟨(some 41),(.mv (.t 0)),0,none⟩,⟨(some 42),(.len 0 (.t 41)),0,none⟩,⟨(some 43),(.bin .num .lss (.t 40) (.t 42)),0,none⟩] none) (.cond (.t 43) .skip (.exit 2))) (.seq (.block 3 (.seq (.reg [⟨(some 46),(.mv (.t 0)),0,none⟩,⟨(some 47),(.mv (.t 4)),0,none⟩,⟨(some 48),(.index (.t 46) (.t 47)),0,none⟩,⟨(some 49),(.call (.c (.fn 156)) [(.t 48)]),0,none⟩,⟨(some 50),(.un .not (.t 49)),2,none⟩,⟨(some 51),(.mv (.t 50)),2,none⟩,⟨(some 52),(.mv (.t 4)),2,(some (51,true))⟩,⟨(some 53),(.bin .num .eql (.t 52) (.c (.int .i64 0))),2,(some (51,true))⟩,⟨(some 54),(.mv (.t 53)),2,(some (51,true))⟩,⟨(some 55),(.mv (.t 0)),2,(some (54,false))⟩,⟨(some 56),(.mv (.t 4)),2,(some (54,false))⟩,⟨(some 57),(.index (.t 55) (.t 56)),2,(some (54,false))⟩,⟨(some 58),(.call (.c (.fn 155)) [(.t 57)]),2,(some (54,false))⟩,⟨(some 59),(.un .not (.t 58)),4,(some (54,false))⟩,⟨(some 60),(.pick (.t 54) (.c (.bool true)) (.t 59)),4,(some (51,true))⟩,⟨(some 61),(.pick (.t 51) (.t 60) (.c (.bool false))),4,none⟩] none) (.cond (.t 61) (.seq (.reg [⟨(some 2),(.mv (.c (.bool false))),0,none⟩] none) .ret) .skip))) (.reg [⟨(some 44),(.mv (.t 4)),0,none⟩,⟨(some 45),(.bin .num .add (.t 44) (.c (.int .i64 1))),0,none⟩,⟨(some 4),(.mv (.t 45)),0,none⟩] none)))))) (.seq (.reg [⟨(some 2),(.mv (.c (.bool true))),0,none⟩] none) .ret)))))
def XF:List IRes:=[(.tmp 2)]
abbrev b4m:Nat:=62
def WG:ZE:=Xg [(155,.pure (preT (fun _:UInt8×Unit=>true)) (Zf (fun x:UInt8×Unit=>Wn x.1))),(156,.pure (preT (fun _:UInt8×Unit=>true)) (Zf (fun x:UInt8×Unit=>WB x.1)))]
theorem b7u{G:PV->Prop}(s:List UInt8)(h:if ((↑(List.length s):Int)==0)=true then G ((.bool false))else(if (decide ((↑(List.length s):Int)>30))=true then G ((.bool false))else((decide (0<=0)&&decide (Int.toNat 0<List.length s))=true∧(if ((↑(UInt8.toNat (List.getD s (Int.toNat 0) (0:UInt8))):Int)==95)=true then if (decide ((↑(List.length s):Int)<2))=true then G ((.bool false))else(if (decide ((↑(List.length s):Int)>10))=true then G ((.bool false))else((decide (0<=1)&&decide (Int.toNat 1<List.length s))=true∧(if ((↑(UInt8.toNat (List.getD s (Int.toNat 1) (0:UInt8))):Int)==48)=true then G ((.bool false))else(At WG 0 (Za XF G) XB 0 62 [(0,(.pv (.str s))),(3,(.pv (.int .i64 1)))] []))))else(At WG 0 (Za XF G) XB 1 62 [(0,(.pv (.str s))),(4,(.pv (.int .i64 0)))] []))))):Zc WG 0 (Za XF G) XB [] (Yz 62 [.str s]):=Zc.tp (.lit (.ask (.lit (.lit (.lit (.lit (.nil))))) (.lit (.lit (.lit (.lit (.ask (.nil) (.req (.lit (.ask (.lit (.ask (.lit (.lit (.lit (.lit (.lit (.lit (.lit (.lit (.nil))))))))) (.lit (.lit (.lit (.lit (.ask (.lit (.lit (.lit (.lit (.nil))))) (.lit (.req (.lit (.lit (.lit (.ask (.nil) (.nil)))))))))))))) (.nil))))))))))) h (by kernel_rfl)
theorem LX{G:PV->Prop}(s:List UInt8)(i:Int)(h:if (decide (i<(↑(List.length s):Int)))=true then(decide (0<=i)&&decide (Int.toNat i<List.length s))=true∧((Go.Pl.preT (fun(x:UInt8×Unit)=>true) [(.int IntKind.u8 (↑(UInt8.toNat (List.getD s (Int.toNat i) (0:UInt8))):Int))])=true∧(∃ y0:Bool,AV.pv (Zf (fun(x:UInt8×Unit)=>Wn x.1) [(.int IntKind.u8 (↑(UInt8.toNat (List.getD s (Int.toNat i) (0:UInt8))):Int))])=AV.pv (enc y0)∧(if (!y0)=true then G ((.bool false))else(At WG 0 (Za XF G) XB 0 62 [(0,(.pv (.str s))),(3,(.pv (.int .i64 (IntKind.wrap IntKind.i64 (i+1)))))] []))))else(G ((.bool true)))):At WG 0 (Za XF G) XB 0 62 [(0,.pv (.str s)),(3,.pv (.int .i64 i))] []:=At.tp (.lit (.ask (.req (.req (.abs (Bool) (fun YY=>AV.pv (enc YY)) (.ask (.nil) (.lit (.nil)))))) (.nil))) h (by kernel_rfl)
theorem Ad{G:PV->Prop}(s:List UInt8)(i:Int)(h:if (decide (i<(↑(List.length s):Int)))=true then(decide (0<=i)&&decide (Int.toNat i<List.length s))=true∧((Go.Pl.preT (fun(x:UInt8×Unit)=>true) [(.int IntKind.u8 (↑(UInt8.toNat (List.getD s (Int.toNat i) (0:UInt8))):Int))])=true∧(∃ y0:Bool,AV.pv (Zf (fun(x:UInt8×Unit)=>WB x.1) [(.int IntKind.u8 (↑(UInt8.toNat (List.getD s (Int.toNat i) (0:UInt8))):Int))])=AV.pv (enc y0)∧(if (!y0)=true then if (i==0)=true then G ((.bool false))else((decide (0<=i)&&decide (Int.toNat i<List.length s))=true∧((Go.Pl.preT (fun(x:UInt8×Unit)=>true) [(.int IntKind.u8 (↑(UInt8.toNat (List.getD s (Int.toNat i) (0:UInt8))):Int))])=true∧(∃ y1:Bool,AV.pv (Zf (fun(x:UInt8×Unit)=>Wn x.1) [(.int IntKind.u8 (↑(UInt8.toNat (List.getD s (Int.toNat i) (0:UInt8))):Int))])=AV.pv (enc y1)∧(if (!y1)=true then G ((.bool false))else(At WG 0 (Za XF G) XB 1 62 [(0,(.pv (.str s))),(4,(.pv (.int .i64 (IntKind.wrap IntKind.i64 (i+1)))))] [])))))else(At WG 0 (Za XF G) XB 1 62 [(0,(.pv (.str s))),(4,(.pv (.int .i64 (IntKind.wrap IntKind.i64 (i+1)))))] []))))else(G ((.bool true)))):At WG 0 (Za XF G) XB 1 62 [(0,.pv (.str s)),(4,.pv (.int .i64 i))] []:=At.tp (.lit (.ask (.req (.req (.abs (Bool) (fun YY=>AV.pv (enc YY)) (.ask (.lit (.lit (.lit (.ask (.lit (.lit (.lit (.lit (.lit (.lit (.lit (.lit (.nil))))))))) (.lit (.lit (.req (.lit (.req (.abs (Bool) (fun YY=>AV.pv (enc YY)) (.lit (.lit (.lit (.lit (.ask (.nil) (.lit (.nil))))))))))))))))) (.lit (.lit (.lit (.lit (.lit (.lit (.nil))))))))))) (.nil))) h (by kernel_rfl)
def X6:IC:=(.seq (.reg [⟨(some 1),(.box 2 (.t 0)),0,none⟩,⟨(some 2),(.mv (.c (.bool false))),1,none⟩] none) (.seq (.seq (.reg [⟨(some 5),(.faddr 0 (.t 1)),0,none⟩,⟨(some 6),(.load false [(.int .i64)] (.t 5)),0,none⟩,⟨(some 7),(.call (.c (.fn 83)) [(.t 6)]),0,none⟩,⟨(some 8),(.un .not (.t 7)),2,none⟩,⟨(some 9),(.mv (.t 8)),2,none⟩,⟨(some 10),(.faddr 1 (.t 1)),2,(some (9,false))⟩,⟨(some 11),(.load false [(.sl 2)] (.t 10)),2,(some (9,false))⟩,⟨(some 12),(.len 1 (.t 11)),2,(some (9,false))⟩,⟨(some 13),(.bin .num .gtr (.t 12) (.c (.int .i64 12))),2,(some (9,false))⟩,⟨(some 14),(.pick (.t 9) (.c (.bool true)) (.t 13)),2,none⟩] none) (.cond (.t 14) (.seq (.reg [⟨(some 2),(.mv (.c (.bool false))),0,none⟩] none) .ret) .skip)) (.seq (.seq (.reg [⟨(some 3),(.mv (.c (.int .i64 0))),0,none⟩] none) (.block 0 (.loop [3,1] (.seq (.seq (.reg [⟨(some 15),(.mv (.t 3)),0,none⟩,⟨(some 16),(.faddr 1 (.t 1)),0,none⟩,⟨(some 17),(.load false [(.sl 2)] (.t 16)),0,none⟩,⟨(some 18),(.len 1 (.t 17)),0,none⟩,⟨(some 19),(.bin .num .lss (.t 15) (.t 18)),0,none⟩] none) (.cond (.t 19) .skip (.exit 0))) (.seq (.block 1 (.seq (.reg [⟨(some 22),(.faddr 1 (.t 1)),0,none⟩,⟨(some 23),(.load false [(.sl 2)] (.t 22)),0,none⟩,⟨(some 24),(.mv (.t 3)),0,none⟩,⟨(some 25),(.iaddr 2 (.t 23) (.t 24)),0,none⟩,⟨(some 26),(.load true [.str,(.int .i64)] (.t 25)),0,none⟩,⟨(some 4),(.alloc (.agg [(.str []),(.int .i64 0)])),0,none⟩,⟨none,(.store 2 (.t 4) (.t 26)),1,none⟩] none) (.seq (.reg [⟨(some 27),(.faddr 0 (.t 4)),0,none⟩,⟨(some 28),(.load false [.str] (.t 27)),0,none⟩,⟨(some 29),(.call (.c (.fn 84)) [(.t 28)]),0,none⟩,⟨(some 30),(.un .not (.t 29)),2,none⟩,⟨(some 31),(.mv (.t 30)),2,none⟩,⟨(some 32),(.faddr 1 (.t 4)),2,(some (31,false))⟩,⟨(some 33),(.load false [(.int .i64)] (.t 32)),2,(some (31,false))⟩,⟨(some 34),(.bin .num .eql (.t 33) (.c (.int .i64 0))),2,(some (31,false))⟩,⟨(some 35),(.pick (.t 31) (.c (.bool true)) (.t 34)),2,none⟩,⟨(some 36),(.mv (.t 35)),2,none⟩,⟨(some 37),(.faddr 1 (.t 4)),2,(some (36,false))⟩,⟨(some 38),(.load false [(.int .i64)] (.t 37)),2,(some (36,false))⟩,⟨(some 39),(.call (.c (.fn 83)) [(.t 38)]),2,(some (36,false))⟩,⟨(some 40),(.un .not (.t 39)),4,(some (36,false))⟩,⟨(some 41),(.pick (.t 36) (.c (.bool true)) (.t 40)),4,none⟩,⟨(some 42),(.mv (.t 41)),4,none⟩,⟨(some 43),(.mv (.t 3)),4,(some (42,false))⟩,⟨(some 44),(.bin .num .gtr (.t 43) (.c (.int .i64 0))),4,(some (42,false))⟩,⟨(some 45),(.mv (.t 44)),4,(some (42,false))⟩,⟨(some 46),(.faddr 1 (.t 1)),4,(some (45,true))⟩,⟨(some 47),(.load false [(.sl 2)] (.t 46)),4,(some (45,true))⟩,⟨(some 48),(.mv (.t 3)),4,(some (45,true))⟩,⟨(some 49),(.bin .num .sub (.t 48) (.c (.int .i64 1))),4,(some (45,true))⟩,⟨(some 50),(.iaddr 2 (.t 47) (.t 49)),4,(some (45,true))⟩,⟨(some 51),(.faddr 0 (.t 50)),4,(some (45,true))⟩,⟨(some 52),(.load false [.str] (.t 51)),4,(some (45,true))⟩,⟨(some 53),(.faddr 0 (.t 4)),4,(some (45,true))⟩,⟨(some 54),(.load false [.str] (.t 53)),4,(some (45,true))⟩,⟨(some 55),(.bin .num .geq (.t 52) (.t 54)),4,(some (45,true))⟩,⟨(some 56),(.pick (.t 45) (.t 55) (.c (.bool false))),4,(some (42,false))⟩,⟨(some 57),(.pick (.t 42) (.c (.bool true)) (.t 56)),4,none⟩] (some [[],[0],[1,0],[2,1,0],[3,2,1,0],[4,3,2,1,0],[5,4,3,2,1,0],[6,4,5,3,2,1,0],[4,7,3,2,1,0,6,5],[8,4,7,3,2,1,0,6,5],[9,8,4,7,3,2,1,0,6,5],[10,9,8,4,7,3,2,1,0,6,5],[11,9,10,8,4,7,3,2,1,0,6,5],[12,9,11,10,8,4,7,3,2,1,0,6,5],[9,13,8,4,7,3,2,1,0,6,5,12,11,10],[14,12,9,13,8,4,7,3,2,1,0,6,5,11,10],[15,14,12,9,13,8,4,7,3,2,1,0,6,5,11,10],[16,15,14,12,9,13,8,4,7,3,2,1,0,6,5,11,10],[17,15,16,14,12,9,13,8,4,7,3,2,1,0,6,5,11,10],[18,17,15,16,14,12,9,13,8,4,7,3,2,1,0,6,5,11,10],[19,18,17,15,16,14,12,9,13,8,4,7,3,2,1,0,6,5,11,10],[18,17,15,16,14,12,9,13,8,4,7,3,2,1,0,6,5,11,10],[21,18,17,15,16,14,12,9,13,8,4,7,3,2,1,0,6,5,11,10],[20,22,18,19,17,15,16,14,12,9,13,8,4,7,3,2,1,0,6,5,11,10,21],[23,18,20,22,19,17,15,16,14,12,9,13,8,4,7,3,2,1,0,6,5,11,10,21],[24,18,23,20,22,19,17,15,16,14,12,9,13,8,4,7,3,2,1,0,6,5,11,10,21],[18,17,15,16,14,12,9,13,8,4,7,3,2,1,0,6,5,11,10],[26,18,17,15,16,14,12,9,13,8,4,7,3,2,1,0,6,5,11,10],[25,27,18,24,23,20,22,19,17,15,16,14,12,9,13,8,4,7,3,2,1,0,6,5,11,10,21,26],[18,28,15,17,16,14,12,9,13,8,4,7,3,2,1,0,6,5,11,10,25,27,24,23,20,22,19,21,26],[15,29,14,12,9,13,8,4,7,3,2,1,0,6,5,11,10,18,28,17,16,25,27,24,23,20,22,19,21,26]])) (.cond (.t 57) (.seq (.reg [⟨(some 2),(.mv (.c (.bool false))),0,none⟩] none) .ret) .skip)))) (.reg [⟨(some 20),(.mv (.t 3)),0,none⟩,⟨(some 21),(.bin .num .add (.t 20) (.c (.int .i64 1))),0,none⟩,⟨(some 3),(.mv (.t 21)),0,none⟩] none)))))) (.seq (.reg [⟨(some 2),(.mv (.c (.bool true))),0,none⟩] none) .ret))))
def Wq:List IRes:=[(.tmp 2)]
abbrev a3n:Nat:=58
def Ve:ZE:=Xg [(83,.pure (preT (fun _:Int×Unit=>true)) (Zf (fun x:Int×Unit=>Yp x.1))),(84,.pure (preT (fun _:Str×Unit=>true)) (Zf (fun x:Str×Unit=>ZA x.1)))]
theorem b2u{G:PV->Prop}(l:Lin)(h : ∃ y0:Bool,AV.pv (Zf (fun(x:Int×Unit)=>Yp x.1) [(.int .i64 l.k)])=AV.pv (enc y0)∧(if (!y0)=true then G ((.bool false))else(if (decide ((↑(List.length (List.map enc l.t)):Int)>12))=true then G ((.bool false))else(At Ve 0 (Za Wq G) X6 0 58 [(1,(.ptr 0 0)),(3,(.pv (.int .i64 0)))] [(.obj (.box [(.pv (.int .i64 l.k)),(.pv (.sl 2 false (List.map enc l.t)))]))])))):Zc Ve 0 (Za Wq G) X6 [] (Yz 58 [enc l]):=Zc.tp (.lit (.abs (Bool) (fun YY=>AV.pv (enc YY)) (.ask (.lit (.lit (.lit (.lit (.lit (.nil)))))) (.lit (.lit (.lit (.lit (.lit (.ask (.nil) (.nil)))))))))) h (by kernel_rfl)
theorem Tn{G:PV->Prop}(l:Lin)(i:Int)(h:if (decide (i<(↑(List.length (List.map enc l.t)):Int)))=true then(decide (0<=i)&&decide (Int.toNat i<List.length (List.map enc l.t))&&Enc.sz Coef==2)=true∧(∃ y0:Coef,AV.pv (PV.rptr (PV.cells (List.getD (List.map enc l.t) (Int.toNat i) default)))=AV.pv (PV.rptr (PV.cells ((enc) y0)))∧(∃ y1:Bool,AV.pv (Zf (fun(x:Str×Unit)=>ZA x.1) [(.str (PV.asStr (List.getD (PV.cells (enc y0)) 0 default)))])=AV.pv (enc y1)∧(if (!y1)=true then G ((.bool false))else(if (PV.asInt (List.getD (PV.cells (enc y0)) (0+1) default)==0)=true then G ((.bool false))else(∃ y2:Bool,AV.pv (Zf (fun(x:Int×Unit)=>Yp x.1) [(.int .i64 (PV.asInt (List.getD (PV.cells (enc y0)) (0+1) default)))])=AV.pv (enc y2)∧(if (!y2)=true then G ((.bool false))else(if (decide (i>0))=true then(decide (0<=IntKind.wrap IntKind.i64 (i - 1))&&decide (Int.toNat (IntKind.wrap IntKind.i64 (i - 1))<List.length (List.map enc l.t))&&Enc.sz Coef==2)=true∧(∃ y3:Coef,AV.pv (PV.rptr (PV.cells (List.getD (List.map enc l.t) (Int.toNat (IntKind.wrap IntKind.i64 (i - 1))) default)))=AV.pv (PV.rptr (PV.cells ((enc) y3)))∧(if (!Op.bytesLess (PV.asStr (List.getD (List.drop 0 (PV.cells (enc y3))) 0 default)) (PV.asStr (List.getD (PV.cells (enc y0)) 0 default)))=true then G ((.bool false))else(At Ve 0 (Za Wq G) X6 0 58 [(1,(.ptr 0 0)),(3,(.pv (.int .i64 (IntKind.wrap IntKind.i64 (i+1)))))] [(.obj (.box [(.pv (.int .i64 l.k)),(.pv (.sl 2 false (List.map enc l.t)))]))])))else(At Ve 0 (Za Wq G) X6 0 58 [(1,(.ptr 0 0)),(3,(.pv (.int .i64 (IntKind.wrap IntKind.i64 (i+1)))))] [(.obj (.box [(.pv (.int .i64 l.k)),(.pv (.sl 2 false (List.map enc l.t)))]))]))))))))else(G ((.bool true)))):At Ve 0 (Za Wq G) X6 0 58 [(1,.ptr 0 0),(3,.pv (.int .i64 i))] [.obj (.box [.pv (.int .i64 l.k),.pv (enc l.t)])]:=At.tp (.lit (.ask (.req (.abs (Coef) (fun YY=>AV.pv (PV.rptr (PV.cells ((enc) YY)))) (.lit (.lit (.abs (Bool) (fun YY=>AV.pv (enc YY)) (.ask (.lit (.lit (.lit (.lit (.lit (.lit (.lit (.lit (.lit (.lit (.lit (.lit (.lit (.lit (.nil))))))))))))))) (.lit (.lit (.lit (.lit (.ask (.lit (.lit (.lit (.lit (.lit (.lit (.lit (.lit (.lit (.lit (.nil))))))))))) (.lit (.lit (.lit (.abs (Bool) (fun YY=>AV.pv (enc YY)) (.lit (.lit (.ask (.lit (.lit (.lit (.lit (.lit (.nil)))))) (.lit (.lit (.lit (.ask (.lit (.lit (.lit (.lit (.lit (.req (.abs (Coef) (fun YY=>AV.pv (PV.rptr (PV.cells ((enc) YY)))) (.lit (.lit (.lit (.lit (.lit (.lit (.lit (.lit (.lit (.lit (.ask (.nil) (.lit (.nil)))))))))))))))))))) (.lit (.lit (.lit (.lit (.lit (.lit (.lit (.lit (.lit (.lit (.lit (.lit (.lit (.lit (.nil))))))))))))))))))))))))))))))))))))) (.nil))) h (by kernel_rfl)
def Q0:IC:=(.seq (.reg [⟨(some 2),(.box 2 (.t 0)),0,none⟩,⟨(some 4),(.mv (.c (.bool false))),1,none⟩] none) (.seq (.seq (.reg [⟨(some 5),(.mv (.c (.int .i64 0))),0,none⟩] none) (.block 0 (.loop [5,2,1] (.seq (.seq (.reg [⟨(some 6),(.mv (.t 5)),0,none⟩,⟨(some 7),(.faddr 1 (.t 2)),0,none⟩,⟨(some 8),(.load false [(.sl 2)] (.t 7)),0,none⟩,⟨(some 9),(.len 1 (.t 8)),0,none⟩,⟨(some 10),(.bin .num .lss (.t 6) (.t 9)),0,none⟩] none) (.cond (.t 10) .skip (.exit 0))) (.seq (.block 1 (.seq (.reg [⟨(some 13),(.faddr 1 (.t 2)),0,none⟩,⟨(some 14),(.load false [(.sl 2)] (.t 13)),0,none⟩,⟨(some 15),(.mv (.t 5)),0,none⟩,⟨(some 16),(.iaddr 2 (.t 14) (.t 15)),0,none⟩,⟨(some 17),(.faddr 0 (.t 16)),0,none⟩,⟨(some 18),(.load false [.str] (.t 17)),0,none⟩,⟨(some 19),(.len 0 (.t 18)),0,none⟩,⟨(some 20),(.bin .num .gtr (.t 19) (.c (.int .i64 40))),0,none⟩] none) (.cond (.t 20) (.seq (.reg [⟨(some 4),(.mv (.c (.bool false))),0,none⟩] none) .ret) .skip))) (.reg [⟨(some 11),(.mv (.t 5)),0,none⟩,⟨(some 12),(.bin .num .add (.t 11) (.c (.int .i64 1))),0,none⟩,⟨(some 5),(.mv (.t 12)),0,none⟩] none)))))) (.seq (.reg [⟨(some 21),(.faddr 1 (.t 2)),0,none⟩,⟨(some 22),(.load false [(.sl 2)] (.t 21)),0,none⟩,⟨(some 23),(.len 1 (.t 22)),0,none⟩,⟨(some 24),(.mv (.t 1)),0,none⟩,⟨(some 25),(.bin .num .leq (.t 23) (.t 24)),0,none⟩,⟨(some 4),(.mv (.t 25)),0,none⟩] none) .ret)))
def Q9:List IRes:=[(.tmp 4)]
abbrev b8m:Nat:=26
def JP:ZE:=Xg []
theorem c3u{G:PV->Prop}(l:Lin)(n:Int)(h:At JP 0 (Za Q9 G) Q0 0 26 [(1,(.pv (.int .i64 n))),(2,(.ptr 0 0)),(5,(.pv (.int .i64 0)))] [(.obj (.box [(.pv (.int .i64 l.k)),(.pv (.sl 2 false (List.map enc l.t)))]))]):Zc JP 0 (Za Q9 G) Q0 [] (Yz 26 [enc l,enc n]):=Zc.tp (.nil) h (by kernel_rfl)
theorem a2j{G:PV->Prop}(l:Lin)(n:Int)(i:Int)(h:if (decide (i<(↑(List.length (List.map enc l.t)):Int)))=true then(decide (0<=i)&&decide (Int.toNat i<List.length (List.map enc l.t))&&Enc.sz Coef==2)=true∧(∃ y0:Coef,AV.pv (PV.rptr (PV.cells (List.getD (List.map enc l.t) (Int.toNat i) default)))=AV.pv (PV.rptr (PV.cells ((enc) y0)))∧(if (decide ((↑(List.length (PV.asStr (List.getD (List.drop 0 (PV.cells (enc y0))) 0 default))):Int)>40))=true then G ((.bool false))else(At JP 0 (Za Q9 G) Q0 0 26 [(1,(.pv (.int .i64 n))),(2,(.ptr 0 0)),(5,(.pv (.int .i64 (IntKind.wrap IntKind.i64 (i+1)))))] [(.obj (.box [(.pv (.int .i64 l.k)),(.pv (.sl 2 false (List.map enc l.t)))]))])))else(G ((.bool (decide ((↑(List.length (List.map enc l.t)):Int)<=n)))))):At JP 0 (Za Q9 G) Q0 0 26 [(1,.pv (.int .i64 n)),(2,.ptr 0 0),(5,.pv (.int .i64 i))] [.obj (.box [.pv (.int .i64 l.k),.pv (enc l.t)])]:=At.tp (.lit (.ask (.req (.abs (Coef) (fun YY=>AV.pv (PV.rptr (PV.cells ((enc) YY)))) (.lit (.lit (.ask (.nil) (.lit (.nil))))))) (.lit (.nil)))) h (by kernel_rfl)
def UV:IC:=(.seq (.reg [⟨(some 4),(.mv (.c (.bool false))),0,none⟩] none) (.seq (.seq (.reg [⟨(some 5),(.mv (.c (.int .i64 0))),0,none⟩] none) (.block 0 (.loop [5,0,1] (.seq (.seq (.reg [⟨(some 6),(.mv (.t 5)),0,none⟩,⟨(some 7),(.mv (.t 0)),0,none⟩,⟨(some 8),(.len 1 (.t 7)),0,none⟩,⟨(some 9),(.bin .num .lss (.t 6) (.t 8)),0,none⟩] none) (.cond (.t 9) .skip (.exit 0))) (.seq (.block 1 (.seq (.reg [⟨(some 12),(.mv (.t 0)),0,none⟩,⟨(some 13),(.mv (.t 5)),0,none⟩,⟨(some 14),(.iaddr 3 (.t 12) (.t 13)),0,none⟩,⟨(some 15),(.faddr 1 (.t 14)),0,none⟩,⟨(some 16),(.load true [(.int .i64),(.sl 2)] (.t 15)),0,none⟩,⟨(some 17),(.call (.c (.fn 16)) [(.t 16),(.c (.int .i64 8))]),0,none⟩,⟨(some 18),(.un .not (.t 17)),2,none⟩] none) (.cond (.t 18) (.seq (.reg [⟨(some 4),(.mv (.c (.bool false))),0,none⟩] none) .ret) .skip))) (.reg [⟨(some 10),(.mv (.t 5)),0,none⟩,⟨(some 11),(.bin .num .add (.t 10) (.c (.int .i64 1))),0,none⟩,⟨(some 5),(.mv (.t 11)),0,none⟩] none)))))) (.seq (.reg [⟨(some 19),(.mv (.t 0)),0,none⟩,⟨(some 20),(.len 1 (.t 19)),0,none⟩,⟨(some 21),(.mv (.t 1)),0,none⟩,⟨(some 22),(.bin .num .leq (.t 20) (.t 21)),0,none⟩,⟨(some 4),(.mv (.t 22)),0,none⟩] none) .ret)))
def UL:List IRes:=[(.tmp 4)]
abbrev a7o:Nat:=23
def QY:ZE:=Xg [(16,.pure (preT (fun x:Lin×Int×Unit=>YC x.1)) (Zf (fun x:Lin×Int×Unit=>KG x.1 x.2.1)))]
theorem c0y{G:PV->Prop}(l:List Fact)(n:Int)(h:At QY 0 (Za UL G) UV 0 23 [(0,(.pv (.sl 3 false (List.map enc l)))),(1,(.pv (.int .i64 n))),(5,(.pv (.int .i64 0)))] []):Zc QY 0 (Za UL G) UV [] (Yz 23 [enc l,enc n]):=Zc.tp (.nil) h (by kernel_rfl)
theorem N9{G:PV->Prop}(l:List Fact)(n:Int)(i:Int)(h:if (decide (i<(↑(List.length (List.map enc l)):Int)))=true then(decide (0<=i)&&decide (Int.toNat i<List.length (List.map enc l))&&Enc.sz Fact==3)=true∧(∃ y0:Fact,AV.pv (PV.rptr (PV.cells (List.getD (List.map enc l) (Int.toNat i) default)))=AV.pv (PV.rptr (PV.cells ((enc) y0)))∧((Go.Pl.preT (fun(x:Lin×Int×Unit)=>YC x.1) [(.agg [(.int .i64 (PV.asInt (List.getD (List.drop 1 (PV.cells (enc y0))) 0 default))),(.sl 2 false (PV.asXs (List.getD (List.drop 1 (PV.cells (enc y0))) (0+1) default)))]),(.int .i64 8)])=true∧(∃ y1:Bool,AV.pv (Zf (fun(x:Lin×Int×Unit)=>KG x.1 x.2.1) [(.agg [(.int .i64 (PV.asInt (List.getD (List.drop 1 (PV.cells (enc y0))) 0 default))),(.sl 2 false (PV.asXs (List.getD (List.drop 1 (PV.cells (enc y0))) (0+1) default)))]),(.int .i64 8)])=AV.pv (enc y1)∧(if (!y1)=true then G ((.bool false))else(At QY 0 (Za UL G) UV 0 23 [(0,(.pv (.sl 3 false (List.map enc l)))),(1,(.pv (.int .i64 n))),(5,(.pv (.int .i64 (IntKind.wrap IntKind.i64 (i+1)))))] [])))))else(G ((.bool (decide ((↑(List.length (List.map enc l)):Int)<=n)))))):At QY 0 (Za UL G) UV 0 23 [(0,.pv (enc l)),(1,.pv (.int .i64 n)),(5,.pv (.int .i64 i))] []:=At.tp (.lit (.ask (.req (.abs (Fact) (fun YY=>AV.pv (PV.rptr (PV.cells ((enc) YY)))) (.lit (.req (.abs (Bool) (fun YY=>AV.pv (enc YY)) (.ask (.nil) (.lit (.nil)))))))) (.lit (.nil)))) h (by kernel_rfl)
-- IMPOSSIBLE
def Oo:IC:=(.seq (.reg [⟨(some 2),(.alloc (.agg [(.int .i64 0),(.sl 0 true [])])),0,none⟩] none) (.seq (.reg [⟨(some 3),(.mv (.t 0)),0,none⟩,⟨(some 4),(.build [(.int .i64 0),(.sl 0 true [])] [(0,(1,(.t 3)))]),0,none⟩,⟨none,(.store 2 (.t 2) (.t 4)),0,none⟩] none) .ret))
def FL:List IRes:=[(.cell true 2 2)]
abbrev c4l:Nat:=5
def b4r:ZE:=Xg []
theorem c7r{G:PV->Prop}(n:Int)(h:G ((.agg [(.int .i64 n),(.sl 0 true [])]))):Zc b4r 0 (Za FL G) Oo [] (Yz 5 [enc n]):=Zc.tp (.nil) h (by kernel_rfl)
def Xe:IC:=(.seq (.reg [⟨(some 2),(.box 2 (.t 0)),0,none⟩,⟨(some 4),(.mv (.c (.int .i64 0))),1,none⟩,⟨(some 5),(.mv (.c (.int .i64 0))),1,none⟩] none) (.seq (.seq (.reg [⟨(some 10),(.load true [(.int .i64),(.sl 2)] (.t 2)),0,none⟩,⟨(some 11),(.call (.c (.fn 20)) [(.t 10)]),0,none⟩,⟨(some 12),(.un .not (.t 11)),2,none⟩] none) (.cond (.t 12) (.seq (.reg [⟨(some 4),(.mv (.c (.int .i64 0))),0,none⟩,⟨(some 5),(.mv (.c (.int .i64 1))),0,none⟩] none) .ret) .skip)) (.seq (.reg [⟨(some 13),(.faddr 0 (.t 2)),0,none⟩,⟨(some 14),(.load false [(.int .i64)] (.t 13)),0,none⟩,⟨(some 6),(.mv (.t 14)),0,none⟩] none) (.seq (.seq (.reg [⟨(some 7),(.mv (.c (.int .i64 0))),0,none⟩] none) (.block 0 (.loop [7,2,1,6] (.seq (.seq (.reg [⟨(some 15),(.mv (.t 7)),0,none⟩,⟨(some 16),(.faddr 1 (.t 2)),0,none⟩,⟨(some 17),(.load false [(.sl 2)] (.t 16)),0,none⟩,⟨(some 18),(.len 1 (.t 17)),0,none⟩,⟨(some 19),(.bin .num .lss (.t 15) (.t 18)),0,none⟩] none) (.cond (.t 19) .skip (.exit 0))) (.seq (.block 1 (.seq (.reg [⟨(some 8),(.mv (.c (.int .i64 0))),0,none⟩] none) (.seq (.block 2 (.loop [8,1,2,7,6] (.seq (.seq (.reg [⟨(some 22),(.mv (.t 8)),0,none⟩,⟨(some 23),(.mv (.t 1)),0,none⟩,⟨(some 24),(.len 1 (.t 23)),0,none⟩,⟨(some 25),(.bin .num .lss (.t 22) (.t 24)),0,none⟩,⟨(some 26),(.mv (.t 25)),0,none⟩,⟨(some 27),(.mv (.t 1)),0,(some (26,true))⟩,⟨(some 28),(.mv (.t 8)),0,(some (26,true))⟩,⟨(some 29),(.iaddr 2 (.t 27) (.t 28)),0,(some (26,true))⟩,⟨(some 30),(.faddr 0 (.t 29)),0,(some (26,true))⟩,⟨(some 31),(.load false [.str] (.t 30)),0,(some (26,true))⟩,⟨(some 32),(.faddr 1 (.t 2)),0,(some (26,true))⟩,⟨(some 33),(.load false [(.sl 2)] (.t 32)),0,(some (26,true))⟩,⟨(some 34),(.mv (.t 7)),0,(some (26,true))⟩,⟨(some 35),(.iaddr 2 (.t 33) (.t 34)),0,(some (26,true))⟩,⟨(some 36),(.faddr 0 (.t 35)),0,(some (26,true))⟩,⟨(some 37),(.load false [.str] (.t 36)),0,(some (26,true))⟩,⟨(some 38),(.bin .num .neq (.t 31) (.t 37)),0,(some (26,true))⟩,⟨(some 39),(.pick (.t 26) (.t 38) (.c (.bool false))),0,none⟩] (some [[],[],[1],[0,2,1],[3,0,2,1],[4,3,0,2,1],[4,3,0,2,1],[5,6,4,3,0,2,1],[7,4,5,6,3,0,2,1],[8,4,7,5,6,3,0,2,1],[4,3,0,2,1],[10,4,3,0,2,1],[4,3,0,2,1],[11,12,4,10,3,0,2,1],[13,4,11,12,10,3,0,2,1],[14,4,13,11,12,10,3,0,2,1],[9,15,4,8,7,5,6,3,0,2,1,14,13,11,12,10],[4,16,3,0,2,1,9,15,8,7,5,6,14,13,11,12,10]])) (.cond (.t 39) .skip (.exit 2))) (.block 3 (.reg [⟨(some 40),(.mv (.t 8)),0,none⟩,⟨(some 41),(.bin .num .add (.t 40) (.c (.int .i64 1))),0,none⟩,⟨(some 8),(.mv (.t 41)),0,none⟩] none))))) (.seq (.seq (.reg [⟨(some 42),(.mv (.t 8)),0,none⟩,⟨(some 43),(.mv (.t 1)),0,none⟩,⟨(some 44),(.len 1 (.t 43)),0,none⟩,⟨(some 45),(.bin .num .eql (.t 42) (.t 44)),0,none⟩] none) (.cond (.t 45) (.seq (.reg [⟨(some 4),(.mv (.c (.int .i64 0))),0,none⟩,⟨(some 5),(.mv (.c (.int .i64 7))),0,none⟩] none) .ret) .skip)) (.seq (.reg [⟨(some 46),(.mv (.t 1)),0,none⟩,⟨(some 47),(.mv (.t 8)),0,none⟩,⟨(some 48),(.iaddr 2 (.t 46) (.t 47)),0,none⟩,⟨(some 49),(.faddr 1 (.t 48)),0,none⟩,⟨(some 50),(.load false [(.int .i64)] (.t 49)),0,none⟩,⟨(some 9),(.mv (.t 50)),0,none⟩] none) (.seq (.seq (.reg [⟨(some 51),(.mv (.t 9)),0,none⟩,⟨(some 52),(.bin .num .lss (.t 51) (.c (.int .i64 (-1000000000)))),0,none⟩,⟨(some 53),(.mv (.t 52)),0,none⟩,⟨(some 54),(.mv (.t 9)),0,(some (53,false))⟩,⟨(some 55),(.bin .num .gtr (.t 54) (.c (.int .i64 1000000000))),0,(some (53,false))⟩,⟨(some 56),(.pick (.t 53) (.c (.bool true)) (.t 55)),0,none⟩] none) (.cond (.t 56) (.seq (.reg [⟨(some 4),(.mv (.c (.int .i64 0))),0,none⟩,⟨(some 5),(.mv (.c (.int .i64 2))),0,none⟩] none) .ret) .skip)) (.reg [⟨(some 57),(.mv (.t 6)),0,none⟩,⟨(some 58),(.faddr 1 (.t 2)),0,none⟩,⟨(some 59),(.load false [(.sl 2)] (.t 58)),0,none⟩,⟨(some 60),(.mv (.t 7)),0,none⟩,⟨(some 61),(.iaddr 2 (.t 59) (.t 60)),0,none⟩,⟨(some 62),(.faddr 1 (.t 61)),0,none⟩,⟨(some 63),(.load false [(.int .i64)] (.t 62)),0,none⟩,⟨(some 64),(.mv (.t 9)),0,none⟩,⟨(some 65),(.bin .num .mul (.t 63) (.t 64)),0,none⟩,⟨(some 66),(.bin .num .add (.t 57) (.t 65)),0,none⟩,⟨(some 6),(.mv (.t 66)),0,none⟩] none))))))) (.reg [⟨(some 20),(.mv (.t 7)),0,none⟩,⟨(some 21),(.bin .num .add (.t 20) (.c (.int .i64 1))),0,none⟩,⟨(some 7),(.mv (.t 21)),0,none⟩] none)))))) (.seq (.reg [⟨(some 67),(.mv (.t 6)),0,none⟩,⟨(some 4),(.mv (.t 67)),0,none⟩,⟨(some 5),(.mv (.c (.int .i64 0))),0,none⟩] none) .ret)))))
def Xb:List IRes:=[(.tmp 4),(.tmp 5)]
abbrev a8t:Nat:=68
def XT:ZE:=Xg [(20,.pure (preT (fun x:Lin×Unit=>YC x.1)) (Zf (fun x:Lin×Unit=>Zg x.1)))]
theorem c0n{G:PV->Prop}(l:Lin)(v:List Coef)(h:(Go.Pl.preT (fun(x:Lin×Unit)=>YC x.1) [(.agg [(.int .i64 l.k),(.sl 2 false (List.map enc l.t))])])=true∧(∃ y0:Bool,AV.pv (Zf (fun(x:Lin×Unit)=>Zg x.1) [(.agg [(.int .i64 l.k),(.sl 2 false (List.map enc l.t))])])=AV.pv (enc y0)∧(if (!y0)=true then G ((.tup [(.int .i64 0),(.int .i64 1)]))else(At XT 0 (Za Xb G) Xe 0 68 [(1,(.pv (.sl 2 false (List.map enc v)))),(2,(.ptr 0 0)),(6,(.pv (.int .i64 l.k))),(7,(.pv (.int .i64 0)))] [(.obj (.box [(.pv (.int .i64 l.k)),(.pv (.sl 2 false (List.map enc l.t)))]))])))):Zc XT 0 (Za Xb G) Xe [] (Yz 68 [enc l,enc v]):=Zc.tp (.req (.abs (Bool) (fun YY=>AV.pv (enc YY)) (.ask (.nil) (.nil)))) h (by kernel_rfl)
theorem L9{G:PV->Prop}(l:Lin)(v:List Coef)(n i:Int)(h:if (decide (i<(↑(List.length (List.map enc l.t)):Int)))=true then At XT 0 (Za Xb G) Xe 1 68 [(1,(.pv (.sl 2 false (List.map enc v)))),(2,(.ptr 0 0)),(6,(.pv (.int .i64 n))),(7,(.pv (.int .i64 i))),(8,(.pv (.int .i64 0)))] [(.obj (.box [(.pv (.int .i64 l.k)),(.pv (.sl 2 false (List.map enc l.t)))]))]else(G ((.tup [(.int .i64 n),(.int .i64 0)])))):At XT 0 (Za Xb G) Xe 0 68 [(1,.pv (enc v)),(2,.ptr 0 0),(6,.pv (.int .i64 n)),(7,.pv (.int .i64 i))] [.obj (.box [.pv (.int .i64 l.k),.pv (enc l.t)])]:=At.tp (.lit (.ask (.nil) (.nil))) h (by kernel_rfl)
theorem Ny{G:PV->Prop}(l:Lin)(v:List Coef)(n i j:Int)(h:if (decide (j<(↑(List.length (List.map enc v)):Int)))=true then(decide (0<=j)&&decide (Int.toNat j<List.length (List.map enc v))&&Enc.sz Coef==2)=true∧(∃ y0:Coef,AV.pv (PV.rptr (PV.cells (List.getD (List.map enc v) (Int.toNat j) default)))=AV.pv (PV.rptr (PV.cells ((enc) y0)))∧((decide (0<=i)&&decide (Int.toNat i<List.length (List.map enc l.t))&&Enc.sz Coef==2)=true∧(∃ y1:Coef,AV.pv (PV.rptr (PV.cells (List.getD (List.map enc l.t) (Int.toNat i) default)))=AV.pv (PV.rptr (PV.cells ((enc) y1)))∧(if (!PV.asStr (List.getD (List.drop 0 (PV.cells (enc y0))) 0 default)==PV.asStr (List.getD (List.drop 0 (PV.cells (enc y1))) 0 default))=true then At XT 0 (Za Xb G) Xe 1 68 [(1,(.pv (.sl 2 false (List.map enc v)))),(2,(.ptr 0 0)),(6,(.pv (.int .i64 n))),(7,(.pv (.int .i64 i))),(8,(.pv (.int .i64 (IntKind.wrap IntKind.i64 (j+1)))))] [(.obj (.box [(.pv (.int .i64 l.k)),(.pv (.sl 2 false (List.map enc l.t)))]))]else(if (j==(↑(List.length (List.map enc v)):Int))=true then G ((.tup [(.int .i64 0),(.int .i64 7)]))else((decide (0<=j)&&decide (Int.toNat j<List.length (List.map enc v))&&Enc.sz Coef==2)=true∧(∃ y2:Coef,AV.pv (PV.rptr (PV.cells (List.getD (List.map enc v) (Int.toNat j) default)))=AV.pv (PV.rptr (PV.cells ((enc) y2)))∧(if (decide (PV.asInt (List.getD (List.drop 1 (PV.cells (enc y2))) 0 default)<(-1000000000:Int)))=true then G ((.tup [(.int .i64 0),(.int .i64 2)]))else(if (decide (PV.asInt (List.getD (List.drop 1 (PV.cells (enc y2))) 0 default)>1000000000))=true then G ((.tup [(.int .i64 0),(.int .i64 2)]))else((decide (0<=i)&&decide (Int.toNat i<List.length (List.map enc l.t))&&Enc.sz Coef==2)=true∧(∃ y3:Coef,AV.pv (PV.rptr (PV.cells (List.getD (List.map enc l.t) (Int.toNat i) default)))=AV.pv (PV.rptr (PV.cells ((enc) y3)))∧(At XT 0 (Za Xb G) Xe 0 68 [(1,(.pv (.sl 2 false (List.map enc v)))),(2,(.ptr 0 0)),(6,(.pv (.int .i64 (IntKind.wrap IntKind.i64 (n+IntKind.wrap IntKind.i64 (PV.asInt (List.getD (List.drop 1 (PV.cells (enc y3))) 0 default)*PV.asInt (List.getD (List.drop 1 (PV.cells (enc y2))) 0 default))))))),(7,(.pv (.int .i64 (IntKind.wrap IntKind.i64 (i+1)))))] [(.obj (.box [(.pv (.int .i64 l.k)),(.pv (.sl 2 false (List.map enc l.t)))]))]))))))))))))else(if (j==(↑(List.length (List.map enc v)):Int))=true then G ((.tup [(.int .i64 0),(.int .i64 7)]))else((decide (0<=j)&&decide (Int.toNat j<List.length (List.map enc v))&&Enc.sz Coef==2)=true∧(∃ y4:Coef,AV.pv (PV.rptr (PV.cells (List.getD (List.map enc v) (Int.toNat j) default)))=AV.pv (PV.rptr (PV.cells ((enc) y4)))∧(if (decide (PV.asInt (List.getD (List.drop 1 (PV.cells (enc y4))) 0 default)<(-1000000000:Int)))=true then G ((.tup [(.int .i64 0),(.int .i64 2)]))else(if (decide (PV.asInt (List.getD (List.drop 1 (PV.cells (enc y4))) 0 default)>1000000000))=true then G ((.tup [(.int .i64 0),(.int .i64 2)]))else((decide (0<=i)&&decide (Int.toNat i<List.length (List.map enc l.t))&&Enc.sz Coef==2)=true∧(∃ y5:Coef,AV.pv (PV.rptr (PV.cells (List.getD (List.map enc l.t) (Int.toNat i) default)))=AV.pv (PV.rptr (PV.cells ((enc) y5)))∧(At XT 0 (Za Xb G) Xe 0 68 [(1,(.pv (.sl 2 false (List.map enc v)))),(2,(.ptr 0 0)),(6,(.pv (.int .i64 (IntKind.wrap IntKind.i64 (n+IntKind.wrap IntKind.i64 (PV.asInt (List.getD (List.drop 1 (PV.cells (enc y5))) 0 default)*PV.asInt (List.getD (List.drop 1 (PV.cells (enc y4))) 0 default))))))),(7,(.pv (.int .i64 (IntKind.wrap IntKind.i64 (i+1)))))] [(.obj (.box [(.pv (.int .i64 l.k)),(.pv (.sl 2 false (List.map enc l.t)))]))]))))))))):At XT 0 (Za Xb G) Xe 1 68 [(1,.pv (enc v)),(2,.ptr 0 0),(6,.pv (.int .i64 n)),(7,.pv (.int .i64 i)),(8,.pv (.int .i64 j))] [.obj (.box [.pv (.int .i64 l.k),.pv (enc l.t)])]:=At.tp (.lit (.ask (.lit (.lit (.req (.abs (Coef) (fun YY=>AV.pv (PV.rptr (PV.cells ((enc) YY)))) (.lit (.lit (.lit (.lit (.lit (.lit (.lit (.req (.abs (Coef) (fun YY=>AV.pv (PV.rptr (PV.cells ((enc) YY)))) (.lit (.lit (.lit (.lit (.lit (.lit (.ask (.lit (.nil)) (.lit (.ask (.nil) (.req (.abs (Coef) (fun YY=>AV.pv (PV.rptr (PV.cells ((enc) YY)))) (.lit (.lit (.ask (.lit (.lit (.lit (.nil)))) (.lit (.lit (.lit (.ask (.nil) (.req (.abs (Coef) (fun YY=>AV.pv (PV.rptr (PV.cells ((enc) YY)))) (.lit (.lit (.lit (.lit (.nil)))))))))))))))))))))))))))))))))))))) (.lit (.lit (.lit (.lit (.lit (.lit (.lit (.lit (.lit (.lit (.lit (.lit (.lit (.lit (.ask (.nil) (.req (.abs (Coef) (fun YY=>AV.pv (PV.rptr (PV.cells ((enc) YY)))) (.lit (.lit (.ask (.lit (.lit (.lit (.nil)))) (.lit (.lit (.lit (.ask (.nil) (.req (.abs (Coef) (fun YY=>AV.pv (PV.rptr (PV.cells ((enc) YY)))) (.lit (.lit (.lit (.lit (.nil))))))))))))))))))))))))))))))))) h (by kernel_rfl)
end Go.Pl

namespace Go.Pl
open Go.RowKit
open Enc (enc dec is)
open EncL (encL decL isL)
theorem c6c(c:UInt8):Wn c=(decide ((c.toNat:Int) ≥ 48)&&decide ((c.toNat:Int)<=57)):=by
 simp only[Wn,UInt8.le_iff_toNat_le,ge_iff_le]
 have e1:(48:UInt8).toNat=48:=rfl
 have e2:(57:UInt8).toNat=57:=rfl
 rw[e1,e2]
 congr 1 <;> exact decide_eq_decide.2 (by omega)
theorem c4r(c:UInt8):WB c=(decide ((c.toNat:Int) ≥ 97)&&decide ((c.toNat:Int)<=122)):=by
 simp only[WB,UInt8.le_iff_toNat_le,ge_iff_le]
 have e1:(97:UInt8).toNat=97:=rfl
 have e2:(122:UInt8).toNat=122:=rfl
 rw[e1,e2]
 congr 1 <;> exact decide_eq_decide.2 (by omega)
theorem R5{a b:Bool}{G:PV->Prop}(h:G (.bool (a&&b))):if a=true then G (.bool b)else G (.bool false):=by cases a <;> simpa using h
theorem b4v: ∀ a:UInt8×Unit,true=true->Zc Oc 0 (Za Nn (Zm (Wn a.1))) RA [] (Yz b7b (encL a)):=by
 rintro⟨c,⟨⟩⟩ -
 exact c3n c (R5 (ZZ (c6c c).symm))
theorem b3d: ∀ a:UInt8×Unit,true=true->Zc EI 0 (Za Rt (Zm (WB a.1))) Pb [] (Yz b6l (encL a)):=by
 rintro⟨c,⟨⟩⟩ -
 exact c6k c (R5 (ZZ (c4r c).symm))
theorem Ov: ∀ a:Int×Unit,true=true->Zc CZ 0 (Za GJ (Zm (Yp a.1))) Jf [] (Yz a4m (encL a)):=by
 rintro⟨n,⟨⟩⟩ -
 exact b3b n (R5 (ZZ rfl))
theorem b7p: ∀ a:Int×Unit,true=true->Zc a8v 0 (Za OA (Zm (Yp a.1))) EG [] (Yz c6q (encL a)):=by
 rintro⟨n,⟨⟩⟩ -
 exact c6x n (R5 (ZZ rfl))
theorem b0k(s:List UInt8)(hs:s.length<=30): ∀ (j i:Nat),j+i=s.length->At WG 0 (Za XF (Zm ((s.drop i).all Wn))) XB 0 62 [(0,.pv (.str s)),(3,.pv (.int .i64 i))] []:=by
 intro j
 induction j with
 | zero=>
  intro i hi
  refine LX s i ?_
  rw[if_neg (Yd (by omega))]
  exact ZZ (by rw[List.drop_of_length_le (by omega)];rfl)
 | succ j ih=>
  intro i hi
  have hlt:i<s.length:=by omega
  refine LX s i ?_
  rw[if_pos (Ya hlt)]
  have eg:List.getD s (Int.toNat (i:Int)) 0=s[i]:=by simp[List.getD,hlt]
  rw[eg,next (by omega)]
  refine⟨by simp[hlt],Zl (s[i],()) rfl rfl,Zj (s[i],()) rfl ?_⟩
  rw[List.drop_eq_getElem_cons hlt,List.all_cons]
  show if (!Wn s[i])=true then _ else _
  cases hd:Wn s[i]
  ·exact ZZ rfl
  ·rw[if_neg (by simp)]
   simpa using ih (i+1) (by omega)
theorem b2q(s:List UInt8)(hs:s.length<=30): ∀ (j i:Nat),j+i=s.length->0<i->At WG 0 (Za XF (Zm ((s.drop i).all fun c=>WB c||Wn c))) XB 1 62 [(0,.pv (.str s)),(4,.pv (.int .i64 i))] []:=by
 intro j
 induction j with
 | zero=>
  intro i hi _
  refine Ad s i ?_
  rw[if_neg (Yd (by omega))]
  exact ZZ (by rw[List.drop_of_length_le (by omega)];rfl)
 | succ j ih=>
  intro i hi h0
  have hlt:i<s.length:=by omega
  refine Ad s i ?_
  rw[if_pos (Ya hlt)]
  have eg:List.getD s (Int.toNat (i:Int)) 0=s[i]:=by simp[List.getD,hlt]
  rw[eg,next (by omega)]
  refine⟨by simp[hlt],Zl (s[i],()) rfl rfl,Zj (s[i],()) rfl ?_⟩
  rw[List.drop_eq_getElem_cons hlt,List.all_cons]
  show if (!WB s[i])=true then _ else _
  cases hd:WB s[i]
  ·rw[c2j,if_neg (by simp;omega)]
   refine⟨by simp[hlt],Zl (s[i],()) rfl rfl,Zj (s[i],()) rfl ?_⟩
   show if (!Wn s[i])=true then _ else _
   cases hd:Wn s[i]
   ·exact ZZ rfl
   ·rw[if_neg (by simp)]
    simpa using ih (i+1) (by omega) (by omega)
  ·rw[if_neg (by simp)]
   simpa using ih (i+1) (by omega) (by omega)
theorem a5t: ∀ a:Str×Unit,true=true->Zc WG 0 (Za XF (Zm (ZA a.1))) XB [] (Yz b4m (encL a)):=by
 rintro⟨⟨s⟩,⟨⟩⟩ -
 refine b7u s ?_
 cases s with
 | nil=>exact ZZ rfl
 | cons c r=>
  rw[if_neg (by simp;omega)]
  by_cases h30:((c::r).length:Int)>30
  ·rw[if_pos (by simpa using h30)]
   refine ZZ ?_
   have : ¬ r.length<=29:=by simp at h30;omega
   have h9 : ¬ r.length<=9:=by omega
   simp[ZA,this,h9]
  ·rw[if_neg (by simpa using h30)]
   have hl:(c::r).length<=30:=by omega
   refine⟨by simp,?_⟩
   show if ((c.toNat:Int)==95)=true then _ else _
   by_cases hc:c=95
   ·subst hc
    rw[if_pos (by rfl)]
    simp only[ZA,if_true]
    cases r with
    | nil=>exact ZZ rfl
    | cons d r=>
     rw[if_neg (by simp;omega)]
     by_cases h10:((95::d::r:List UInt8).length:Int)>10
     ·rw[if_pos (by simpa using h10)]
      refine ZZ ?_
      have:decide ((d::r).length<=9)=false:=decide_eq_false (by simp at h10 ⊢;omega)
      rw[this,Bool.and_false]
     ·rw[if_neg (by simpa using h10)]
      refine⟨by simp,?_⟩
      show if ((d.toNat:Int)==48)=true then _ else _
      by_cases hd:d=48
      ·subst hd
       rw[if_pos (by rfl)]
       exact ZZ (by simp)
      ·rw[if_neg (by exact c2a 48 hd (by omega))]
       have h:=b0k (95::d::r) hl (d::r).length 1 (by simp)
       have e:(d::r).length<=9:=by simp at h10 ⊢;omega
       have e2:((d::r).all Wn&& !(d::r).isEmpty&&decide ((d::r).head? ≠ some 48)&&decide ((d::r).length<=9))=(d::r).all Wn:=by rw[decide_eq_true e,show decide ((d::r).head? ≠ some (48:UInt8))=true by simpa using hd];simp
       rw[e2]
       exact h
   ·rw[if_neg (by exact c2a 95 hc (by omega))]
    refine Ad (c::r) 0 ?_
    rw[if_pos (by simp)]
    refine⟨by simp,Zl (c,()) rfl rfl,Zj (c,()) rfl ?_⟩
    show if (!WB c)=true then _ else _
    have en:ZA ⟨c::r⟩=(WB c&&r.all (fun c=>WB c||Wn c)):=by
     have:r.length<=29:=by simp at hl;omega
     simp[ZA,hc,this]
    rw[en]
    cases hlow:WB c
    ·rw[c2j,if_pos (by rfl)]
     exact ZZ rfl
    ·rw[if_neg (by simp)]
     exact b2q (c::r) hl r.length 1 (by simp) (by omega)
end Go.Pl

namespace Go.Pl
open Go.RowKit
open Enc (enc dec is)
open EncL (encL decL isL)
def BN(prev:Option (List UInt8)):List Coef->Bool
 | []=>true
 | t::r=>ZA t.v&&decide (t.c≠0)&&Yp t.c&&(match prev with|none=>true|some p=>decide (p<t.v.s))&&BN (some t.v.s) r
theorem Hf(p:Option (List UInt8))(t:Coef)(r:List Coef):BN p (t::r)=(ZA t.v&&decide (t.c≠0)&&Yp t.c&&(match p with|none=>true|some p=>decide (p<t.v.s))&&BN (some t.v.s) r):=by cases p <;> rfl
theorem MB: ∀ (l:List Coef) (p:List UInt8),BN (some p) l=(l.all (fun t=>ZA t.v&&decide (t.c≠0)&&Yp t.c)&&(match l with|[]=>true|t::_=>decide (p<t.v.s))&&Jg l)
 | [],p=>by simp[BN,Jg]
 | t::r,p=>by
  rw[Hf,MB r]
  cases r with
  | nil=>simp[Jg]
  | cons u r=>
   simp only[List.all_cons,Jg]
   ac_rfl
theorem a9v(l:List Coef):BN none l=(l.all (fun t=>ZA t.v&&decide (t.c≠0)&&Yp t.c)&&Jg l):=by
 cases l with
 | nil=>simp[BN,Jg]
 | cons t r=>
  rw[Hf,MB r]
  cases r with
  | nil=>simp[Jg]
  | cons u r=>
   simp only[List.all_cons,Jg,Bool.and_true]
   ac_rfl
theorem ME(l:Lin):Zg l=(Yp l.k&&decide (l.t.length<=12)&&BN none l.t):=by
 rw[a9v,Zg]
 ac_rfl
def pvS(ts:List Coef):Nat->Option (List UInt8)
 | 0=>none
 | i+1=>(ts[i]?).map (·.v.s)
theorem E8{k:Nat}(h:k<9223372036854775807):IntKind.i64.wrap (((k+1:Nat):Int) - 1)=(k:Int):=by rw[WS (by omega) (by omega)];omega
theorem NV(l:Lin)(hl:l.t.length<=9223372036854775807): ∀ (j i:Nat),j+i=l.t.length->At Ve 0 (Za Wq (Zm (BN (pvS l.t i) (l.t.drop i)))) X6 0 58 [(1,.ptr 0 0),(3,.pv (.int .i64 i))] [.obj (.box [.pv (.int .i64 l.k),.pv (enc l.t)])]:=by
 intro j
 induction j with
 | zero=>
  intro i hi
  refine Tn l i ?_
  rw[if_neg (UJ (by omega))]
  exact ZZ (by rw[List.drop_of_length_le (by omega)];rfl)
 | succ j ih=>
  intro i hi
  have hlt:i<l.t.length:=by omega
  have h:=ih (i+1) (by omega)
  refine Tn l i ?_
  simp only[co1,co2,co3,co4]
  refine ZV (Uj hlt) ⟨ZB hlt rfl,ZY hlt (Zj (l.t[i].v,()) rfl (Vu (fun hn=> ?_) fun hn=>JZ (fun hc=> ?_) fun hc=>Zj (l.t[i].c,()) rfl (Vu (fun hk=> ?_) fun hk=> ?_)))⟩
  all_goals rw[List.drop_eq_getElem_cons hlt,Hf]
  ·have hn:ZA l.t[i].v=false:=hn
   exact ZZ (by simp[hn])
  ·exact ZZ (by simp[hc])
  ·have hk:Yp l.t[i].c=false:=hk
   exact ZZ (by simp[hk])
  have hn:ZA l.t[i].v=true:=hn
  have hk:Yp l.t[i].c=true:=hk
  rw[next (by omega),hn,hk,decide_eq_true hc]
  have ep:pvS l.t (i+1)=some l.t[i].v.s:=by simp[pvS,hlt]
  rw[ep]at h
  cases i with
  | zero=>exact Z0 (by simp) h
  | succ i=>
   refine ZV (by simp) ?_
   rw[E8 (by omega)]
   refine⟨ZB (by omega) rfl,ZY (by omega) ?_⟩
   have e2:pvS l.t (i+1)=some l.t[i].v.s:=by simp[pvS,show i<l.t.length by omega]
   rw[e2]
   refine Vu (fun hb=> ?_) fun hb=> ?_
   all_goals
    have hb':=(YP l.t[i].v.s l.t[i+1].v.s).symm.trans hb
    simp only[hb',Bool.and_true,Bool.true_and,Bool.and_false,Bool.false_and]
   ·exact ZZ rfl
   ·exact h
theorem OW: ∀ a:Lin×Unit,YC a.1=true->Zc Ve 0 (Za Wq (Zm (Zg a.1))) X6 [] (Yz a3n (encL a)):=by
 rintro⟨l,⟨⟩⟩ hl
 have hl:l.t.length<=9223372036854775807:=by simpa [YC]using hl
 refine b2u l (Zj (l.k,()) rfl ?_)
 show if (!Yp l.k)=true then _ else _
 show if (!Yp l.k)=true then Zm (Zg l) _ else if _ then Zm (Zg l) _ else At Ve 0 (Za Wq (Zm (Zg l))) X6 0 58 _ _
 rw[ME]
 cases hk:Yp l.k
 ·exact ZZ rfl
 rw[c7w]
 by_cases h12:l.t.length<=12
 ·rw[if_neg (by simp;omega)]
  have h:=NV l hl l.t.length 0 (by omega)
  simp only[h12,decide_true,Bool.true_and]
  exact h
 ·rw[if_pos (by simp;omega)]
  exact ZZ (by simp[h12])
theorem a4y(l:Lin)(n:Int)(hl:l.t.length<=9223372036854775807): ∀ (j i:Nat),j+i=l.t.length->At JP 0 (Za Q9 (Zm ((l.t.drop i).all (fun t=>decide (t.v.s.length<=40))&&decide ((l.t.length:Int)<=n)))) Q0 0 26 [(1,.pv (.int .i64 n)),(2,.ptr 0 0),(5,.pv (.int .i64 i))] [.obj (.box [.pv (.int .i64 l.k),.pv (enc l.t)])]:=by
 intro j
 induction j with
 | zero=>
  intro i hi
  exact a2j l n i (Z0 (UJ (by omega)) (ZZ (by rw[List.drop_of_length_le (by omega),List.length_map];rfl)))
 | succ j ih=>
  intro i hi
  have hlt:i<l.t.length:=by omega
  have h:=ih (i+1) (by omega)
  refine a2j l n i (ZV (Uj hlt) ⟨ZB hlt rfl,ZY hlt ?_⟩)
  rw[List.drop_eq_getElem_cons hlt,List.all_cons,next (by omega)]
  refine WR (fun h40=> ?_) fun h40=> ?_
  ·have h40:(l.t[i].v.s.length:Int)>40:=h40
   exact ZZ (by rw[decide_eq_false (show ¬ l.t[i].v.s.length<=40 by omega)];rfl)
  ·have h40 : ¬ (l.t[i].v.s.length:Int)>40:=h40
   rw[decide_eq_true (show l.t[i].v.s.length<=40 by omega),Bool.true_and]
   exact h
theorem b2p: ∀ a:Lin×Int×Unit,YC a.1=true->Zc JP 0 (Za Q9 (Zm (KG a.1 a.2.1))) Q0 [] (Yz b8m (encL a)):=by
 rintro⟨l,n,⟨⟩⟩ hl
 exact c3u l n (a4y l n (by simpa [YC]using hl) l.t.length 0 (by omega))
theorem Fy(l:List Fact)(n:Int)(hl:l.length<=9223372036854775807)(hk:l.all (fun f=>YC f.l)=true): ∀ (j i:Nat),j+i=l.length->At QY 0 (Za UL (Zm ((l.drop i).all (fun f=>KG f.l 8)&&decide ((l.length:Int)<=n)))) UV 0 23 [(0,.pv (enc l)),(1,.pv (.int .i64 n)),(5,.pv (.int .i64 i))] []:=by
 intro j
 induction j with
 | zero=>
  intro i hi
  exact N9 l n i (Z0 (UJ (by omega)) (ZZ (by rw[List.drop_of_length_le (by omega),List.length_map];rfl)))
 | succ j ih=>
  intro i hi
  have hlt:i<l.length:=by omega
  have h:=ih (i+1) (by omega)
  have ho:YC l[i].l=true:=by rw[List.all_eq_true]at hk;exact hk _ (List.getElem_mem hlt)
  refine N9 l n i (ZV (Uj hlt) ⟨ZB hlt rfl,ZY hlt ⟨Zl (l[i].l,8,()) rfl ho,Zj (l[i].l,8,()) rfl ?_⟩⟩)
  rw[List.drop_eq_getElem_cons hlt,List.all_cons,next (by omega)]
  refine Vu (fun hf=> ?_) fun hf=> ?_
  ·have hf:KG l[i].l 8=false:=hf
   exact ZZ (by rw[hf];rfl)
  ·have hf:KG l[i].l 8=true:=hf
   rw[hf,Bool.true_and]
   exact h
def D5(l:List Fact)(n:Int):Bool:=l.all (fun f=>KG f.l 8)&&decide ((l.length:Int)<=n)
def YQ(l:List Fact):Bool:=decide (l.length<=9223372036854775807)&&l.all fun f=>YC f.l
theorem a3h: ∀ a:List Fact×Int×Unit,YQ a.1=true->Zc QY 0 (Za UL (Zm (D5 a.1 a.2.1))) UV [] (Yz a7o (encL a)):=by
 rintro⟨l,n,⟨⟩⟩ hl
 simp only[YQ,Bool.and_eq_true,decide_eq_true_eq]at hl
 exact c0y l n (Fy l n hl.1 hl.2 l.length 0 (by omega))
end Go.Pl

namespace Go.Pl
open Go.RowKit
open Enc (enc dec is)
open EncL (encL decL isL)
end Go.Pl

namespace Go.Pl
open Go.RowKit
open Enc (enc dec is)
open EncL (encL decL isL)
end Go.Pl

namespace Go.Pl
open Go.RowKit
open Enc (enc dec is)
open EncL (encL decL isL)
theorem b4o(l:Lin)(v:List Coef)(hv:v.length<=9223372036854775807)(hl:l.t.length<=9223372036854775807)(i:Nat)(hi:i<l.t.length)(n:Int)
  (hK : ∀ n,At XT 0 (Za Xb (Zm (Vy v n (l.t.drop (i+1))))) Xe 0 68 [(1,.pv (enc v)),(2,.ptr 0 0),(6,.pv (.int .i64 n)),(7,.pv (.int .i64 ((i+1:Nat):Int)))] [.obj (.box [.pv (.int .i64 l.k),.pv (enc l.t)])]) :
  ∀ (m j:Nat),m+j=v.length->Us (v.drop j) l.t[i].v=Us v l.t[i].v ->
  At XT 0 (Za Xb (Zm (Vy v n (l.t.drop i)))) Xe 1 68 [(1,.pv (enc v)),(2,.ptr 0 0),(6,.pv (.int .i64 n)),(7,.pv (.int .i64 i)),(8,.pv (.int .i64 j))] [.obj (.box [.pv (.int .i64 l.k),.pv (enc l.t)])]:=by
 have ed:l.t.drop i=l.t[i]::l.t.drop (i+1):=List.drop_eq_getElem_cons hi
 intro m
 induction m with
 | zero=>
  intro j hj hlook
  refine Ny l v n i j (Z0 (UJ (by omega)) (ZV (by simp;omega) ?_))
  rw[List.drop_of_length_le (by omega)]at hlook
  rw[ed,Vy,<- hlook]
  exact⟨rfl,rfl⟩
 | succ m ih=>
  intro j hj hlook
  have hlt:j<v.length:=by omega
  refine Ny l v n i j (ZV (Uj hlt) ⟨ZB hlt rfl,ZY hlt ⟨ZB hi rfl,ZY hi ?_⟩⟩)
  refine Vu (fun h1=> ?_) fun h1=> ?_
  ·have h1:(v[j].v.s==l.t[i].v.s)=false:=h1
   have hne : ¬ v[j].v=l.t[i].v:=by intro e;rw[e]at h1;simp at h1
   rw[next (by omega)]
   refine ih (j+1) (by omega) ?_
   rw[<- hlook,List.drop_eq_getElem_cons hlt]
   rw[Us,Us,List.find?_cons_of_neg (by simpa using hne)]
  ·have h1:(v[j].v.s==l.t[i].v.s)=true:=h1
   have heq:v[j].v=l.t[i].v:=by
    have h1:v[j].v.s=l.t[i].v.s:=by simpa using h1
    generalize v[j].v=a at h1 ⊢
    generalize l.t[i].v=b at h1 ⊢
    cases a;cases b;cases h1;rfl
   have hlk:Us v l.t[i].v=some v[j].c:=by rw[<- hlook,List.drop_eq_getElem_cons hlt,Us,List.find?_cons_of_pos (by simpa using heq)];rfl
   refine JZ (fun h2=>by simp only[List.length_map]at h2;omega) fun _=>⟨ZB hlt rfl,ZY hlt ?_⟩
   rw[ed,Vy,hlk]
   refine WR (fun h3=> ?_) fun h3=> ?_
   ·have h3:v[j].c < -1000000000:=h3
    simp only[if_pos h3]
    exact⟨rfl,rfl⟩
   have h3 : ¬ v[j].c < -1000000000:=h3
   refine WR (fun h4=> ?_) fun h4=> ?_
   ·have h4:v[j].c>1000000000:=h4
    simp only[if_neg h3,if_pos h4]
    exact⟨rfl,rfl⟩
   have h4 : ¬ v[j].c>1000000000:=h4
   refine⟨ZB hi rfl,ZY hi ?_⟩
   rw[next (by omega)]
   simp only[if_neg h3,if_neg h4]
   exact hK _
theorem EB(l:Lin)(v:List Coef)(hv:v.length<=9223372036854775807)(hl:l.t.length<=9223372036854775807): ∀ (m i:Nat) (n:Int),m+i=l.t.length ->
  At XT 0 (Za Xb (Zm (Vy v n (l.t.drop i)))) Xe 0 68 [(1,.pv (enc v)),(2,.ptr 0 0),(6,.pv (.int .i64 n)),(7,.pv (.int .i64 i))] [.obj (.box [.pv (.int .i64 l.k),.pv (enc l.t)])]:=by
 intro m
 induction m with
 | zero=>
  intro i n hi
  refine L9 l v n i (Z0 (UJ (by omega)) ?_)
  rw[List.drop_of_length_le (by omega)]
  exact⟨rfl,rfl⟩
 | succ m ih=>
  intro i n hi
  have hlt:i<l.t.length:=by omega
  exact L9 l v n i (ZV (Uj hlt) (b4o l v hv hl i hlt n (fun n=>ih (i+1) n (by omega)) v.length 0 (by omega) rfl))
theorem a2w: ∀ a:Lin×List Coef×Unit,(YC a.1&&decide (a.2.1.length<=9223372036854775807))=true->Zc XT 0 (Za Xb (Zm (ZX a.1 a.2.1))) Xe [] (Yz a8t (encL a)):=by
 rintro⟨l,v,⟨⟩⟩ h
 simp only[Bool.and_eq_true,decide_eq_true_eq]at h
 refine c0n l v ⟨Zl (l,()) rfl h.1,Zj (l,()) rfl ?_⟩
 show if (!Zg l)=true then Zm (ZX l v) _ else At XT 0 (Za Xb (Zm (ZX l v))) Xe 0 68 _ _
 unfold ZX
 refine Vu (fun hv=> ?_) fun hv=> ?_
 ·rw[if_neg (by rw[hv];simp)]
  exact⟨rfl,rfl⟩
 ·rw[if_pos hv]
  exact EB l v h.2 (by simpa [YC]using h.1) l.t.length 0 l.k (by omega)
end Go.Pl

namespace Go.Pl
open Go.RowKit
open Enc (enc dec is)
open EncL (encL decL isL)
theorem b6e(ts:List Coef)(j:Nat)(x y:Coef):List.set (List.map enc ts) j (PV.withCells (enc y) (splice (PV.cells (enc y)) 0 (PV.cells (PV.agg (QB (PV.cells (enc x)) 0 [Sh.str,Sh.int .i64])))))=List.map enc (ts.set j x):=by
 rw[List.map_set]
 rfl
theorem b5d{α:Type}(f:α->PV){l:List α}{k:Nat}(h:k<l.length):(l.map f).getD (0+(k:Int).toNat) default=f l[k]:=by rw[Nat.zero_add];exact LZ f h
theorem tri{x y:List UInt8}(h1 : ¬ x<y)(h2:x≠y):y<x:=Decidable.byContradiction fun h=>h2 (List.le_antisymm (List.not_lt.1 h) (List.not_lt.1 h1))
theorem a1x(s:Str)(c:Int)(t:Coef)(r:List Coef):Xu s c true (t::r)=(if t.v=s then⟨t.v,XO (t.c+c)⟩else t)::Xu s c true r:=by
 rw[Xu];simp only[Bool.not_true,Bool.false_and,Bool.false_eq_true,if_false,Bool.true_or,List.nil_append];split <;> rfl
theorem Jj(s:Str)(c:Int)(t:Coef)(r:List Coef):Xu s c false (t::r)=if s.s<t.v.s then⟨s,c⟩::t::Xu s c true r else if t.v=s then⟨t.v,XO (t.c+c)⟩::Xu s c true r else t::Xu s c false r:=by
 rw[Xu]
 by_cases h:s.s<t.v.s
 ·have : ¬ t.v=s:=fun e=>by rw[e]at h;exact List.lt_irrefl _ h
  simp[h,this]
 ·simp[h]
theorem Re(s:Str)(c:Int): ∀ (l:List Coef),(Xu s c true l).length=l.length
 | []=>by simp[Xu]
 | t::l=>by rw[a1x];simp[Re s c l]
theorem Di(s:Str)(c:Int): ∀ (l:List Coef),(Xu s c false l).length<=l.length+1
 | []=>by simp[Xu]
 | t::l=>by
  have h1:=Re s c l
  have h2:=Di s c l
  rw[Jj]
  split
  ·simp[h1]
  ·split <;> simp[h1] <;> omega
theorem b5z(l:Lin)(s:Str)(c:Int):(WW l s c).t.length<=l.t.length+1:=Nat.le_trans (List.length_filter_le _ _) (Di s c l.t)
theorem K5{a b:Str}:a=b ↔ a.s=b.s:=⟨fun h=>by rw[h],fun h=>by cases a;cases b;cases h;rfl⟩
theorem b8l: ∀ a:Int×Unit,true=true->Zc b4r 0 (Za FL (Zm (⟨a.1,[]⟩:Lin))) Oo [] (Yz c4l (encL a)):=by
 rintro⟨n,⟨⟩⟩ -
 exact c7r n ⟨by simp,by simp⟩
end Go.Pl

namespace Go.Pl
open Go.RowKit
open Enc (enc dec is)
open EncL (encL decL isL)
set_option maxRecDepth 100000
end Go.Pl

namespace Go.Pl
open Go.RowKit
open Enc (enc dec is)
open EncL (encL decL isL)
end Go.Pl

namespace Go.Pl
open Go.RowKit
open Enc (enc dec is)
open EncL (encL decL isL)
set_option maxRecDepth 100000
def Xn:IC:=(.seq (.reg [⟨(some 2),(.mv (.c (.bool false))),0,none⟩] none) (.seq (.seq (.reg [⟨(some 7),(.mv (.t 0)),0,none⟩,⟨(some 8),(.call (.c (.fn 152)) [(.t 7),(.c (.str [95]))]),0,none⟩] none) (.cond (.t 8) (.seq (.reg [⟨(some 10),(.mv (.t 0)),0,none⟩,⟨(some 11),(.strslc (.t 10) (some (.c (.int .i64 1))) none),0,none⟩,⟨(some 12),(.call (.c (.fn 182)) [(.t 11)]),0,none⟩,⟨(some 9),(.mv (.t 12)),2,none⟩,⟨(some 13),(.extract (.t 9) 0),2,none⟩,⟨(some 14),(.extract (.t 9) 1),2,none⟩,⟨(some 3),(.mv (.t 13)),2,none⟩,⟨(some 4),(.mv (.t 14)),2,none⟩] none) (.seq (.reg [⟨(some 15),(.mv (.t 4)),0,none⟩,⟨(some 16),(.bin .ifc .eql (.t 15) (.c .nili)),0,none⟩,⟨(some 17),(.mv (.t 16)),0,none⟩,⟨(some 18),(.mv (.t 3)),0,(some (17,true))⟩,⟨(some 19),(.bin .num .gtr (.t 18) (.c (.int .i64 0))),0,(some (17,true))⟩,⟨(some 20),(.pick (.t 17) (.t 19) (.c (.bool false))),0,none⟩,⟨(some 21),(.mv (.t 20)),0,none⟩,⟨(some 22),(.mv (.t 0)),0,(some (21,true))⟩,⟨(some 23),(.len 0 (.t 22)),0,(some (21,true))⟩,⟨(some 24),(.bin .num .leq (.t 23) (.c (.int .i64 10))),0,(some (21,true))⟩,⟨(some 25),(.pick (.t 21) (.t 24) (.c (.bool false))),0,none⟩,⟨(some 26),(.mv (.t 25)),0,none⟩,⟨(some 27),(.mv (.t 3)),0,(some (26,true))⟩,⟨(some 28),(.call (.c (.fn 76)) [(.t 27)]),0,(some (26,true))⟩,⟨(some 29),(.mv (.t 0)),2,(some (26,true))⟩,⟨(some 30),(.strslc (.t 29) (some (.c (.int .i64 1))) none),2,(some (26,true))⟩,⟨(some 31),(.bin .num .eql (.t 28) (.t 30)),2,(some (26,true))⟩,⟨(some 32),(.pick (.t 26) (.t 31) (.c (.bool false))),2,none⟩,⟨(some 2),(.mv (.t 32)),2,none⟩] (some [[],[0],[1,0],[2,1,0],[3,2,1,0],[2,4,1,0,3],[5,2,4,1,0,3],[6,5,2,4,1,0,3],[7,6,5,2,4,1,0,3],[8,6,7,5,2,4,1,0,3],[6,9,5,2,4,1,0,3,8,7],[10,6,9,5,2,4,1,0,3,8,7],[11,10,6,9,5,2,4,1,0,3,8,7],[12,11,10,6,9,5,2,4,1,0,3,8,7],[11,10,6,9,5,2,4,1,0,3,8,7],[14,11,10,6,9,5,2,4,1,0,3,8,7],[13,15,11,12,10,6,9,5,2,4,1,0,3,8,7,14],[11,16,10,6,9,5,2,4,1,0,3,8,7,13,15,12,14],[17,13,0,1,2,3,4,5,6,7,8,9,10,11,12,14,15,16]])) .ret)) .skip)) (.seq (.seq (.reg [⟨(some 33),(.mv (.t 0)),0,none⟩,⟨(some 34),(.sbytes (.t 33)),0,none⟩,⟨(some 35),(.len 1 (.t 34)),0,none⟩,⟨(some 36),(.mv (.c (.int .i64 0))),0,none⟩] none) (.block 0 (.loop [36,35,34,0] (.seq (.reg [⟨(some 37),(.bin .num .lss (.t 36) (.t 35)),0,none⟩] none) (.seq (.cond (.t 37) .skip (.exit 0)) (.seq (.block 1 (.seq (.reg [⟨(some 38),(.mv (.t 36)),0,none⟩,⟨(some 39),(.iaddr 1 (.t 34) (.t 36)),0,none⟩,⟨(some 40),(.load false [(.int .u8)] (.t 39)),0,none⟩,⟨(some 5),(.mv (.t 38)),0,none⟩,⟨(some 6),(.mv (.t 40)),0,none⟩] none) (.seq (.reg [⟨(some 41),(.mv (.t 6)),0,none⟩,⟨(some 42),(.bin .num .lss (.t 41) (.c (.int .u8 97))),0,none⟩,⟨(some 43),(.mv (.t 42)),0,none⟩,⟨(some 44),(.mv (.t 6)),0,(some (43,false))⟩,⟨(some 45),(.bin .num .gtr (.t 44) (.c (.int .u8 122))),0,(some (43,false))⟩,⟨(some 46),(.pick (.t 43) (.c (.bool true)) (.t 45)),0,none⟩,⟨(some 47),(.mv (.t 46)),0,none⟩,⟨(some 48),(.mv (.t 5)),0,(some (47,true))⟩,⟨(some 49),(.bin .num .eql (.t 48) (.c (.int .i64 0))),0,(some (47,true))⟩,⟨(some 50),(.mv (.t 49)),0,(some (47,true))⟩,⟨(some 51),(.mv (.t 6)),0,(some (50,false))⟩,⟨(some 52),(.bin .num .lss (.t 51) (.c (.int .u8 48))),0,(some (50,false))⟩,⟨(some 53),(.pick (.t 50) (.c (.bool true)) (.t 52)),0,(some (47,true))⟩,⟨(some 54),(.mv (.t 53)),0,(some (47,true))⟩,⟨(some 55),(.mv (.t 6)),0,(some (54,false))⟩,⟨(some 56),(.bin .num .gtr (.t 55) (.c (.int .u8 57))),0,(some (54,false))⟩,⟨(some 57),(.pick (.t 54) (.c (.bool true)) (.t 56)),0,(some (47,true))⟩,⟨(some 58),(.pick (.t 47) (.t 57) (.c (.bool false))),0,none⟩] none) (.cond (.t 58) (.seq (.reg [⟨(some 2),(.mv (.c (.bool false))),0,none⟩] none) .ret) .skip)))) (.reg [⟨(some 59),(.bin .num .add (.t 36) (.c (.int .i64 1))),0,none⟩,⟨(some 36),(.mv (.t 59)),0,none⟩] none))))))) (.seq (.reg [⟨(some 60),(.mv (.t 0)),0,none⟩,⟨(some 61),(.bin .num .neq (.t 60) (.c (.str []))),0,none⟩,⟨(some 62),(.mv (.t 61)),0,none⟩,⟨(some 63),(.mv (.t 0)),0,(some (62,true))⟩,⟨(some 64),(.len 0 (.t 63)),0,(some (62,true))⟩,⟨(some 65),(.bin .num .leq (.t 64) (.c (.int .i64 30))),0,(some (62,true))⟩,⟨(some 66),(.pick (.t 62) (.t 65) (.c (.bool false))),0,none⟩,⟨(some 2),(.mv (.t 66)),0,none⟩] none) .ret))))
def XI:List IRes:=[(.tmp 2)]
abbrev b0d:Nat:=67
def WK:ZE:=Xg [(152,.pure (preT (fun _:Str×Str×Unit=>true)) (Zf (fun x:Str×Str×Unit=>x.2.1.s.isPrefixOf x.1.s))),(182,.pure (preT (fun x:Str×Unit=>decide (x.1.s.length<=1000000))) (Zf (fun x:Str×Unit=>Yv x.1))),(76,.pure (preT (fun x:Int×Unit=>decide (-9223372036854775808<=x.1)&&decide (x.1<=9223372036854775807))) (Zf (fun x:Int×Unit=>M4 x.1)))]
theorem b9z{G:PV->Prop}(s:List UInt8)(h : ∃ y0:Bool,AV.pv (Zf (fun(x:Str×Str×Unit)=>List.isPrefixOf (Str.s x.2.1) (Str.s x.1)) [(.str s),(.str [(95:UInt8)])])=AV.pv (enc y0)∧(if (y0)=true then(decide (0<=1)&&true&&decide (Int.toNat 1<=List.length s)&&decide (List.length s<=List.length s))=true∧((Go.Pl.preT (fun(x:Str×Unit)=>decide (List.length (Str.s x.1)<=1000000)) [(.str (List.drop (Int.toNat 1) (List.take (List.length s) s)))])=true∧(∃ y1:Int×Er,AV.pv (Zf (fun(x:Str×Unit)=>Yv x.1) [(.str (List.drop (Int.toNat 1) (List.take (List.length s) s)))])=AV.pv (enc y1)∧((CL (enc y1.2)&&Prod.fst (true,PV.bool (UO (enc y1.2))))=true∧(if (UO (enc y1.2))=true then if (decide (y1.1>0))=true then if (decide ((↑(List.length s):Int)<=10))=true then(Go.Pl.preT (fun(x:Int×Unit)=>decide ((-9223372036854775808:Int)<=x.1)&&decide (x.1<=9223372036854775807)) [(.int .i64 y1.1)])=true∧(∃ y2:Str,AV.pv (Zf (fun(x:Int×Unit)=>M4 x.1) [(.int .i64 y1.1)])=AV.pv (enc y2)∧((decide (0<=1)&&true&&decide (Int.toNat 1<=List.length s)&&decide (List.length s<=List.length s))=true∧(G ((.bool (Str.s y2==List.drop (Int.toNat 1) (List.take (List.length s) s)))))))else(G ((.bool false)))else(G ((.bool false)))else(G ((.bool false)))))))else(At WK 0 (Za XI G) Xn 0 67 [(0,(.pv (.str s))),(34,(.pv (.sl 1 false (Zw s)))),(35,(.pv (.int .i64 (↑(List.length (Zw s)):Int)))),(36,(.pv (.int .i64 0)))] []))):Zc WK 0 (Za XI G) Xn [] (Yz 67 [.str s]):=Zc.tp (.lit (.abs (Bool) (fun YY=>AV.pv (enc YY)) (.ask (.req (.req (.abs (Int×Er) (fun YY=>AV.pv (enc YY)) (.req (.ask (.lit (.lit (.lit (.ask (.lit (.lit (.lit (.lit (.ask (.lit (.req (.abs (Str) (fun YY=>AV.pv (enc YY)) (.lit (.lit (.req (.lit (.lit (.lit (.nil)))))))))) (.lit (.lit (.lit (.lit (.lit (.nil))))))))))) (.lit (.lit (.lit (.lit (.lit (.lit (.lit (.lit (.lit (.nil)))))))))))))) (.lit (.lit (.lit (.lit (.lit (.lit (.lit (.lit (.lit (.lit (.lit (.lit (.nil)))))))))))))))))) (.nil)))) h (by kernel_rfl)
theorem Lh{G:PV->Prop}(s:List UInt8)(i:Int)(h:if (decide (i<(↑(List.length (Zw s)):Int)))=true then(decide (0<=i)&&decide (Int.toNat i<List.length (Zw s))&&1==1)=true∧((decide (0+List.length [Sh.int IntKind.u8]<=List.length (PV.cells (List.getD (Zw s) (Int.toNat i) default)))&&WA (PV.cells (List.getD (Zw s) (Int.toNat i) default)) 0 [Sh.int IntKind.u8])=true∧(if (decide (PV.asInt (List.getD (PV.cells (List.getD (Zw s) (Int.toNat i) default)) 0 default)<97))=true then if (i==0)=true then G ((.bool false))else(if (decide (PV.asInt (List.getD (PV.cells (List.getD (Zw s) (Int.toNat i) default)) 0 default)<48))=true then G ((.bool false))else(if (decide (PV.asInt (List.getD (PV.cells (List.getD (Zw s) (Int.toNat i) default)) 0 default)>57))=true then G ((.bool false))else(At WK 0 (Za XI G) Xn 0 67 [(0,(.pv (.str s))),(34,(.pv (.sl 1 false (Zw s)))),(35,(.pv (.int .i64 (↑(List.length (Zw s)):Int)))),(36,(.pv (.int .i64 (IntKind.wrap IntKind.i64 (i+1)))))] [])))else(if (decide (PV.asInt (List.getD (PV.cells (List.getD (Zw s) (Int.toNat i) default)) 0 default)>122))=true then if (i==0)=true then G ((.bool false))else(if (decide (PV.asInt (List.getD (PV.cells (List.getD (Zw s) (Int.toNat i) default)) 0 default)<48))=true then G ((.bool false))else(if (decide (PV.asInt (List.getD (PV.cells (List.getD (Zw s) (Int.toNat i) default)) 0 default)>57))=true then G ((.bool false))else(At WK 0 (Za XI G) Xn 0 67 [(0,(.pv (.str s))),(34,(.pv (.sl 1 false (Zw s)))),(35,(.pv (.int .i64 (↑(List.length (Zw s)):Int)))),(36,(.pv (.int .i64 (IntKind.wrap IntKind.i64 (i+1)))))] [])))else(At WK 0 (Za XI G) Xn 0 67 [(0,(.pv (.str s))),(34,(.pv (.sl 1 false (Zw s)))),(35,(.pv (.int .i64 (↑(List.length (Zw s)):Int)))),(36,(.pv (.int .i64 (IntKind.wrap IntKind.i64 (i+1)))))] []))))else(if (!s==[])=true then G ((.bool (decide ((↑(List.length s):Int)<=30))))else(G ((.bool false))))):At WK 0 (Za XI G) Xn 0 67 [(0,.pv (.str s)),(34,.pv (.sl 1 false (Zw s))),(35,.pv (.int .i64 (Zw s).length)),(36,.pv (.int .i64 i))] []:=At.tp (.lit (.ask (.req (.keep (.req (.lit (.ask (.lit (.lit (.lit (.lit (.lit (.lit (.ask (.lit (.lit (.lit (.lit (.lit (.lit (.lit (.lit (.lit (.lit (.nil))))))))))) (.lit (.lit (.lit (.lit (.lit (.ask (.lit (.lit (.lit (.lit (.lit (.nil)))))) (.lit (.lit (.lit (.lit (.lit (.ask (.nil) (.lit (.nil))))))))))))))))))))) (.lit (.lit (.lit (.ask (.lit (.lit (.lit (.ask (.lit (.lit (.lit (.lit (.lit (.lit (.lit (.lit (.lit (.lit (.nil))))))))))) (.lit (.lit (.lit (.lit (.lit (.ask (.lit (.lit (.lit (.lit (.lit (.nil)))))) (.lit (.lit (.lit (.lit (.lit (.ask (.nil) (.lit (.nil)))))))))))))))))) (.lit (.lit (.lit (.lit (.lit (.lit (.lit (.lit (.nil)))))))))))))))))) (.lit (.ask (.lit (.lit (.lit (.lit (.nil))))) (.lit (.lit (.lit (.nil)))))))) h (by kernel_rfl)
def X7:IC:=(.seq (.reg [⟨(some 1),(.box 2 (.t 0)),0,none⟩,⟨(some 2),(.mv (.c (.bool false))),1,none⟩] none) (.seq (.seq (.reg [⟨(some 5),(.faddr 1 (.t 1)),0,none⟩,⟨(some 6),(.load false [(.sl 2)] (.t 5)),0,none⟩,⟨(some 7),(.len 1 (.t 6)),0,none⟩,⟨(some 8),(.mv (.c (.int .i64 0))),0,none⟩] none) (.block 0 (.loop [8,7,6,1] (.seq (.reg [⟨(some 9),(.bin .num .lss (.t 8) (.t 7)),0,none⟩] none) (.seq (.cond (.t 9) .skip (.exit 0)) (.seq (.block 1 (.seq (.reg [⟨(some 10),(.mv (.t 8)),0,none⟩,⟨(some 11),(.iaddr 2 (.t 6) (.t 8)),0,none⟩,⟨(some 12),(.load true [.str,(.int .i64)] (.t 11)),0,none⟩,⟨(some 4),(.alloc (.agg [(.str []),(.int .i64 0)])),0,none⟩,⟨(some 3),(.mv (.t 10)),1,none⟩,⟨none,(.store 2 (.t 4) (.t 12)),1,none⟩] none) (.seq (.reg [⟨(some 13),(.faddr 0 (.t 4)),0,none⟩,⟨(some 14),(.load false [.str] (.t 13)),0,none⟩,⟨(some 15),(.call (.c (.fn 119)) [(.t 14)]),0,none⟩,⟨(some 16),(.un .not (.t 15)),2,none⟩,⟨(some 17),(.mv (.t 16)),2,none⟩,⟨(some 18),(.faddr 1 (.t 4)),2,(some (17,false))⟩,⟨(some 19),(.load false [(.int .i64)] (.t 18)),2,(some (17,false))⟩,⟨(some 20),(.bin .num .eql (.t 19) (.c (.int .i64 0))),2,(some (17,false))⟩,⟨(some 21),(.pick (.t 17) (.c (.bool true)) (.t 20)),2,none⟩,⟨(some 22),(.mv (.t 21)),2,none⟩,⟨(some 23),(.faddr 1 (.t 4)),2,(some (22,false))⟩,⟨(some 24),(.load false [(.int .i64)] (.t 23)),2,(some (22,false))⟩,⟨(some 25),(.call (.c (.fn 144)) [(.t 24)]),2,(some (22,false))⟩,⟨(some 26),(.un .not (.t 25)),4,(some (22,false))⟩,⟨(some 27),(.pick (.t 22) (.c (.bool true)) (.t 26)),4,none⟩,⟨(some 28),(.mv (.t 27)),4,none⟩,⟨(some 29),(.mv (.t 3)),4,(some (28,false))⟩,⟨(some 30),(.bin .num .gtr (.t 29) (.c (.int .i64 0))),4,(some (28,false))⟩,⟨(some 31),(.mv (.t 30)),4,(some (28,false))⟩,⟨(some 32),(.faddr 1 (.t 1)),4,(some (31,true))⟩,⟨(some 33),(.load false [(.sl 2)] (.t 32)),4,(some (31,true))⟩,⟨(some 34),(.mv (.t 3)),4,(some (31,true))⟩,⟨(some 35),(.bin .num .sub (.t 34) (.c (.int .i64 1))),4,(some (31,true))⟩,⟨(some 36),(.iaddr 2 (.t 33) (.t 35)),4,(some (31,true))⟩,⟨(some 37),(.faddr 0 (.t 36)),4,(some (31,true))⟩,⟨(some 38),(.load false [.str] (.t 37)),4,(some (31,true))⟩,⟨(some 39),(.faddr 0 (.t 4)),4,(some (31,true))⟩,⟨(some 40),(.load false [.str] (.t 39)),4,(some (31,true))⟩,⟨(some 41),(.bin .num .geq (.t 38) (.t 40)),4,(some (31,true))⟩,⟨(some 42),(.pick (.t 31) (.t 41) (.c (.bool false))),4,(some (28,false))⟩,⟨(some 43),(.pick (.t 28) (.c (.bool true)) (.t 42)),4,none⟩] (some [[],[0],[1,0],[2,1,0],[3,2,1,0],[4,3,2,1,0],[5,4,3,2,1,0],[6,4,5,3,2,1,0],[4,7,3,2,1,0,6,5],[8,4,7,3,2,1,0,6,5],[9,8,4,7,3,2,1,0,6,5],[10,9,8,4,7,3,2,1,0,6,5],[11,9,10,8,4,7,3,2,1,0,6,5],[12,9,11,10,8,4,7,3,2,1,0,6,5],[9,13,8,4,7,3,2,1,0,6,5,12,11,10],[14,12,9,13,8,4,7,3,2,1,0,6,5,11,10],[15,14,12,9,13,8,4,7,3,2,1,0,6,5,11,10],[16,15,14,12,9,13,8,4,7,3,2,1,0,6,5,11,10],[17,15,16,14,12,9,13,8,4,7,3,2,1,0,6,5,11,10],[18,17,15,16,14,12,9,13,8,4,7,3,2,1,0,6,5,11,10],[19,18,17,15,16,14,12,9,13,8,4,7,3,2,1,0,6,5,11,10],[18,17,15,16,14,12,9,13,8,4,7,3,2,1,0,6,5,11,10],[21,18,17,15,16,14,12,9,13,8,4,7,3,2,1,0,6,5,11,10],[20,22,18,19,17,15,16,14,12,9,13,8,4,7,3,2,1,0,6,5,11,10,21],[23,18,20,22,19,17,15,16,14,12,9,13,8,4,7,3,2,1,0,6,5,11,10,21],[24,18,23,20,22,19,17,15,16,14,12,9,13,8,4,7,3,2,1,0,6,5,11,10,21],[18,17,15,16,14,12,9,13,8,4,7,3,2,1,0,6,5,11,10],[26,18,17,15,16,14,12,9,13,8,4,7,3,2,1,0,6,5,11,10],[25,27,18,24,23,20,22,19,17,15,16,14,12,9,13,8,4,7,3,2,1,0,6,5,11,10,21,26],[18,28,15,17,16,14,12,9,13,8,4,7,3,2,1,0,6,5,11,10,25,27,24,23,20,22,19,21,26],[15,29,14,12,9,13,8,4,7,3,2,1,0,6,5,11,10,18,28,17,16,25,27,24,23,20,22,19,21,26]])) (.cond (.t 43) (.seq (.reg [⟨(some 2),(.mv (.c (.bool false))),0,none⟩] none) .ret) .skip)))) (.reg [⟨(some 44),(.bin .num .add (.t 8) (.c (.int .i64 1))),0,none⟩,⟨(some 8),(.mv (.t 44)),0,none⟩] none))))))) (.seq (.reg [⟨(some 45),(.faddr 0 (.t 1)),0,none⟩,⟨(some 46),(.load false [(.int .i64)] (.t 45)),0,none⟩,⟨(some 47),(.call (.c (.fn 144)) [(.t 46)]),0,none⟩,⟨(some 48),(.mv (.t 47)),2,none⟩,⟨(some 49),(.faddr 1 (.t 1)),2,(some (48,true))⟩,⟨(some 50),(.load false [(.sl 2)] (.t 49)),2,(some (48,true))⟩,⟨(some 51),(.len 1 (.t 50)),2,(some (48,true))⟩,⟨(some 52),(.bin .num .leq (.t 51) (.c (.int .i64 12))),2,(some (48,true))⟩,⟨(some 53),(.pick (.t 48) (.t 52) (.c (.bool false))),2,none⟩,⟨(some 2),(.mv (.t 53)),2,none⟩] none) .ret)))
def We:List IRes:=[(.tmp 2)]
abbrev a4l:Nat:=54
def Va:ZE:=Xg [(144,.pure (preT (fun _:Int×Unit=>true)) (Zf (fun x:Int×Unit=>Yp x.1))),(119,.pure (preT (fun x:Str×Unit=>decide (x.1.s.length<=1000000))) (Zf (fun x:Str×Unit=>ZA x.1)))]
theorem a8l{G:PV->Prop}(l:Lin)(h:At Va 0 (Za We G) X7 0 54 [(1,(.ptr 0 0)),(6,(.pv (.sl 2 false (List.map enc l.t)))),(7,(.pv (.int .i64 (↑(List.length (List.map enc l.t)):Int)))),(8,(.pv (.int .i64 0)))] [(.obj (.box [(.pv (.int .i64 l.k)),(.pv (.sl 2 false (List.map enc l.t)))]))]):Zc Va 0 (Za We G) X7 [] (Yz 54 [enc l]):=Zc.tp (.nil) h (by kernel_rfl)
theorem Tx{G:PV->Prop}(l:Lin)(i:Int)(h:if (decide (i<(↑(List.length l.t):Int)))=true then(decide (0<=i)&&decide (Int.toNat i<List.length (List.map enc l.t))&&Enc.sz Coef==2)=true∧(∃ y0:Coef,AV.pv (PV.rptr (PV.cells (List.getD (List.map enc l.t) (Int.toNat i) default)))=AV.pv (PV.rptr (PV.cells ((enc) y0)))∧((Go.Pl.preT (fun(x:Str×Unit)=>decide (List.length (Str.s x.1)<=1000000)) [(.str (PV.asStr (List.getD (PV.cells (enc y0)) 0 default)))])=true∧(∃ y1:Bool,AV.pv (Zf (fun(x:Str×Unit)=>ZA x.1) [(.str (PV.asStr (List.getD (PV.cells (enc y0)) 0 default)))])=AV.pv (enc y1)∧(if (!y1)=true then G ((.bool false))else(if (PV.asInt (List.getD (PV.cells (enc y0)) (0+1) default)==0)=true then G ((.bool false))else(∃ y2:Bool,AV.pv (Zf (fun(x:Int×Unit)=>Yp x.1) [(.int .i64 (PV.asInt (List.getD (PV.cells (enc y0)) (0+1) default)))])=AV.pv (enc y2)∧(if (!y2)=true then G ((.bool false))else(if (decide (i>0))=true then(decide (0<=IntKind.wrap IntKind.i64 (i - 1))&&decide (Int.toNat (IntKind.wrap IntKind.i64 (i - 1))<List.length (List.map enc l.t))&&Enc.sz Coef==2)=true∧(∃ y3:Coef,AV.pv (PV.rptr (PV.cells (List.getD (List.map enc l.t) (Int.toNat (IntKind.wrap IntKind.i64 (i - 1))) default)))=AV.pv (PV.rptr (PV.cells ((enc) y3)))∧(if (!Op.bytesLess (PV.asStr (List.getD (List.drop 0 (PV.cells (enc y3))) 0 default)) (PV.asStr (List.getD (PV.cells (enc y0)) 0 default)))=true then G ((.bool false))else(At Va 0 (Za We G) X7 0 54 [(1,(.ptr 0 0)),(6,(.pv (.sl 2 false (List.map enc l.t)))),(7,(.pv (.int .i64 (↑(List.length l.t):Int)))),(8,(.pv (.int .i64 (IntKind.wrap IntKind.i64 (i+1)))))] [(.obj (.box [(.pv (.int .i64 l.k)),(.pv (.sl 2 false (List.map enc l.t)))]))])))else(At Va 0 (Za We G) X7 0 54 [(1,(.ptr 0 0)),(6,(.pv (.sl 2 false (List.map enc l.t)))),(7,(.pv (.int .i64 (↑(List.length l.t):Int)))),(8,(.pv (.int .i64 (IntKind.wrap IntKind.i64 (i+1)))))] [(.obj (.box [(.pv (.int .i64 l.k)),(.pv (.sl 2 false (List.map enc l.t)))]))])))))))))else(∃ y4:Bool,AV.pv (Zf (fun(x:Int×Unit)=>Yp x.1) [(.int .i64 l.k)])=AV.pv (enc y4)∧(if (y4)=true then G ((.bool (decide ((↑(List.length (List.map enc l.t)):Int)<=12))))else(G ((.bool false)))))):At Va 0 (Za We G) X7 0 54 [(1,.ptr 0 0),(6,.pv (enc l.t)),(7,.pv (.int .i64 l.t.length)),(8,.pv (.int .i64 i))] [.obj (.box [.pv (.int .i64 l.k),.pv (enc l.t)])]:=At.tp (.lit (.ask (.req (.abs (Coef) (fun YY=>AV.pv (PV.rptr (PV.cells ((enc) YY)))) (.lit (.req (.abs (Bool) (fun YY=>AV.pv (enc YY)) (.ask (.lit (.lit (.lit (.lit (.lit (.lit (.lit (.lit (.lit (.lit (.lit (.lit (.lit (.lit (.nil))))))))))))))) (.lit (.lit (.lit (.lit (.ask (.lit (.lit (.lit (.lit (.lit (.lit (.lit (.lit (.lit (.lit (.nil))))))))))) (.lit (.lit (.lit (.abs (Bool) (fun YY=>AV.pv (enc YY)) (.lit (.lit (.ask (.lit (.lit (.lit (.lit (.lit (.nil)))))) (.lit (.lit (.lit (.ask (.lit (.lit (.lit (.lit (.lit (.req (.abs (Coef) (fun YY=>AV.pv (PV.rptr (PV.cells ((enc) YY)))) (.lit (.lit (.lit (.lit (.lit (.lit (.lit (.lit (.lit (.lit (.ask (.nil) (.lit (.nil)))))))))))))))))))) (.lit (.lit (.lit (.lit (.lit (.lit (.lit (.lit (.lit (.lit (.lit (.lit (.lit (.lit (.nil))))))))))))))))))))))))))))))))))))) (.lit (.abs (Bool) (fun YY=>AV.pv (enc YY)) (.ask (.lit (.lit (.lit (.lit (.lit (.nil)))))) (.lit (.lit (.lit (.lit (.nil)))))))))) h (by kernel_rfl)
end Go.Pl

namespace Go.Pl
open Go.RowKit
open Enc (enc dec is)
open EncL (encL decL isL)
theorem LQ{s:List UInt8}{i:Nat}(h:i<s.length):List.getD (Zw s) (Int.toNat (i:Int)) default = .int .u8 (s[i].toNat:Int):=by
 simp[Zw,List.getD,h]
theorem UD(s:List UInt8):(Zw s).length=s.length:=by simp[Zw]
def NE(c:UInt8):Bool:=WB c||Wn c
theorem Ph{c:UInt8}:WB c=true ↔ 97<=c.toNat∧c.toNat<=122:=by
 simp only[WB,Bool.and_eq_true,decide_eq_true_eq,UInt8.le_iff_toNat_le]
 have e1:(97:UInt8).toNat=97:=rfl
 have e2:(122:UInt8).toNat=122:=rfl
 rw[e1,e2]
theorem KO{c:UInt8}(h : ¬ (97<=c.toNat∧c.toNat<=122)):WB c=false:=by
 cases e:WB c
 ·rfl
 ·exact absurd (Ph.1 e) h
theorem KQ{c:UInt8}(h : ¬ (48<=c.toNat∧c.toNat<=57)):Wn c=false:=by
 cases e:Wn c
 ·rfl
 ·exact absurd (Vd.1 e) h
def Xo(s:List UInt8)(i:Nat):Bool:=(match i with|0=>(match s with|[]=>true|c::r=>WB c&&r.all NE)|i+1=>(s.drop (i+1)).all NE)&&(!(s==[]))&&decide (s.length<=30)
theorem TY{s:List UInt8}{i:Nat}(h:i<s.length)(hb:WB s[i]=true∨(i≠0∧Wn s[i]=true)):Xo s i=Xo s (i+1):=by
 cases i with
 | zero=>
  cases s with
  | nil=>simp at h
  | cons c r=>
   rcases hb with hb|hb
   ·have hb:WB c=true:=hb
    simp[Xo,hb]
   ·exact absurd rfl hb.1
 | succ i=>
  unfold Xo
  simp only
  rw[List.drop_eq_getElem_cons h,List.all_cons]
  have:NE s[i+1]=true:=by
   rcases hb with hb|hb
   ·simp[NE,hb]
   ·simp[NE,hb.2]
  rw[this,Bool.true_and]
theorem Ta{s:List UInt8}{i:Nat}(h:i<s.length)(hb:WB s[i]=false∧(i=0∨Wn s[i]=false)):Xo s i=false:=by
 cases i with
 | zero=>
  cases s with
  | nil=>simp at h
  | cons c r=>
   have hb:WB c=false:=hb.1
   simp[Xo,hb]
 | succ i=>
  unfold Xo
  simp only
  rw[List.drop_eq_getElem_cons h,List.all_cons]
  have:NE s[i+1]=false:=by
   rcases hb.2 with h0|h0
   ·cases h0
   ·simp[NE,hb.1,h0]
  rw[this];simp
theorem FE(s:List UInt8)(hs:s.length<=1000000): ∀ (m i:Nat),m+i=s.length->At WK 0 (Za XI (Zm (Xo s i))) Xn 0 67 [(0,.pv (.str s)),(34,.pv (.sl 1 false (Zw s))),(35,.pv (.int .i64 (Zw s).length)),(36,.pv (.int .i64 i))] []:=by
 intro m
 induction m with
 | zero=>
  intro i hi
  have e:Xo s i=(!(s==[])&&decide (s.length<=30)):=by
   unfold Xo
   cases i with
   | zero=>cases s with
    | nil=>rfl
    | cons c r=>simp at hi
   | succ i=>simp only;rw[List.drop_of_length_le (show s.length<=i+1 by omega)];simp
  rw[e]
  refine Lh s i (Z0 (Yd (by rw[UD];omega)) (Xj (fun h=>ZZ ?_) fun h=>ZZ ?_))
  ·rw[h,Bool.true_and];exact decide_eq_decide.2 (by omega)
  ·rw[h,Bool.false_and]
 | succ m ih=>
  intro i hi
  have hlt:i<s.length:=by omega
  have h:=ih (i+1) (by omega)
  refine Lh s i ?_
  rw[LQ hlt,next (by omega)]
  have stop:(WB s[i]=false∧(i=0∨Wn s[i]=false))->Zm (Xo s i) (.bool false):=fun hb=>ZZ (Ta hlt hb).symm
  have go:(WB s[i]=true∨(i≠0∧Wn s[i]=true))->At WK 0 (Za XI (Zm (Xo s i))) Xn 0 67 [(0,.pv (.str s)),(34,.pv (.sl 1 false (Zw s))),(35,.pv (.int .i64 (Zw s).length)),(36,.pv (.int .i64 ((i+1:Nat):Int)))] []:=fun hb=>by rw[TY hlt hb];exact h
  have rest:WB s[i]=false->(if ((i:Int)==0)=true then Zm (Xo s i) (.bool false)else if decide ((s[i].toNat:Int)<48)=true then Zm (Xo s i) (.bool false)else if decide ((s[i].toNat:Int)>57)=true then Zm (Xo s i) (.bool false)else At WK 0 (Za XI (Zm (Xo s i))) Xn 0 67 [(0,.pv (.str s)),(34,.pv (.sl 1 false (Zw s))),(35,.pv (.int .i64 (Zw s).length)),(36,.pv (.int .i64 ((i+1:Nat):Int)))] []):=by
   intro hl
   refine JZ (fun h0=>stop ⟨hl,.inl (by omega)⟩) fun h0=>WR (fun h1=>stop ⟨hl,.inr (KQ (by omega))⟩) fun h1=>WR (fun h2=>stop ⟨hl,.inr (KQ (by omega))⟩) fun h2=>go (.inr ⟨by omega,Vd.2 (by omega)⟩)
  refine ZV (Ya (by rw[UD];exact hlt)) ⟨by rw[UD];simp[hlt],by rfl,?_⟩
  refine WR (fun h1=>rest (KO ?_)) fun h1=>WR (fun h2=>rest (KO ?_)) fun h2=>go (.inl (Ph.2 ?_))
  ·have h1:(s[i].toNat:Int)<97:=h1
   omega
  ·have h2:(s[i].toNat:Int)>122:=h2
   omega
  ·have h1 : ¬ (s[i].toNat:Int)<97:=h1
   have h2 : ¬ (s[i].toNat:Int)>122:=h2
   omega
theorem Ra{s:List UInt8}(h:[95].isPrefixOf s=false):ZA ⟨s⟩=Xo s 0:=by
 cases s with
 | nil=>rfl
 | cons c r=>
  have hc : ¬ c=95:=by intro e;subst e;simp at h
  have e:decide ((c::r).length<=30)=decide (r.length<=29):=decide_eq_decide.2 (by simp)
  unfold Xo
  rw[e]
  simp only[ZA,if_neg hc]
  show _=(WB c&&r.all NE&& !((c::r)==[])&&_)
  have e2:((c::r)==[])=false:=rfl
  rw[e2]
  simp only[Bool.not_false,Bool.and_true]
  rfl
theorem Sc(s:Str): -9223372036854775808<=(Yv s).1∧((Yv s).1<=9223372036854775807):=by
 unfold Yv
 split
 ·rename_i v hv;exact Lib.atoiAll_bounds hv
 ·have:=Lib.atoiSat_bounds s.s
  exact⟨by show _<=Lib.atoiSat s.s;omega,by show Lib.atoiSat s.s<=_;omega⟩
 ·exact⟨by show(-9223372036854775808:Int)<=0;omega,by show(0:Int)<=_;omega⟩
theorem a3c: ∀ a:Str×Unit,decide (a.1.s.length<=1000000)=true->Zc WK 0 (Za XI (Zm (ZA a.1))) Xn [] (Yz b0d (encL a)):=by
 rintro⟨⟨s⟩,⟨⟩⟩ hl
 have hl:s.length<=1000000:=by simpa using hl
 refine b9z s (Zj (⟨s⟩,⟨[95]⟩,()) rfl (Xj (fun h=> ?_) fun h=> ?_))
 ·have h:[95].isPrefixOf s=true:=h
  obtain⟨r,rfl⟩ : ∃ r,s=95::r:=by
   cases s with
   | nil=>simp at h
   | cons c r=>
    have:95=c:=by simpa using h
    exact⟨r,by rw[this]⟩
  have e1:List.drop (Int.toNat 1) (List.take (List.length (95::r)) (95::r))=r:=by rw[List.take_of_length_le (Nat.le_refl _)];rfl
  simp only[e1]
  refine⟨by simp,Zl (⟨r⟩,()) rfl (by simp at hl ⊢;omega),Zj (⟨r⟩,()) rfl ⟨by show(CL (enc (Yv ⟨r⟩).2)&&true)=true;rw[c1y];rfl,?_⟩⟩
  show if UO (enc (Yv ⟨r⟩).2)=true then(if decide ((Yv ⟨r⟩).1>0)=true then(if _ then _ else Zm (ZA ⟨95::r⟩) _)else Zm (ZA ⟨95::r⟩) _)else Zm (ZA ⟨95::r⟩) _
  rw[Ns]
  by_cases h9:r.length<=9
  ·rw[<- a0b r h9,decide_eq_true h9,Bool.and_true]
   refine Xj (fun h1=>Xj (fun h2=>ZV (by simp;omega) ⟨Zl ((Yv ⟨r⟩).1,()) rfl (by have:=Sc ⟨r⟩;simp;omega),Zj ((Yv ⟨r⟩).1,()) rfl ⟨by simp,ZZ ?_⟩⟩) fun h2=>ZZ ?_) fun h1=>ZZ ?_
   ·rw[h1,h2];simp only[Bool.true_and,Bool.and_true];rfl
   ·rw[h2];simp
   ·rw[h1];simp
  ·rw[decide_eq_false h9,Bool.and_false]
   refine Xj (fun h1=>Xj (fun h2=>Z0 (by simp;omega) (ZZ rfl)) fun h2=>ZZ rfl) fun h1=>ZZ rfl
 ·have h:[95].isPrefixOf s=false:=h
  show At WK 0 (Za XI (Zm (ZA ⟨s⟩))) Xn 0 67 _ _
  rw[Ra h]
  exact FE s hl s.length 0 (by omega)
theorem Ma(l:Lin)(hl:l.t.length<=9223372036854775807)(hs:l.t.all (fun t=>decide (t.v.s.length<=1000000))=true): ∀ (j i:Nat),j+i=l.t.length->At Va 0 (Za We (Zm (BN (pvS l.t i) (l.t.drop i)&&(Yp l.k&&decide (l.t.length<=12))))) X7 0 54 [(1,.ptr 0 0),(6,.pv (enc l.t)),(7,.pv (.int .i64 l.t.length)),(8,.pv (.int .i64 i))] [.obj (.box [.pv (.int .i64 l.k),.pv (enc l.t)])]:=by
 intro j
 induction j with
 | zero=>
  intro i hi
  refine Tx l i (Z0 (Yd (by omega)) (Zj (l.k,()) rfl ?_))
  rw[List.drop_of_length_le (show l.t.length<=i by omega)]
  refine Xj (fun h=>ZZ ?_) fun h=>ZZ ?_
  ·have h:Yp l.k=true:=h
   rw[h]
   show _=(true&&(true&&_))
   rw[Bool.true_and,Bool.true_and]
   exact decide_eq_decide.2 (by simp;omega)
  ·have h:Yp l.k=false:=h
   rw[h];simp
 | succ j ih=>
  intro i hi
  have hlt:i<l.t.length:=by omega
  have h:=ih (i+1) (by omega)
  have hsi:l.t[i].v.s.length<=1000000:=by rw[List.all_eq_true]at hs;simpa using hs _ (List.getElem_mem hlt)
  refine Tx l i ?_
  refine ZV (Ya hlt) ⟨ZB hlt rfl,ZY hlt ⟨Zl (l.t[i].v,()) rfl (by simpa using hsi),Zj (l.t[i].v,()) rfl (Vu (fun hn=> ?_) fun hn=>JZ (fun hc=> ?_) fun hc=>Zj (l.t[i].c,()) rfl (Vu (fun hk=> ?_) fun hk=> ?_))⟩⟩
  all_goals rw[List.drop_eq_getElem_cons hlt,Hf]
  ·have hn:ZA l.t[i].v=false:=hn
   exact ZZ (by simp[hn])
  ·have hc:l.t[i].c=0:=hc
   exact ZZ (by simp[hc])
  ·have hk:Yp l.t[i].c=false:=hk
   exact ZZ (by simp[hk])
  have hn:ZA l.t[i].v=true:=hn
  have hk:Yp l.t[i].c=true:=hk
  have hc:l.t[i].c≠0:=hc
  rw[next (by omega),hn,hk,decide_eq_true hc]
  have ep:pvS l.t (i+1)=some l.t[i].v.s:=by simp[pvS,hlt]
  rw[ep]at h
  cases i with
  | zero=>exact Z0 (by simp) h
  | succ i=>
   refine ZV (by simp) ?_
   rw[E8 (by omega)]
   refine⟨ZB (by omega) rfl,ZY (by omega) ?_⟩
   have e2:pvS l.t (i+1)=some l.t[i].v.s:=by simp[pvS,show i<l.t.length by omega]
   rw[e2]
   refine Vu (fun hb=> ?_) fun hb=> ?_
   all_goals
    have hb':=(YP l.t[i].v.s l.t[i+1].v.s).symm.trans hb
    simp only[hb',Bool.and_true,Bool.true_and,Bool.and_false,Bool.false_and]
   ·exact ZZ rfl
   ·exact h
theorem OV: ∀ a:Lin×Unit,ZP a.1=true->Zc Va 0 (Za We (Zm (Zg a.1))) X7 [] (Yz a4l (encL a)):=by
 rintro⟨l,⟨⟩⟩ hl
 simp only[ZP,YC,Bool.and_eq_true,decide_eq_true_eq]at hl
 refine a8l l ?_
 show At Va 0 (Za We (Zm (Zg l))) X7 0 54 _ _
 have e:Zg l=(BN (pvS l.t 0) (l.t.drop 0)&&(Yp l.k&&decide (l.t.length<=12))):=by rw[ME,Bool.and_comm];rfl
 rw[e,List.length_map]
 exact Ma l hl.1 hl.2 l.t.length 0 (by omega)
end Go.Pl

namespace Go.Pl
open Go.RowKit
open Enc (enc dec is)
open EncL (encL decL isL)
structure LR where
 k:Int
 w:Nat
 ts:List Coef
def LR.view(r:LR):Lin:=⟨r.k,r.ts.take r.w⟩
def LR.av(r:LR)(l:Nat):AV:=.agg [.pv (.int .i64 r.k),.row l r.ts.length 0 r.w]
def LR.ob(r:LR):AObj:=.row false 61 2 (r.ts.map enc)
def Ur:Nat->Nat->Nat->List Coef->List Coef×Nat
 | 0,_,j,ts=>(ts,j)
 | m+1,i,j,ts=>if (ts.getD i ⟨⟨[]⟩,0⟩).c=0 then Ur m (i+1) j ts else Ur m (i+1) (j+1) (ts.set j (ts.getD i ⟨⟨[]⟩,0⟩))
def KD(k:Int)(o:List Coef):LR:=⟨k,(Ur o.length 0 0 o).2,(Ur o.length 0 0 o).1⟩
def XH(l:Lin)(s:Str)(c:Int):LR:=KD l.k (Xu s c false l.t)
def Q5(l x:Lin)(k:Int):LR:=x.t.foldl (fun o t=>XH o.view t.v (XO (k*t.c))) ⟨XO (l.k+XO (k*x.k)),l.t.length,l.t⟩
theorem C9: ∀ (m i j:Nat) (ts:List Coef),(Ur m i j ts).1.length=ts.length
 | 0,_,_,_=>rfl
 | m+1,i,j,ts=>by
  rw[Ur]
  split
  ·exact C9 m _ _ _
  ·rw[C9 m];simp
theorem FM: ∀ (m i j:Nat) (ts:List Coef),m+i=ts.length->j<=i->(Ur m i j ts).2<=ts.length
 | 0,i,j,ts,h,hj=>by rw[Ur];show j<=_;omega
 | m+1,i,j,ts,h,hj=>by
  rw[Ur]
  split
  ·exact FM m _ _ _ (by omega) (by omega)
  ·have:=FM m (i+1) (j+1) (ts.set j (ts.getD i ⟨⟨[]⟩,0⟩)) (by simp;omega) (by omega)
   simpa using this
theorem b3q(k:Int)(o:List Coef):(KD k o).ts.length=o.length:=C9 _ _ _ _
theorem c6p(k:Int)(o:List Coef):(KD k o).w<=o.length:=FM _ _ _ _ (by omega) (by omega)
theorem GQ(o:List Coef): ∀ (m i j:Nat) (ts:List Coef),m+i=o.length->ts.length=o.length->j<=i->ts.take j=(o.take i).filter (fun t=>decide (t.c≠0))->ts.drop i=o.drop i->(Ur m i j ts).1.take (Ur m i j ts).2=o.filter fun t=>decide (t.c≠0)
 | 0,i,j,ts,hm,hts,hji,h1,h2=>by
  rw[Ur]
  show ts.take j=_
  rw[h1,List.take_of_length_le (by omega)]
 | m+1,i,j,ts,hm,hts,hji,h1,h2=>by
  have hlt:i<o.length:=by omega
  have hi':i<ts.length:=by omega
  have hj':j<ts.length:=by omega
  have ei:ts[i]=o[i]:=by
   have:(ts.drop i)[0]? = (o.drop i)[0]? :=by rw[h2]
   simpa [hi',hlt]using this
  have htk:(o.take (i+1))=o.take i++[o[i]]:=by rw[List.take_add_one,List.getElem?_eq_getElem hlt];rfl
  have eg:ts.getD i ⟨⟨[]⟩,0⟩=ts[i]:=by simp[List.getD,hi']
  rw[Ur,eg]
  split
  ·rename_i hz
   refine GQ o m (i+1) j ts (by omega) hts (by omega) ?_ ?_
   ·rw[h1,htk,List.filter_append]
    have:o[i].c=0:=by rw[<- ei];exact hz
    simp[this]
   ·have:=congrArg (List.drop 1) h2
    simpa [List.drop_drop,Nat.add_comm]using this
  ·rename_i hz
   refine GQ o m (i+1) (j+1) (ts.set j ts[i]) (by omega) (by simp[hts]) (by omega) ?_ ?_
   ·rw[htk,List.filter_append,<- h1]
    have:decide (o[i].c≠0)=true:=by rw[<- ei];exact decide_eq_true hz
    simp only[List.filter_cons,this,if_true,List.filter_nil]
    rw[List.take_add_one,List.getElem?_set_self hj',List.take_set_of_le (Nat.le_refl j),ei]
    rfl
   ·rw[List.drop_set_of_lt (by omega)]
    have:=congrArg (List.drop 1) h2
    simpa [List.drop_drop,Nat.add_comm]using this
theorem AQ(l:Lin)(s:Str)(c:Int):(XH l s c).view=WW l s c:=by
 show(⟨_,_⟩:Lin)=⟨_,_⟩
 congr 1
 exact GQ _ _ 0 0 _ (by omega) rfl (by omega) (by simp) rfl
theorem Aj(k:Int): ∀ (x:List Coef) (r:LR),(x.foldl (fun o t=>XH o.view t.v (XO (k*t.c))) r).view=x.foldl (fun o t=>WW o t.v (XO (k*t.c))) r.view
 | [],r=>rfl
 | t::x,r=>by rw[List.foldl_cons,List.foldl_cons,Aj k x,AQ]
theorem MC(l x:Lin)(k:Int):(Q5 l x k).view=Vm l x k:=by
 have:=Aj k x.t ⟨XO (l.k+XO (k*x.k)),l.t.length,l.t⟩
 have e:LR.view ⟨XO (l.k+XO (k*x.k)),l.t.length,l.t⟩=⟨XO (l.k+XO (k*x.k)),l.t⟩:=by
  show(⟨_,l.t.take l.t.length⟩:Lin)=_
  rw[List.take_length]
 rw[e]at this
 exact this
def UC:List AV->List AObj->Bool
 | [.pv l,.pv (.str s),.pv (.int .i64 c)],[]=>XX Lin l&&decide ((dec l:Lin).t.length<=1000000)
 | _,_=>false
def Un(r:LR)(l:Nat)(os:List AObj):AV×List AObj×List AObj:=(r.av l,os,[r.ob])
def UE:List AV->List AObj->AV×List AObj×List AObj
 | [.pv l,.pv (.str s),.pv (.int .i64 c)],_=>Un (XH (dec l) ⟨s⟩ c) 0 []
 | _,_=>Wz
def MS(k:Int)(w:Nat)(xs:List PV):Lin:=⟨k,((dec (PV.sl 2 false xs):List Coef)).take w⟩
def Qy:List AV->List AObj->Bool
 | [.agg [.pv (.int .i64 k),.row 0 q 0 w],.pv (.str s),.pv (.int .i64 c)],[.row fz ty 2 xs]=>XX (List Coef) (.sl 2 false xs)&&xs.length==q&&decide (w<=q)&&decide (w<=1000000)
 | _,_=>false
def Ja:List AV->List AObj->AV×List AObj×List AObj
 | [.agg [.pv (.int .i64 k),.row 0 q 0 w],.pv (.str s),.pv (.int .i64 c)],[.row fz ty 2 xs]=>Un (XH (MS k w xs) ⟨s⟩ c) 1 [.row true ty 2 xs]
 | _,_=>Wz
def Ke:List AV->List AObj->Bool
 | [.pv l,.pv x,.pv (.int .i64 k)],[]=>XX Lin l&&XX Lin x&&decide ((dec l:Lin).t.length<=500000)&&decide ((dec x:Lin).t.length<=500000)
 | _,_=>false
def Je:List AV->List AObj->AV×List AObj×List AObj
 | [.pv l,.pv x,.pv (.int .i64 k)],[]=>Un (Q5 (dec l) (dec x) k) 0 []
 | [.agg [.pv (.int .i64 c),.row 0 q 0 w],.pv x,.pv (.int .i64 k)],[.row fz ty 2 xs]=>Un (Q5 (MS c w xs) (dec x) k) 1 [.row true ty 2 xs]
 | _,_=>Wz
def c8i:PV:=.agg [.int .i64 0,.sl 0 true []]
end Go.Pl

namespace Go.Pl
open Go.RowKit
open Enc (enc dec is)
open EncL (encL decL isL)
set_option maxRecDepth 100000
def ZM:IC:=(.seq (.reg [⟨(some 3),(.box 2 (.t 0)),0,none⟩,⟨(some 6),(.alloc (.agg [(.int .i64 0),(.sl 0 true [])])),1,none⟩] none) (.seq (.reg [⟨(some 13),(.faddr 0 (.t 3)),0,none⟩,⟨(some 14),(.load false [(.int .i64)] (.t 13)),0,none⟩,⟨(some 15),(.build [(.int .i64 0),(.sl 0 true [])] [(0,(1,(.t 14)))]),0,none⟩,⟨(some 7),(.alloc (.agg [(.int .i64 0),(.sl 0 true [])])),0,none⟩,⟨none,(.store 2 (.t 7) (.t 15)),1,none⟩] none) (.seq (.reg [⟨(some 8),(.mv (.c (.bool false))),0,none⟩] none) (.seq (.seq (.reg [⟨(some 9),(.mv (.c (.int .i64 0))),0,none⟩] none) (.block 0 (.loop [9,3,8,1,7,2,6] (.seq (.seq (.reg [⟨(some 16),(.mv (.t 9)),0,none⟩,⟨(some 17),(.faddr 1 (.t 3)),0,none⟩,⟨(some 18),(.load false [(.sl 2)] (.t 17)),0,none⟩,⟨(some 19),(.len 1 (.t 18)),0,none⟩,⟨(some 20),(.bin .num .lss (.t 16) (.t 19)),0,none⟩] none) (.cond (.t 20) .skip (.exit 0))) (.seq (.block 1 (.seq (.reg [⟨(some 23),(.faddr 1 (.t 3)),0,none⟩,⟨(some 24),(.load false [(.sl 2)] (.t 23)),0,none⟩,⟨(some 25),(.mv (.t 9)),0,none⟩,⟨(some 26),(.iaddr 2 (.t 24) (.t 25)),0,none⟩,⟨(some 27),(.load true [.str,(.int .i64)] (.t 26)),0,none⟩,⟨(some 10),(.alloc (.agg [(.str []),(.int .i64 0)])),0,none⟩,⟨none,(.store 2 (.t 10) (.t 27)),1,none⟩] none) (.seq (.seq (.reg [⟨(some 28),(.mv (.t 8)),0,none⟩,⟨(some 29),(.un .not (.t 28)),0,none⟩,⟨(some 30),(.mv (.t 29)),0,none⟩,⟨(some 31),(.faddr 0 (.t 10)),0,(some (30,true))⟩,⟨(some 32),(.load false [.str] (.t 31)),0,(some (30,true))⟩,⟨(some 33),(.mv (.t 1)),0,(some (30,true))⟩,⟨(some 34),(.bin .num .gtr (.t 32) (.t 33)),0,(some (30,true))⟩,⟨(some 35),(.pick (.t 30) (.t 34) (.c (.bool false))),0,none⟩] none) (.cond (.t 35) (.seq (.reg [⟨(some 36),(.faddr 1 (.t 7)),0,none⟩,⟨(some 37),(.load false [(.sl 2)] (.t 36)),0,none⟩,⟨(some 38),(.mv (.t 1)),0,none⟩,⟨(some 39),(.mv (.t 2)),0,none⟩,⟨(some 40),(.build [(.str []),(.int .i64 0)] [(0,(1,(.t 38))),(1,(1,(.t 39)))]),0,none⟩,⟨(some 41),(.bslice 61 2 1 (.agg [(.str []),(.int .i64 0)]) [(0,(.t 40))]),0,none⟩,⟨(some 42),(.append 61 2 24 (.t 37) (.t 41)),1,none⟩,⟨(some 43),(.faddr 1 (.t 7)),2,none⟩,⟨none,(.store 1 (.t 43) (.t 42)),2,none⟩] none) (.reg [⟨(some 8),(.mv (.c (.bool true))),0,none⟩] none)) .skip)) (.seq (.seq (.reg [⟨(some 44),(.faddr 0 (.t 10)),0,none⟩,⟨(some 45),(.load false [.str] (.t 44)),0,none⟩,⟨(some 46),(.mv (.t 1)),0,none⟩,⟨(some 47),(.bin .num .eql (.t 45) (.t 46)),0,none⟩] none) (.cond (.t 47) (.seq (.reg [⟨(some 48),(.faddr 1 (.t 10)),0,none⟩,⟨(some 49),(.load false [(.int .i64)] (.t 48)),0,none⟩,⟨(some 50),(.mv (.t 2)),0,none⟩,⟨(some 51),(.bin .num .add (.t 49) (.t 50)),0,none⟩,⟨(some 52),(.faddr 1 (.t 10)),0,none⟩,⟨none,(.store 1 (.t 52) (.t 51)),0,none⟩] none) (.reg [⟨(some 8),(.mv (.c (.bool true))),0,none⟩] none)) .skip)) (.reg [⟨(some 53),(.faddr 1 (.t 7)),0,none⟩,⟨(some 54),(.load false [(.sl 2)] (.t 53)),0,none⟩,⟨(some 55),(.load true [.str,(.int .i64)] (.t 10)),0,none⟩,⟨(some 56),(.bslice 61 2 1 (.agg [(.str []),(.int .i64 0)]) [(0,(.t 55))]),0,none⟩,⟨(some 57),(.append 61 2 24 (.t 54) (.t 56)),1,none⟩,⟨(some 58),(.faddr 1 (.t 7)),2,none⟩,⟨none,(.store 1 (.t 58) (.t 57)),2,none⟩] none))))) (.reg [⟨(some 21),(.mv (.t 9)),0,none⟩,⟨(some 22),(.bin .num .add (.t 21) (.c (.int .i64 1))),0,none⟩,⟨(some 9),(.mv (.t 22)),0,none⟩] none)))))) (.seq (.seq (.reg [⟨(some 59),(.mv (.t 8)),0,none⟩,⟨(some 60),(.un .not (.t 59)),0,none⟩] none) (.cond (.t 60) (.reg [⟨(some 61),(.faddr 1 (.t 7)),0,none⟩,⟨(some 62),(.load false [(.sl 2)] (.t 61)),0,none⟩,⟨(some 63),(.mv (.t 1)),0,none⟩,⟨(some 64),(.mv (.t 2)),0,none⟩,⟨(some 65),(.build [(.str []),(.int .i64 0)] [(0,(1,(.t 63))),(1,(1,(.t 64)))]),0,none⟩,⟨(some 66),(.bslice 61 2 1 (.agg [(.str []),(.int .i64 0)]) [(0,(.t 65))]),0,none⟩,⟨(some 67),(.append 61 2 24 (.t 62) (.t 66)),1,none⟩,⟨(some 68),(.faddr 1 (.t 7)),2,none⟩,⟨none,(.store 1 (.t 68) (.t 67)),2,none⟩] none) .skip)) (.seq (.reg [⟨(some 11),(.mv (.c (.int .i64 0))),0,none⟩] none) (.seq (.seq (.reg [⟨(some 12),(.mv (.c (.int .i64 0))),0,none⟩] none) (.block 2 (.loop [12,7,11,6] (.seq (.seq (.reg [⟨(some 69),(.mv (.t 12)),0,none⟩,⟨(some 70),(.faddr 1 (.t 7)),0,none⟩,⟨(some 71),(.load false [(.sl 2)] (.t 70)),0,none⟩,⟨(some 72),(.len 1 (.t 71)),0,none⟩,⟨(some 73),(.bin .num .lss (.t 69) (.t 72)),0,none⟩] none) (.cond (.t 73) .skip (.exit 2))) (.seq (.block 3 (.seq (.reg [⟨(some 76),(.faddr 1 (.t 7)),0,none⟩,⟨(some 77),(.load false [(.sl 2)] (.t 76)),0,none⟩,⟨(some 78),(.mv (.t 12)),0,none⟩,⟨(some 79),(.iaddr 2 (.t 77) (.t 78)),0,none⟩,⟨(some 80),(.faddr 1 (.t 79)),0,none⟩,⟨(some 81),(.load false [(.int .i64)] (.t 80)),0,none⟩,⟨(some 82),(.bin .num .neq (.t 81) (.c (.int .i64 0))),0,none⟩] none) (.cond (.t 82) (.seq (.reg [⟨(some 83),(.faddr 1 (.t 7)),0,none⟩,⟨(some 84),(.load false [(.sl 2)] (.t 83)),0,none⟩,⟨(some 85),(.mv (.t 11)),0,none⟩,⟨(some 86),(.faddr 1 (.t 7)),0,none⟩,⟨(some 87),(.load false [(.sl 2)] (.t 86)),0,none⟩,⟨(some 88),(.mv (.t 12)),0,none⟩,⟨(some 89),(.iaddr 2 (.t 87) (.t 88)),0,none⟩,⟨(some 90),(.load true [.str,(.int .i64)] (.t 89)),0,none⟩,⟨(some 91),(.iaddr 2 (.t 84) (.t 85)),0,none⟩,⟨none,(.store 2 (.t 91) (.t 90)),0,none⟩] (some [[],[0],[],[],[3],[],[4,5,3],[6,4,5,3],[1,2,0,3,4,5,6,7],[8,7,0,1,2,3,4,5,6]])) (.reg [⟨(some 92),(.mv (.t 11)),0,none⟩,⟨(some 93),(.bin .num .add (.t 92) (.c (.int .i64 1))),0,none⟩,⟨(some 11),(.mv (.t 93)),0,none⟩] none)) .skip))) (.reg [⟨(some 74),(.mv (.t 12)),0,none⟩,⟨(some 75),(.bin .num .add (.t 74) (.c (.int .i64 1))),0,none⟩,⟨(some 12),(.mv (.t 75)),0,none⟩] none)))))) (.seq (.reg [⟨(some 94),(.faddr 1 (.t 7)),0,none⟩,⟨(some 95),(.load false [(.sl 2)] (.t 94)),0,none⟩,⟨(some 96),(.mv (.t 11)),0,none⟩,⟨(some 97),(.slc 2 (.t 95) none (some (.t 96)) none),0,none⟩,⟨(some 98),(.faddr 1 (.t 7)),0,none⟩,⟨none,(.store 1 (.t 98) (.t 97)),0,none⟩] none) (.seq (.reg [⟨(some 99),(.load true [(.int .i64),(.sl 2)] (.t 7)),0,none⟩,⟨none,(.store 2 (.t 6) (.t 99)),0,none⟩] none) .ret)))))))))
def ZL:List IRes:=[(.cell true 2 6)]
abbrev NY:Nat:=100
def Z6:ZE:=Xg []
theorem c0m{G:AV×List AObj×List AObj->Prop}(l:Lin)(s:List UInt8)(c:Int)(h:At Z6 0 (Zk 0 ZL G) ZM 0 100 [(1,(.pv (.str s))),(2,(.pv (.int .i64 c))),(3,(.ptr 0 0)),(6,(.ptr 1 0)),(7,(.ptr 2 0)),(8,(.pv (.bool false))),(9,(.pv (.int .i64 0)))] [(.obj (.box [(.pv (.int .i64 l.k)),(.pv (.sl 2 false (List.map enc l.t)))])),(.obj (.box [(.pv (.int .i64 0)),(.pv (.sl 0 true []))])),(.obj (.box [(.pv (.int .i64 l.k)),(.pv (.sl 0 true []))]))]):Zc Z6 0 (Zk 0 ZL G) ZM [] (YD 100 [.pv (enc l),.pv (.str s),.pv (enc c)] []):=Zc.to (.nil) h (by kernel_rfl)
theorem a5k{G:AV×List AObj×List AObj->Prop}(l:Lin)(s:List UInt8)(c:Int)(p:Bool)(i:Int)(h:if (decide (i<(↑(List.length (List.map enc l.t)):Int)))=true then(decide (0<=i)&&decide (Int.toNat i<List.length (List.map enc l.t))&&Enc.sz Coef==2)=true∧(∃ y0:Coef,AV.pv (PV.rptr (PV.cells (List.getD (List.map enc l.t) (Int.toNat i) default)))=AV.pv (PV.rptr (PV.cells ((enc) y0)))∧(if (!p)=true then if (!(Op.bytesLess (PV.asStr (List.getD (PV.cells (enc y0)) 0 default)) s||PV.asStr (List.getD (PV.cells (enc y0)) 0 default)==s))=true then if (PV.asStr (List.getD (PV.cells (enc y0)) 0 default)==s)=true then At Z6 0 (Zk 0 ZL G) ZM 0 100 [(1,(.pv (.str s))),(2,(.pv (.int .i64 c))),(3,(.ptr 0 0)),(6,(.ptr 1 0)),(7,(.ptr 2 0)),(8,(.pv (.bool true))),(9,(.pv (.int .i64 (IntKind.wrap IntKind.i64 (i+1)))))] [(.obj (.box [(.pv (.int .i64 l.k)),(.pv (.sl 2 false (List.map enc l.t)))])),(.obj (.box [(.pv (.int .i64 0)),(.pv (.sl 0 true []))])),(.obj (.box [(.pv (.int .i64 l.k)),(.row 3 2 0 2)])),(.obj (.row false 61 2 [(.agg [(.str s),(.int .i64 c)]),(.agg [(.str (PV.asStr (List.getD (PV.cells (enc y0)) 0 default))),(.int .i64 (IntKind.wrap IntKind.i64 (PV.asInt (List.getD (PV.cells (enc y0)) (0+1) default)+c)))])]))]else(At Z6 0 (Zk 0 ZL G) ZM 0 100 [(1,(.pv (.str s))),(2,(.pv (.int .i64 c))),(3,(.ptr 0 0)),(6,(.ptr 1 0)),(7,(.ptr 2 0)),(8,(.pv (.bool true))),(9,(.pv (.int .i64 (IntKind.wrap IntKind.i64 (i+1)))))] [(.obj (.box [(.pv (.int .i64 l.k)),(.pv (.sl 2 false (List.map enc l.t)))])),(.obj (.box [(.pv (.int .i64 0)),(.pv (.sl 0 true []))])),(.obj (.box [(.pv (.int .i64 l.k)),(.row 3 2 0 2)])),(.obj (.row false 61 2 [(.agg [(.str s),(.int .i64 c)]),(.agg [(.str (PV.asStr (List.getD (PV.cells (enc y0)) 0 default))),(.int .i64 (PV.asInt (List.getD (PV.cells (enc y0)) (0+1) default)))])]))])else(if (PV.asStr (List.getD (PV.cells (enc y0)) 0 default)==s)=true then At Z6 0 (Zk 0 ZL G) ZM 0 100 [(1,(.pv (.str s))),(2,(.pv (.int .i64 c))),(3,(.ptr 0 0)),(6,(.ptr 1 0)),(7,(.ptr 2 0)),(8,(.pv (.bool true))),(9,(.pv (.int .i64 (IntKind.wrap IntKind.i64 (i+1)))))] [(.obj (.box [(.pv (.int .i64 l.k)),(.pv (.sl 2 false (List.map enc l.t)))])),(.obj (.box [(.pv (.int .i64 0)),(.pv (.sl 0 true []))])),(.obj (.box [(.pv (.int .i64 l.k)),(.row 3 1 0 1)])),(.obj (.row false 61 2 [(.agg [(.str (PV.asStr (List.getD (PV.cells (enc y0)) 0 default))),(.int .i64 (IntKind.wrap IntKind.i64 (PV.asInt (List.getD (PV.cells (enc y0)) (0+1) default)+c)))])]))]else(At Z6 0 (Zk 0 ZL G) ZM 0 100 [(1,(.pv (.str s))),(2,(.pv (.int .i64 c))),(3,(.ptr 0 0)),(6,(.ptr 1 0)),(7,(.ptr 2 0)),(8,(.pv (.bool p))),(9,(.pv (.int .i64 (IntKind.wrap IntKind.i64 (i+1)))))] [(.obj (.box [(.pv (.int .i64 l.k)),(.pv (.sl 2 false (List.map enc l.t)))])),(.obj (.box [(.pv (.int .i64 0)),(.pv (.sl 0 true []))])),(.obj (.box [(.pv (.int .i64 l.k)),(.row 3 1 0 1)])),(.obj (.row false 61 2 [(.agg [(.str (PV.asStr (List.getD (PV.cells (enc y0)) 0 default))),(.int .i64 (PV.asInt (List.getD (PV.cells (enc y0)) (0+1) default)))])]))]))else(if (PV.asStr (List.getD (PV.cells (enc y0)) 0 default)==s)=true then At Z6 0 (Zk 0 ZL G) ZM 0 100 [(1,(.pv (.str s))),(2,(.pv (.int .i64 c))),(3,(.ptr 0 0)),(6,(.ptr 1 0)),(7,(.ptr 2 0)),(8,(.pv (.bool true))),(9,(.pv (.int .i64 (IntKind.wrap IntKind.i64 (i+1)))))] [(.obj (.box [(.pv (.int .i64 l.k)),(.pv (.sl 2 false (List.map enc l.t)))])),(.obj (.box [(.pv (.int .i64 0)),(.pv (.sl 0 true []))])),(.obj (.box [(.pv (.int .i64 l.k)),(.row 3 1 0 1)])),(.obj (.row false 61 2 [(.agg [(.str (PV.asStr (List.getD (PV.cells (enc y0)) 0 default))),(.int .i64 (IntKind.wrap IntKind.i64 (PV.asInt (List.getD (PV.cells (enc y0)) (0+1) default)+c)))])]))]else(At Z6 0 (Zk 0 ZL G) ZM 0 100 [(1,(.pv (.str s))),(2,(.pv (.int .i64 c))),(3,(.ptr 0 0)),(6,(.ptr 1 0)),(7,(.ptr 2 0)),(8,(.pv (.bool p))),(9,(.pv (.int .i64 (IntKind.wrap IntKind.i64 (i+1)))))] [(.obj (.box [(.pv (.int .i64 l.k)),(.pv (.sl 2 false (List.map enc l.t)))])),(.obj (.box [(.pv (.int .i64 0)),(.pv (.sl 0 true []))])),(.obj (.box [(.pv (.int .i64 l.k)),(.row 3 1 0 1)])),(.obj (.row false 61 2 [(.agg [(.str (PV.asStr (List.getD (PV.cells (enc y0)) 0 default))),(.int .i64 (PV.asInt (List.getD (PV.cells (enc y0)) (0+1) default)))])]))]))))else(if (!p)=true then At Z6 0 (Zk 0 ZL G) ZM 1 100 [(6,(.ptr 0 0)),(7,(.ptr 1 0)),(11,(.pv (.int .i64 0))),(12,(.pv (.int .i64 0)))] [(.obj (.box [(.pv (.int .i64 0)),(.pv (.sl 0 true []))])),(.obj (.box [(.pv (.int .i64 l.k)),(.row 2 1 0 1)])),(.obj (.row false 61 2 [(.agg [(.str s),(.int .i64 c)])]))]else(At Z6 0 (Zk 0 ZL G) ZM 1 100 [(6,(.ptr 0 0)),(7,(.ptr 1 0)),(11,(.pv (.int .i64 0))),(12,(.pv (.int .i64 0)))] [(.obj (.box [(.pv (.int .i64 0)),(.pv (.sl 0 true []))])),(.obj (.box [(.pv (.int .i64 l.k)),(.pv (.sl 0 true []))]))]))):At Z6 0 (Zk 0 ZL G) ZM 0 100 [(1,.pv (.str s)),(2,.pv (.int .i64 c)),(3,.ptr 0 0),(6,.ptr 1 0),(7,.ptr 2 0),(8,.pv (.bool p)),(9,.pv (.int .i64 i))] [.obj (.box [.pv (.int .i64 l.k),.pv (enc l.t)]),.obj (.box [.pv (.int .i64 0),.pv (.sl 0 true [])]),.obj (.box [.pv (.int .i64 l.k),.pv (.sl 0 true [])])]:=At.to (.lit (.ask (.req (.abs (Coef) (fun YY=>AV.pv (PV.rptr (PV.cells ((enc) YY)))) (.lit (.ask (.lit (.lit (.lit (.lit (.lit (.ask (.lit (.lit (.lit (.lit (.lit (.lit (.ask (.lit (.lit (.lit (.lit (.lit (.nil)))))) (.lit (.lit (.lit (.lit (.nil)))))))))))) (.lit (.ask (.lit (.lit (.lit (.lit (.lit (.lit (.lit (.nil)))))))) (.lit (.lit (.lit (.lit (.lit (.lit (.nil))))))))))))))) (.lit (.lit (.lit (.lit (.lit (.lit (.ask (.lit (.lit (.lit (.lit (.lit (.lit (.lit (.nil)))))))) (.lit (.lit (.lit (.lit (.lit (.lit (.nil)))))))))))))))))) (.ask (.lit (.lit (.lit (.lit (.lit (.nil)))))) (.nil)))) h (by kernel_rfl)
theorem SX{G:AV×List AObj×List AObj->Prop}(l:Lin)(s:List UInt8)(c:Int)(j i:Int)(q:Nat)(ts:List Coef)(h:if (decide (i<(↑(q - 0):Int)))=true then(decide (0<=i)&&decide (0+Int.toNat i<q)&&List.length (List.map enc ts)==q)=true∧((List.length (List.map enc ts)==q&&decide (0+Int.toNat i<List.length (List.map enc ts)))=true∧((decide (0+1+List.length [Sh.int .i64]<=List.length (PV.cells (List.getD (List.map enc ts) (0+Int.toNat i) default)))&&WA (PV.cells (List.getD (List.map enc ts) (0+Int.toNat i) default)) (0+1) [Sh.int .i64])=true∧(if (PV.asInt (List.getD (PV.cells (List.getD (List.map enc ts) (0+Int.toNat i) default)) (0+1) default) != 0)=true then(decide (0<=i)&&decide (0+Int.toNat i<q)&&List.length (List.map enc ts)==q)=true∧((List.length (List.map enc ts)==q&&decide (0+Int.toNat i<List.length (List.map enc ts)))=true∧((decide (0+List.length [Sh.str,Sh.int .i64]<=List.length (PV.cells (List.getD (List.map enc ts) (0+Int.toNat i) default)))&&WA (PV.cells (List.getD (List.map enc ts) (0+Int.toNat i) default)) 0 [Sh.str,Sh.int .i64])=true∧((decide (0<=j)&&decide (0+Int.toNat j<q)&&List.length (List.map enc ts)==q)=true∧((List.length (List.map enc ts)==q&&decide (0+Int.toNat j<List.length (List.map enc ts))&&List.length (PV.cells (PV.agg (QB (PV.cells (List.getD (List.map enc ts) (0+Int.toNat i) default)) 0 [Sh.str,Sh.int .i64])))==2&&decide (0+2<=List.length (PV.cells (List.getD (List.map enc ts) (0+Int.toNat j) default)))&&PV.cellsOk (PV.agg (QB (PV.cells (List.getD (List.map enc ts) (0+Int.toNat i) default)) 0 [Sh.str,Sh.int .i64])))=true∧(At Z6 0 (Zk 0 ZL G) ZM 1 100 [(6,(.ptr 0 0)),(7,(.ptr 1 0)),(11,(.pv (.int .i64 (IntKind.wrap IntKind.i64 (j+1))))),(12,(.pv (.int .i64 (IntKind.wrap IntKind.i64 (i+1)))))] [(.obj (.box [(.pv (.int .i64 0)),(.pv (.sl 0 true []))])),(.obj (.box [(.pv (.int .i64 l.k)),(.row 2 q 0 q)])),(.obj (.row false 61 2 (List.set (List.map enc ts) (0+Int.toNat j) (PV.withCells (List.getD (List.map enc ts) (0+Int.toNat j) default) (splice (PV.cells (List.getD (List.map enc ts) (0+Int.toNat j) default)) 0 (PV.cells (PV.agg (QB (PV.cells (List.getD (List.map enc ts) (0+Int.toNat i) default)) 0 [Sh.str,Sh.int .i64]))))))))])))))else(At Z6 0 (Zk 0 ZL G) ZM 1 100 [(6,(.ptr 0 0)),(7,(.ptr 1 0)),(11,(.pv (.int .i64 j))),(12,(.pv (.int .i64 (IntKind.wrap IntKind.i64 (i+1)))))] [(.obj (.box [(.pv (.int .i64 0)),(.pv (.sl 0 true []))])),(.obj (.box [(.pv (.int .i64 l.k)),(.row 2 q 0 q)])),(.obj (.row false 61 2 (List.map enc ts)))]))))else((true&&decide (0<=j)&&decide (0<=Int.toNat j)&&decide (0+Int.toNat j<=q)&&List.length (List.map enc ts)==q)=true∧(G (((.agg [(.pv (.int .i64 l.k)),(.row 0 q 0 (0+Int.toNat j))]),([],[(.row false 61 2 (List.map enc ts))])))))):At Z6 0 (Zk 0 ZL G) ZM 1 100 [(6,.ptr 0 0),(7,.ptr 1 0),(11,.pv (.int .i64 j)),(12,.pv (.int .i64 i))] [.obj (.box [.pv (.int .i64 0),.pv (.sl 0 true [])]),.obj (.box [.pv (.int .i64 l.k),.row 2 q 0 q]),.obj (.row false 61 2 (ts.map enc))]:=At.to (.lit (.ask (.req (.keep (.req (.req (.lit (.ask (.req (.keep (.req (.req (.req (.keep (.req (.lit (.lit (.nil)))))))))) (.lit (.nil)))))))) (.req (.nil)))) h (by kernel_rfl)
theorem TS{G:AV×List AObj×List AObj->Prop}(l:Lin)(s:List UInt8)(c:Int)(p:Bool)(i:Int)(q:Nat)(ts:List Coef)(h:if (decide (i<(↑(List.length (List.map enc l.t)):Int)))=true then(decide (0<=i)&&decide (Int.toNat i<List.length (List.map enc l.t))&&Enc.sz Coef==2)=true∧(∃ y0:Coef,AV.pv (PV.rptr (PV.cells (List.getD (List.map enc l.t) (Int.toNat i) default)))=AV.pv (PV.rptr (PV.cells ((enc) y0)))∧(if (!p)=true then if (!(Op.bytesLess (PV.asStr (List.getD (PV.cells (enc y0)) 0 default)) s||PV.asStr (List.getD (PV.cells (enc y0)) 0 default)==s))=true then(List.length (List.map enc ts)==q&&q==q&&decide ((q+List.length (List.drop 0 (List.take 1 [PV.agg [PV.str s,PV.int .i64 c]])))*24<=1099511627776)&&decide (q+List.length (List.drop 0 (List.take 1 [PV.agg [PV.str s,PV.int .i64 c]]))<=1099511627776))=true∧(if (PV.asStr (List.getD (PV.cells (enc y0)) 0 default)==s)=true then(List.length (List.map enc ts++List.drop 0 (List.take 1 [PV.agg [PV.str s,PV.int .i64 c]]))==q+List.length (List.drop 0 (List.take 1 [PV.agg [PV.str s,PV.int .i64 c]]))&&q+List.length (List.drop 0 (List.take 1 [PV.agg [PV.str s,PV.int .i64 c]]))==q+List.length (List.drop 0 (List.take 1 [PV.agg [PV.str s,PV.int .i64 c]]))&&decide ((q+List.length (List.drop 0 (List.take 1 [PV.agg [PV.str s,PV.int .i64 c]]))+List.length (List.drop 0 (List.take 1 [PV.agg [Sh.co Sh.str (List.getD (PV.cells (enc y0)) 0 default),PV.int .i64 (IntKind.wrap IntKind.i64 (PV.asInt (List.getD (PV.cells (enc y0)) (0+1) default)+c))]])))*24<=1099511627776)&&decide (q+List.length (List.drop 0 (List.take 1 [PV.agg [PV.str s,PV.int .i64 c]]))+List.length (List.drop 0 (List.take 1 [PV.agg [Sh.co Sh.str (List.getD (PV.cells (enc y0)) 0 default),PV.int .i64 (IntKind.wrap IntKind.i64 (PV.asInt (List.getD (PV.cells (enc y0)) (0+1) default)+c))]]))<=1099511627776))=true∧(At Z6 0 (Zk 0 ZL G) ZM 0 100 [(1,(.pv (.str s))),(2,(.pv (.int .i64 c))),(3,(.ptr 0 0)),(6,(.ptr 1 0)),(7,(.ptr 2 0)),(8,(.pv (.bool true))),(9,(.pv (.int .i64 (IntKind.wrap IntKind.i64 (i+1)))))] [(.obj (.box [(.pv (.int .i64 l.k)),(.pv (.sl 2 false (List.map enc l.t)))])),(.obj (.box [(.pv (.int .i64 0)),(.pv (.sl 0 true []))])),(.obj (.box [(.pv (.int .i64 l.k)),(.row 3 (q+List.length (List.drop 0 (List.take 1 [PV.agg [PV.str s,PV.int .i64 c]]))+List.length (List.drop 0 (List.take 1 [PV.agg [Sh.co Sh.str (List.getD (PV.cells (enc y0)) 0 default),PV.int .i64 (IntKind.wrap IntKind.i64 (PV.asInt (List.getD (PV.cells (enc y0)) (0+1) default)+c))]]))) 0 (q+List.length (List.drop 0 (List.take 1 [PV.agg [PV.str s,PV.int .i64 c]]))+List.length (List.drop 0 (List.take 1 [PV.agg [Sh.co Sh.str (List.getD (PV.cells (enc y0)) 0 default),PV.int .i64 (IntKind.wrap IntKind.i64 (PV.asInt (List.getD (PV.cells (enc y0)) (0+1) default)+c))]]))))])),(.obj (.row false 61 2 (List.map enc ts++List.drop 0 (List.take 1 [PV.agg [PV.str s,PV.int .i64 c]])++List.drop 0 (List.take 1 [PV.agg [Sh.co Sh.str (List.getD (PV.cells (enc y0)) 0 default),PV.int .i64 (IntKind.wrap IntKind.i64 (PV.asInt (List.getD (PV.cells (enc y0)) (0+1) default)+c))]]))))])else((List.length (List.map enc ts++List.drop 0 (List.take 1 [PV.agg [PV.str s,PV.int .i64 c]]))==q+List.length (List.drop 0 (List.take 1 [PV.agg [PV.str s,PV.int .i64 c]]))&&q+List.length (List.drop 0 (List.take 1 [PV.agg [PV.str s,PV.int .i64 c]]))==q+List.length (List.drop 0 (List.take 1 [PV.agg [PV.str s,PV.int .i64 c]]))&&decide ((q+List.length (List.drop 0 (List.take 1 [PV.agg [PV.str s,PV.int .i64 c]]))+List.length (List.drop 0 (List.take 1 [PV.agg [Sh.co Sh.str (List.getD (PV.cells (enc y0)) 0 default),Sh.co (Sh.int .i64) (List.getD (PV.cells (enc y0)) (0+1) default)]])))*24<=1099511627776)&&decide (q+List.length (List.drop 0 (List.take 1 [PV.agg [PV.str s,PV.int .i64 c]]))+List.length (List.drop 0 (List.take 1 [PV.agg [Sh.co Sh.str (List.getD (PV.cells (enc y0)) 0 default),Sh.co (Sh.int .i64) (List.getD (PV.cells (enc y0)) (0+1) default)]]))<=1099511627776))=true∧(At Z6 0 (Zk 0 ZL G) ZM 0 100 [(1,(.pv (.str s))),(2,(.pv (.int .i64 c))),(3,(.ptr 0 0)),(6,(.ptr 1 0)),(7,(.ptr 2 0)),(8,(.pv (.bool true))),(9,(.pv (.int .i64 (IntKind.wrap IntKind.i64 (i+1)))))] [(.obj (.box [(.pv (.int .i64 l.k)),(.pv (.sl 2 false (List.map enc l.t)))])),(.obj (.box [(.pv (.int .i64 0)),(.pv (.sl 0 true []))])),(.obj (.box [(.pv (.int .i64 l.k)),(.row 3 (q+List.length (List.drop 0 (List.take 1 [PV.agg [PV.str s,PV.int .i64 c]]))+List.length (List.drop 0 (List.take 1 [PV.agg [Sh.co Sh.str (List.getD (PV.cells (enc y0)) 0 default),Sh.co (Sh.int .i64) (List.getD (PV.cells (enc y0)) (0+1) default)]]))) 0 (q+List.length (List.drop 0 (List.take 1 [PV.agg [PV.str s,PV.int .i64 c]]))+List.length (List.drop 0 (List.take 1 [PV.agg [Sh.co Sh.str (List.getD (PV.cells (enc y0)) 0 default),Sh.co (Sh.int .i64) (List.getD (PV.cells (enc y0)) (0+1) default)]]))))])),(.obj (.row false 61 2 (List.map enc ts++List.drop 0 (List.take 1 [PV.agg [PV.str s,PV.int .i64 c]])++List.drop 0 (List.take 1 [PV.agg [Sh.co Sh.str (List.getD (PV.cells (enc y0)) 0 default),Sh.co (Sh.int .i64) (List.getD (PV.cells (enc y0)) (0+1) default)]]))))])))else(if (PV.asStr (List.getD (PV.cells (enc y0)) 0 default)==s)=true then(List.length (List.map enc ts)==q&&q==q&&decide ((q+List.length (List.drop 0 (List.take 1 [PV.agg [Sh.co Sh.str (List.getD (PV.cells (enc y0)) 0 default),PV.int .i64 (IntKind.wrap IntKind.i64 (PV.asInt (List.getD (PV.cells (enc y0)) (0+1) default)+c))]])))*24<=1099511627776)&&decide (q+List.length (List.drop 0 (List.take 1 [PV.agg [Sh.co Sh.str (List.getD (PV.cells (enc y0)) 0 default),PV.int .i64 (IntKind.wrap IntKind.i64 (PV.asInt (List.getD (PV.cells (enc y0)) (0+1) default)+c))]]))<=1099511627776))=true∧(At Z6 0 (Zk 0 ZL G) ZM 0 100 [(1,(.pv (.str s))),(2,(.pv (.int .i64 c))),(3,(.ptr 0 0)),(6,(.ptr 1 0)),(7,(.ptr 2 0)),(8,(.pv (.bool true))),(9,(.pv (.int .i64 (IntKind.wrap IntKind.i64 (i+1)))))] [(.obj (.box [(.pv (.int .i64 l.k)),(.pv (.sl 2 false (List.map enc l.t)))])),(.obj (.box [(.pv (.int .i64 0)),(.pv (.sl 0 true []))])),(.obj (.box [(.pv (.int .i64 l.k)),(.row 3 (q+List.length (List.drop 0 (List.take 1 [PV.agg [Sh.co Sh.str (List.getD (PV.cells (enc y0)) 0 default),PV.int .i64 (IntKind.wrap IntKind.i64 (PV.asInt (List.getD (PV.cells (enc y0)) (0+1) default)+c))]]))) 0 (q+List.length (List.drop 0 (List.take 1 [PV.agg [Sh.co Sh.str (List.getD (PV.cells (enc y0)) 0 default),PV.int .i64 (IntKind.wrap IntKind.i64 (PV.asInt (List.getD (PV.cells (enc y0)) (0+1) default)+c))]]))))])),(.obj (.row false 61 2 (List.map enc ts++List.drop 0 (List.take 1 [PV.agg [Sh.co Sh.str (List.getD (PV.cells (enc y0)) 0 default),PV.int .i64 (IntKind.wrap IntKind.i64 (PV.asInt (List.getD (PV.cells (enc y0)) (0+1) default)+c))]]))))])else((List.length (List.map enc ts)==q&&q==q&&decide ((q+List.length (List.drop 0 (List.take 1 [PV.agg [Sh.co Sh.str (List.getD (PV.cells (enc y0)) 0 default),Sh.co (Sh.int .i64) (List.getD (PV.cells (enc y0)) (0+1) default)]])))*24<=1099511627776)&&decide (q+List.length (List.drop 0 (List.take 1 [PV.agg [Sh.co Sh.str (List.getD (PV.cells (enc y0)) 0 default),Sh.co (Sh.int .i64) (List.getD (PV.cells (enc y0)) (0+1) default)]]))<=1099511627776))=true∧(At Z6 0 (Zk 0 ZL G) ZM 0 100 [(1,(.pv (.str s))),(2,(.pv (.int .i64 c))),(3,(.ptr 0 0)),(6,(.ptr 1 0)),(7,(.ptr 2 0)),(8,(.pv (.bool p))),(9,(.pv (.int .i64 (IntKind.wrap IntKind.i64 (i+1)))))] [(.obj (.box [(.pv (.int .i64 l.k)),(.pv (.sl 2 false (List.map enc l.t)))])),(.obj (.box [(.pv (.int .i64 0)),(.pv (.sl 0 true []))])),(.obj (.box [(.pv (.int .i64 l.k)),(.row 3 (q+List.length (List.drop 0 (List.take 1 [PV.agg [Sh.co Sh.str (List.getD (PV.cells (enc y0)) 0 default),Sh.co (Sh.int .i64) (List.getD (PV.cells (enc y0)) (0+1) default)]]))) 0 (q+List.length (List.drop 0 (List.take 1 [PV.agg [Sh.co Sh.str (List.getD (PV.cells (enc y0)) 0 default),Sh.co (Sh.int .i64) (List.getD (PV.cells (enc y0)) (0+1) default)]]))))])),(.obj (.row false 61 2 (List.map enc ts++List.drop 0 (List.take 1 [PV.agg [Sh.co Sh.str (List.getD (PV.cells (enc y0)) 0 default),Sh.co (Sh.int .i64) (List.getD (PV.cells (enc y0)) (0+1) default)]]))))])))else(if (PV.asStr (List.getD (PV.cells (enc y0)) 0 default)==s)=true then(List.length (List.map enc ts)==q&&q==q&&decide ((q+List.length (List.drop 0 (List.take 1 [PV.agg [Sh.co Sh.str (List.getD (PV.cells (enc y0)) 0 default),PV.int .i64 (IntKind.wrap IntKind.i64 (PV.asInt (List.getD (PV.cells (enc y0)) (0+1) default)+c))]])))*24<=1099511627776)&&decide (q+List.length (List.drop 0 (List.take 1 [PV.agg [Sh.co Sh.str (List.getD (PV.cells (enc y0)) 0 default),PV.int .i64 (IntKind.wrap IntKind.i64 (PV.asInt (List.getD (PV.cells (enc y0)) (0+1) default)+c))]]))<=1099511627776))=true∧(At Z6 0 (Zk 0 ZL G) ZM 0 100 [(1,(.pv (.str s))),(2,(.pv (.int .i64 c))),(3,(.ptr 0 0)),(6,(.ptr 1 0)),(7,(.ptr 2 0)),(8,(.pv (.bool true))),(9,(.pv (.int .i64 (IntKind.wrap IntKind.i64 (i+1)))))] [(.obj (.box [(.pv (.int .i64 l.k)),(.pv (.sl 2 false (List.map enc l.t)))])),(.obj (.box [(.pv (.int .i64 0)),(.pv (.sl 0 true []))])),(.obj (.box [(.pv (.int .i64 l.k)),(.row 3 (q+List.length (List.drop 0 (List.take 1 [PV.agg [Sh.co Sh.str (List.getD (PV.cells (enc y0)) 0 default),PV.int .i64 (IntKind.wrap IntKind.i64 (PV.asInt (List.getD (PV.cells (enc y0)) (0+1) default)+c))]]))) 0 (q+List.length (List.drop 0 (List.take 1 [PV.agg [Sh.co Sh.str (List.getD (PV.cells (enc y0)) 0 default),PV.int .i64 (IntKind.wrap IntKind.i64 (PV.asInt (List.getD (PV.cells (enc y0)) (0+1) default)+c))]]))))])),(.obj (.row false 61 2 (List.map enc ts++List.drop 0 (List.take 1 [PV.agg [Sh.co Sh.str (List.getD (PV.cells (enc y0)) 0 default),PV.int .i64 (IntKind.wrap IntKind.i64 (PV.asInt (List.getD (PV.cells (enc y0)) (0+1) default)+c))]]))))])else((List.length (List.map enc ts)==q&&q==q&&decide ((q+List.length (List.drop 0 (List.take 1 [PV.agg [Sh.co Sh.str (List.getD (PV.cells (enc y0)) 0 default),Sh.co (Sh.int .i64) (List.getD (PV.cells (enc y0)) (0+1) default)]])))*24<=1099511627776)&&decide (q+List.length (List.drop 0 (List.take 1 [PV.agg [Sh.co Sh.str (List.getD (PV.cells (enc y0)) 0 default),Sh.co (Sh.int .i64) (List.getD (PV.cells (enc y0)) (0+1) default)]]))<=1099511627776))=true∧(At Z6 0 (Zk 0 ZL G) ZM 0 100 [(1,(.pv (.str s))),(2,(.pv (.int .i64 c))),(3,(.ptr 0 0)),(6,(.ptr 1 0)),(7,(.ptr 2 0)),(8,(.pv (.bool p))),(9,(.pv (.int .i64 (IntKind.wrap IntKind.i64 (i+1)))))] [(.obj (.box [(.pv (.int .i64 l.k)),(.pv (.sl 2 false (List.map enc l.t)))])),(.obj (.box [(.pv (.int .i64 0)),(.pv (.sl 0 true []))])),(.obj (.box [(.pv (.int .i64 l.k)),(.row 3 (q+List.length (List.drop 0 (List.take 1 [PV.agg [Sh.co Sh.str (List.getD (PV.cells (enc y0)) 0 default),Sh.co (Sh.int .i64) (List.getD (PV.cells (enc y0)) (0+1) default)]]))) 0 (q+List.length (List.drop 0 (List.take 1 [PV.agg [Sh.co Sh.str (List.getD (PV.cells (enc y0)) 0 default),Sh.co (Sh.int .i64) (List.getD (PV.cells (enc y0)) (0+1) default)]]))))])),(.obj (.row false 61 2 (List.map enc ts++List.drop 0 (List.take 1 [PV.agg [Sh.co Sh.str (List.getD (PV.cells (enc y0)) 0 default),Sh.co (Sh.int .i64) (List.getD (PV.cells (enc y0)) (0+1) default)]]))))])))))else(if (!p)=true then(List.length (List.map enc ts)==q&&q==q&&decide ((q+List.length (List.drop 0 (List.take 1 [PV.agg [PV.str s,PV.int .i64 c]])))*24<=1099511627776)&&decide (q+List.length (List.drop 0 (List.take 1 [PV.agg [PV.str s,PV.int .i64 c]]))<=1099511627776))=true∧(At Z6 0 (Zk 0 ZL G) ZM 1 100 [(6,(.ptr 0 0)),(7,(.ptr 1 0)),(11,(.pv (.int .i64 0))),(12,(.pv (.int .i64 0)))] [(.obj (.box [(.pv (.int .i64 0)),(.pv (.sl 0 true []))])),(.obj (.box [(.pv (.int .i64 l.k)),(.row 2 (q+List.length (List.drop 0 (List.take 1 [PV.agg [PV.str s,PV.int .i64 c]]))) 0 (q+List.length (List.drop 0 (List.take 1 [PV.agg [PV.str s,PV.int .i64 c]]))))])),(.obj (.row false 61 2 (List.map enc ts++List.drop 0 (List.take 1 [PV.agg [PV.str s,PV.int .i64 c]]))))])else(At Z6 0 (Zk 0 ZL G) ZM 1 100 [(6,(.ptr 0 0)),(7,(.ptr 1 0)),(11,(.pv (.int .i64 0))),(12,(.pv (.int .i64 0)))] [(.obj (.box [(.pv (.int .i64 0)),(.pv (.sl 0 true []))])),(.obj (.box [(.pv (.int .i64 l.k)),(.row 2 q 0 q)])),(.obj (.row false 61 2 (List.map enc ts)))]))):At Z6 0 (Zk 0 ZL G) ZM 0 100 [(1,.pv (.str s)),(2,.pv (.int .i64 c)),(3,.ptr 0 0),(6,.ptr 1 0),(7,.ptr 2 0),(8,.pv (.bool p)),(9,.pv (.int .i64 i))] [.obj (.box [.pv (.int .i64 l.k),.pv (enc l.t)]),.obj (.box [.pv (.int .i64 0),.pv (.sl 0 true [])]),.obj (.box [.pv (.int .i64 l.k),.row 3 q 0 q]),.obj (.row false 61 2 (ts.map enc))]:=At.to (.lit (.ask (.req (.abs (Coef) (fun YY=>AV.pv (PV.rptr (PV.cells ((enc) YY)))) (.lit (.ask (.lit (.lit (.lit (.lit (.lit (.ask (.lit (.lit (.req (.lit (.ask (.lit (.lit (.lit (.req (.lit (.nil)))))) (.lit (.lit (.req (.lit (.nil)))))))))) (.lit (.ask (.lit (.lit (.lit (.req (.lit (.nil)))))) (.lit (.lit (.req (.lit (.nil))))))))))))) (.lit (.lit (.lit (.lit (.lit (.lit (.ask (.lit (.lit (.lit (.req (.lit (.nil)))))) (.lit (.lit (.req (.lit (.nil)))))))))))))))) (.ask (.lit (.lit (.req (.nil)))) (.nil)))) h (by kernel_rfl)
def WT:IC:=(.seq (.reg [⟨(some 3),(.box 2 (.t 0)),0,none⟩,⟨(some 4),(.box 2 (.t 1)),1,none⟩,⟨(some 6),(.alloc (.agg [(.int .i64 0),(.sl 0 true [])])),2,none⟩] none) (.seq (.reg [⟨(some 9),(.faddr 0 (.t 3)),0,none⟩,⟨(some 10),(.load false [(.int .i64)] (.t 9)),0,none⟩,⟨(some 11),(.mv (.t 2)),0,none⟩,⟨(some 12),(.faddr 0 (.t 4)),0,none⟩,⟨(some 13),(.load false [(.int .i64)] (.t 12)),0,none⟩,⟨(some 14),(.bin .num .mul (.t 11) (.t 13)),0,none⟩,⟨(some 15),(.bin .num .add (.t 10) (.t 14)),0,none⟩,⟨(some 16),(.bslice 61 2 0 (.agg [(.str []),(.int .i64 0)]) []),0,none⟩,⟨(some 17),(.faddr 1 (.t 3)),1,none⟩,⟨(some 18),(.load false [(.sl 2)] (.t 17)),1,none⟩,⟨(some 19),(.append 61 2 24 (.t 16) (.t 18)),1,none⟩,⟨(some 20),(.build [(.int .i64 0),(.sl 0 true [])] [(0,(1,(.t 15))),(1,(1,(.t 19)))]),2,none⟩,⟨(some 7),(.alloc (.agg [(.int .i64 0),(.sl 0 true [])])),2,none⟩,⟨none,(.store 2 (.t 7) (.t 20)),3,none⟩] (some [[],[0],[],[],[3],[2,4,3],[1,5,0,2,4,3],[],[],[8],[7,9,8],[6,10,1,5,0,2,4,3,7,9,8],[],[12,11,10,0,1,2,3,4,5,6,7,8,9]])) (.seq (.seq (.reg [⟨(some 8),(.mv (.c (.int .i64 0))),0,none⟩] none) (.block 0 (.loop [8,4,7,2,6] (.seq (.seq (.reg [⟨(some 21),(.mv (.t 8)),0,none⟩,⟨(some 22),(.faddr 1 (.t 4)),0,none⟩,⟨(some 23),(.load false [(.sl 2)] (.t 22)),0,none⟩,⟨(some 24),(.len 1 (.t 23)),0,none⟩,⟨(some 25),(.bin .num .lss (.t 21) (.t 24)),0,none⟩] none) (.cond (.t 25) .skip (.exit 0))) (.seq (.block 1 (.reg [⟨(some 28),(.load true [(.int .i64),(.sl 2)] (.t 7)),0,none⟩,⟨(some 29),(.faddr 1 (.t 4)),0,none⟩,⟨(some 30),(.load false [(.sl 2)] (.t 29)),0,none⟩,⟨(some 31),(.mv (.t 8)),0,none⟩,⟨(some 32),(.iaddr 2 (.t 30) (.t 31)),0,none⟩,⟨(some 33),(.faddr 0 (.t 32)),0,none⟩,⟨(some 34),(.load false [.str] (.t 33)),0,none⟩,⟨(some 35),(.mv (.t 2)),0,none⟩,⟨(some 36),(.faddr 1 (.t 4)),0,none⟩,⟨(some 37),(.load false [(.sl 2)] (.t 36)),0,none⟩,⟨(some 38),(.mv (.t 8)),0,none⟩,⟨(some 39),(.iaddr 2 (.t 37) (.t 38)),0,none⟩,⟨(some 40),(.faddr 1 (.t 39)),0,none⟩,⟨(some 41),(.load false [(.int .i64)] (.t 40)),0,none⟩,⟨(some 42),(.bin .num .mul (.t 35) (.t 41)),0,none⟩,⟨(some 43),(.call (.c (.fn 89)) [(.t 28),(.t 34),(.t 42)]),0,none⟩,⟨none,(.store 2 (.t 7) (.t 43)),2,none⟩] (some [[],[],[1],[],[2,3,1],[4,2,3,1],[5,4,2,3,1],[],[],[8],[],[9,10,8],[11,9,10,8],[12,11,9,10,8],[7,13,12,11,9,10,8],[0,6,14,5,4,2,3,1,7,13,12,11,9,10,8],[15,0,1,2,3,4,5,6,7,8,9,10,11,12,13,14]]))) (.reg [⟨(some 26),(.mv (.t 8)),0,none⟩,⟨(some 27),(.bin .num .add (.t 26) (.c (.int .i64 1))),0,none⟩,⟨(some 8),(.mv (.t 27)),0,none⟩] none)))))) (.seq (.reg [⟨(some 44),(.load true [(.int .i64),(.sl 2)] (.t 7)),0,none⟩,⟨none,(.store 2 (.t 6) (.t 44)),0,none⟩] none) .ret))))
def WZ:List IRes:=[(.cell true 2 6)]
abbrev TI:Nat:=45
def Uh:ZE:=Xg [(89,.own Qy Ja)]
theorem b6f{G:AV×List AObj×List AObj->Prop}(l x:Lin)(k:Int)(h:(List.isEmpty (List.map enc l.t)||Enc.sz Coef==2)=true∧((List.length ([]:List PV)==0&&0==0&&decide ((0+List.length (List.map enc l.t))*24<=1099511627776)&&decide (0+List.length (List.map enc l.t)<=1099511627776))=true∧(At Uh 0 (Zk 0 WZ G) WT 0 45 [(2,(.pv (.int .i64 k))),(4,(.ptr 0 0)),(6,(.ptr 1 0)),(7,(.ptr 2 0)),(8,(.pv (.int .i64 0)))] [(.obj (.box [(.pv (.int .i64 x.k)),(.pv (.sl 2 false (List.map enc x.t)))])),(.obj (.box [(.pv (.int .i64 0)),(.pv (.sl 0 true []))])),(.obj (.box [(.pv (.int .i64 (IntKind.wrap IntKind.i64 (l.k+IntKind.wrap IntKind.i64 (k*x.k))))),(.row 3 (0+List.length (List.map enc l.t)) 0 (0+List.length (List.map enc l.t)))])),(.obj (.row false 61 2 (([]:List PV)++List.map enc l.t)))]))):Zc Uh 0 (Zk 0 WZ G) WT [] (YD 45 [.pv (enc l),.pv (enc x),.pv (enc k)] []):=Zc.to (.lit (.lit (.lit (.req (.req (.nil)))))) h (by kernel_rfl)
theorem Si{G:AV×List AObj×List AObj->Prop}(l x:Lin)(k:Int)(c:Int)(q w:Nat)(ts:List Coef)(i:Int)(h:if (decide (i<(↑(List.length (List.map enc x.t)):Int)))=true then(decide (0<=i)&&decide (Int.toNat i<List.length (List.map enc x.t))&&Enc.sz Coef==2)=true∧(∃ y0:Coef,AV.pv (PV.rptr (PV.cells (List.getD (List.map enc x.t) (Int.toNat i) default)))=AV.pv (PV.rptr (PV.cells ((enc) y0)))∧((decide (0<=i)&&decide (Int.toNat i<List.length (List.map enc x.t))&&Enc.sz Coef==2)=true∧(∃ y1:Coef,AV.pv (PV.rptr (PV.cells (List.getD (List.map enc x.t) (Int.toNat i) default)))=AV.pv (PV.rptr (PV.cells ((enc) y1)))∧((Qy [(.agg [(.pv (.int .i64 c)),(.row 0 q 0 w)]),(.pv (.str (PV.asStr (List.getD (List.drop 0 (PV.cells (enc y0))) 0 default)))),(.pv (.int .i64 (IntKind.wrap IntKind.i64 (k*PV.asInt (List.getD (List.drop 1 (PV.cells (enc y1))) 0 default)))))] [(.row false 61 2 (List.map enc ts))])=true∧(At Uh 0 (Zk 0 WZ G) WT 0 45 [(2,(.pv (.int .i64 k))),(4,(.ptr 0 0)),(6,(.ptr 1 0)),(7,(.ptr 2 0)),(8,(.pv (.int .i64 (IntKind.wrap IntKind.i64 (i+1)))))] [(.obj (.box [(.pv (.int .i64 x.k)),(.pv (.sl 2 false (List.map enc x.t)))])),(.obj (.box [(.pv (.int .i64 0)),(.pv (.sl 0 true []))])),(.obj (.box [(.pv (.int .i64 (LR.k (XH (MS c w (List.map enc ts)) (Str.mk (PV.asStr (List.getD (List.drop 0 (PV.cells (enc y0))) 0 default))) (IntKind.wrap IntKind.i64 (k*PV.asInt (List.getD (List.drop 1 (PV.cells (enc y1))) 0 default))))))),(.row 3 (List.length (LR.ts (XH (MS c w (List.map enc ts)) (Str.mk (PV.asStr (List.getD (List.drop 0 (PV.cells (enc y0))) 0 default))) (IntKind.wrap IntKind.i64 (k*PV.asInt (List.getD (List.drop 1 (PV.cells (enc y1))) 0 default)))))) 0 (LR.w (XH (MS c w (List.map enc ts)) (Str.mk (PV.asStr (List.getD (List.drop 0 (PV.cells (enc y0))) 0 default))) (IntKind.wrap IntKind.i64 (k*PV.asInt (List.getD (List.drop 1 (PV.cells (enc y1))) 0 default))))))])),(.obj (.row false 61 2 (List.map enc (LR.ts (XH (MS c w (List.map enc ts)) (Str.mk (PV.asStr (List.getD (List.drop 0 (PV.cells (enc y0))) 0 default))) (IntKind.wrap IntKind.i64 (k*PV.asInt (List.getD (List.drop 1 (PV.cells (enc y1))) 0 default))))))))])))))else(G (((.agg [(.pv (.int .i64 c)),(.row 0 q 0 w)]),([],[(.row false 61 2 (List.map enc ts))]))))):At Uh 0 (Zk 0 WZ G) WT 0 45 [(2,.pv (.int .i64 k)),(4,.ptr 0 0),(6,.ptr 1 0),(7,.ptr 2 0),(8,.pv (.int .i64 i))] [.obj (.box [.pv (.int .i64 x.k),.pv (enc x.t)]),.obj (.box [.pv (.int .i64 0),.pv (.sl 0 true [])]),.obj (.box [.pv (.int .i64 c),.row 3 q 0 w]),.obj (.row false 61 2 (ts.map enc))]:=At.to (.lit (.ask (.req (.abs (Coef) (fun YY=>AV.pv (PV.rptr (PV.cells ((enc) YY)))) (.lit (.req (.abs (Coef) (fun YY=>AV.pv (PV.rptr (PV.cells ((enc) YY)))) (.lit (.lit (.req (.keep (.lit (.nil))))))))))) (.nil))) h (by kernel_rfl)
end Go.Pl

namespace Go.Pl
open Go.RowKit
open Enc (enc dec is)
open EncL (encL decL isL)
theorem c1m{ts:List Coef}{i:Nat}(h:i<ts.length):ts.getD i ⟨⟨[]⟩,0⟩=ts[i]:=by simp[List.getD,h]
theorem a7e(l:Lin)(s:List UInt8)(c:Int)(q:Nat)(ho:q<=2000000): ∀ (m i j:Nat) (ts:List Coef),m+i=q->ts.length=q->j<=i ->
  At Z6 0 (Zk 0 ZL (fun r=>r=Un ⟨l.k,(Ur m i j ts).2,(Ur m i j ts).1⟩ 0 [])) ZM 1 100 [(6,.ptr 0 0),(7,.ptr 1 0),(11,.pv (.int .i64 j)),(12,.pv (.int .i64 i))] [.obj (.box [.pv (.int .i64 0),.pv (.sl 0 true [])]),.obj (.box [.pv (.int .i64 l.k),.row 2 q 0 q]),.obj (.row false 61 2 (ts.map enc))]:=by
 intro m
 induction m with
 | zero=>
  intro i j ts hm hts hji
  refine SX l s c j i q ts (Z0 (by simp;omega) ?_)
  refine⟨by simp[hts];omega,?_⟩
  subst hts
  simp only[Int.toNat_natCast,Nat.zero_add]
  rfl
 | succ m ih=>
  intro i j ts hm hts hji
  have hi':i<ts.length:=by omega
  have hj':j<ts.length:=by omega
  refine SX l s c j i q ts ?_
  simp only[b5d enc hi',b5d enc hj']
  refine ZV (by simp;omega) ⟨by simp;omega,by simp;omega,rfl,?_⟩
  rw[Ur,c1m hi']
  by_cases hz:ts[i].c=0
  ·refine Z0 (by show ¬ (ts[i].c != 0)=true;simp[hz]) ?_
   rw[next (by omega),if_pos hz]
   exact ih (i+1) j ts (by omega) hts (by omega)
  ·refine ZV (by show(ts[i].c != 0)=true;simp[hz]) ⟨by simp;omega,by simp;omega,rfl,by simp;omega,?_,?_⟩
   ·simp only[List.length_map,hts,beq_self_eq_true,Bool.true_and,Nat.zero_add,Int.toNat_natCast,decide_eq_true (show j<q by omega)]
    rfl
   ·rw[Nat.zero_add,Int.toNat_natCast,b6e,next (by omega),next (by omega),if_neg hz]
    exact ih (i+1) (j+1) (ts.set j ts[i]) (by omega) (by simp[hts]) (by omega)
theorem Gz(l:Lin)(s:List UInt8)(c:Int)(o:List Coef)(ho:o.length<=2000000):
  At Z6 0 (Zk 0 ZL (fun r=>r=Un (KD l.k o) 0 [])) ZM 1 100 [(6,.ptr 0 0),(7,.ptr 1 0),(11,.pv (.int .i64 0)),(12,.pv (.int .i64 0))] [.obj (.box [.pv (.int .i64 0),.pv (.sl 0 true [])]),.obj (.box [.pv (.int .i64 l.k),.row 2 o.length 0 o.length]),.obj (.row false 61 2 (o.map enc))]:=
 a7e l s c o.length ho o.length 0 0 o (by omega) rfl (by omega)
theorem b4x(l:Lin)(s:List UInt8)(c:Int)(hl:l.t.length<=1000000): ∀ (m i:Nat) (p:Bool) (q:Nat) (ts:List Coef),m+i=l.t.length->q=ts.length->(p=false->ts.length<=i)->ts.length<=i+1 ->
  At Z6 0 (Zk 0 ZL (fun r=>r=Un (KD l.k (ts++Xu ⟨s⟩ c p (l.t.drop i))) 0 [])) ZM 0 100 [(1,.pv (.str s)),(2,.pv (.int .i64 c)),(3,.ptr 0 0),(6,.ptr 1 0),(7,.ptr 2 0),(8,.pv (.bool p)),(9,.pv (.int .i64 i))]
   [.obj (.box [.pv (.int .i64 l.k),.pv (enc l.t)]),.obj (.box [.pv (.int .i64 0),.pv (.sl 0 true [])]),.obj (.box [.pv (.int .i64 l.k),.row 3 q 0 q]),.obj (.row false 61 2 (ts.map enc))]:=by
 intro m
 induction m with
 | zero=>
  intro i p q ts hm hq h1 h2
  refine TS l s c p i q ts (Z0 (UJ (by omega)) ?_)
  rw[List.drop_of_length_le (show l.t.length<=i by omega)]
  refine Vu (fun hp=> ?_) fun hp=> ?_
  ·subst hp
   refine⟨by simp[hq];omega,?_⟩
   have h:=Gz l s c (ts++[⟨⟨s⟩,c⟩]) (by simp;omega)
   rw[List.map_append,List.length_append,<- hq]at h
   rw[Xu]
   exact h
  ·subst hp
   have h:=Gz l s c ts (by omega)
   rw[<- hq]at h
   rw[Xu,if_pos rfl,List.append_nil]
   exact h
 | succ m ih=>
  intro i p q ts hm hq h1 h2
  have hlt:i<l.t.length:=by omega
  refine TS l s c p i q ts (ZV (Uj hlt) ⟨ZB hlt rfl,ZY hlt ?_⟩)
  rw[List.drop_eq_getElem_cons hlt,next (by omega)]
  have key : ∀ (p':Bool) (add:List Coef),add.length<=2->(p'=false->(ts++add).length<=i+1)->(ts++add).length<=i+2->ts++Xu ⟨s⟩ c p (l.t[i]::l.t.drop (i+1))=(ts++add)++Xu ⟨s⟩ c p' (l.t.drop (i+1)) ->
    At Z6 0 (Zk 0 ZL (fun r=>r=Un (KD l.k (ts++Xu ⟨s⟩ c p (l.t[i]::l.t.drop (i+1)))) 0 [])) ZM 0 100 [(1,.pv (.str s)),(2,.pv (.int .i64 c)),(3,.ptr 0 0),(6,.ptr 1 0),(7,.ptr 2 0),(8,.pv (.bool p')),(9,.pv (.int .i64 ((i+1:Nat):Int)))]
     [.obj (.box [.pv (.int .i64 l.k),.pv (enc l.t)]),.obj (.box [.pv (.int .i64 0),.pv (.sl 0 true [])]),.obj (.box [.pv (.int .i64 l.k),.row 3 (q+add.length) 0 (q+add.length)]),.obj (.row false 61 2 (ts.map enc++add.map enc))]:=by
   intro p' add h3 h4 h5 h6
   rw[h6,<- List.map_append]
   exact ih (i+1) p' (q+add.length) (ts++add) (by omega) (by simp[hq]) h4 h5
  generalize l.t[i]=y at key ⊢
  obtain⟨⟨yv⟩,yc⟩:=y
  subst hq
  refine Vu (fun hp=> ?_) fun hp=> ?_
  ·subst hp
   have hle:=h1 rfl
   refine Vu (fun hb=> ?_) fun hb=> ?_
   ·have hb:(Op.bytesLess yv s||yv==s)=false:=hb
    have hlt2:s<yv:=by
     simp only[YP,Bool.or_eq_false_iff,decide_eq_false_iff_not,beq_eq_false_iff_ne]at hb
     exact tri hb.1 hb.2
    have hne : ¬ yv=s:=fun e=>by rw[e]at hlt2;exact List.lt_irrefl _ hlt2
    refine⟨by simp;omega,JZ (fun h=>absurd h hne) fun _=>⟨by simp;omega,?_⟩⟩
    have:=key true [⟨⟨s⟩,c⟩,⟨⟨yv⟩,yc⟩] (by simp) (fun h=>by cases h) (by simp;omega) (by rw[Jj,if_pos hlt2];simp)
    rw[List.append_assoc]
    exact this
   ·have hb:(Op.bytesLess yv s||yv==s)=true:=hb
    have hnl : ¬ s<yv:=by
     simp only[YP,Bool.or_eq_true,decide_eq_true_eq,beq_iff_eq]at hb
     rcases hb with h|h
     ·exact List.lt_asymm h
     ·rw[h];exact List.lt_irrefl _
    refine JZ (fun h=> ?_) fun h=> ?_
    ·have h:yv=s:=h
     subst h
     refine⟨by simp;omega,?_⟩
     exact key true [⟨⟨yv⟩,XO (yc+c)⟩] (by simp) (fun h=>by cases h) (by simp;omega) (by rw[Jj,if_neg hnl,if_pos rfl];simp)
    ·have h:yv≠s:=h
     refine⟨by simp;omega,?_⟩
     exact key false [⟨⟨yv⟩,yc⟩] (by simp) (fun _=>by simp;omega) (by simp;omega) (by rw[Jj,if_neg hnl,if_neg (by rw[K5];exact h)];simp)
  ·subst hp
   refine JZ (fun h=> ?_) fun h=> ?_
   ·have h:yv=s:=h
    subst h
    refine⟨by simp;omega,?_⟩
    exact key true [⟨⟨yv⟩,XO (yc+c)⟩] (by simp) (fun h=>by cases h) (by simp;omega) (by rw[a1x,if_pos rfl];simp)
   ·have h:yv≠s:=h
    refine⟨by simp;omega,?_⟩
    exact key true [⟨⟨yv⟩,yc⟩] (by simp) (fun h=>by cases h) (by simp;omega) (by rw[a1x,if_neg (by rw[K5];exact h)];simp)
theorem a2t(l:Lin)(s:List UInt8)(c:Int)(hl:l.t.length<=1000000):Zc Z6 0 (Zk 0 ZL (fun r=>r=Un (XH l ⟨s⟩ c) 0 [])) ZM [] (YD NY [.pv (enc l),.pv (.str s),.pv (enc c)] []):=by
 refine c0m l s c (a5k l s c false 0 ?_)
 show if _ then _ else(if _ then At Z6 0 (Zk 0 ZL (fun r=>r=Un (KD l.k (Xu ⟨s⟩ c false l.t)) 0 [])) _ _ _ _ _ else _)
 by_cases h0:l.t=[]
 ·refine Z0 (by simp[h0]) (ZV rfl ?_)
  have h:=Gz l s c [⟨⟨s⟩,c⟩] (by simp)
  rw[h0,Xu]
  exact h
 ·have hlt:0<l.t.length:=List.length_pos_iff.2 h0
  refine ZV (by simp;omega) ⟨by simp[Enc.sz];omega,ZY hlt ?_⟩
  have ed:l.t=l.t[0]::l.t.drop 1:=by
   have:=List.drop_eq_getElem_cons hlt
   rwa [List.drop_zero]at this
  have key : ∀ (p':Bool) (add:List Coef),add.length<=2->(p'=false->add.length<=1)->Xu ⟨s⟩ c false (l.t[0]::l.t.drop 1)=add++Xu ⟨s⟩ c p' (l.t.drop 1) ->
    At Z6 0 (Zk 0 ZL (fun r=>r=Un (KD l.k (Xu ⟨s⟩ c false l.t)) 0 [])) ZM 0 100 [(1,.pv (.str s)),(2,.pv (.int .i64 c)),(3,.ptr 0 0),(6,.ptr 1 0),(7,.ptr 2 0),(8,.pv (.bool p')),(9,.pv (.int .i64 ((0+1:Nat):Int)))]
     [.obj (.box [.pv (.int .i64 l.k),.pv (enc l.t)]),.obj (.box [.pv (.int .i64 0),.pv (.sl 0 true [])]),.obj (.box [.pv (.int .i64 l.k),.row 3 add.length 0 add.length]),.obj (.row false 61 2 (add.map enc))]:=by
   intro p' add h3 h4 h6
   have h7:Xu ⟨s⟩ c false l.t=add++Xu ⟨s⟩ c p' (l.t.drop 1):=by rw[<- h6,<- ed]
   rw[h7]
   exact b4x l s c hl (l.t.length - 1) (0+1) p' add.length add (by omega) rfl (fun h=>h4 h) (by omega)
  rw[show IntKind.wrap IntKind.i64 (0+1)=((0+1:Nat):Int)from rfl]
  generalize l.t[0]=y at key ⊢
  obtain⟨⟨yv⟩,yc⟩:=y
  refine ZV rfl ?_
  refine Vu (fun hb=> ?_) fun hb=> ?_
  ·have hb:(Op.bytesLess yv s||yv==s)=false:=hb
   have hlt2:s<yv:=by
    simp only[YP,Bool.or_eq_false_iff,decide_eq_false_iff_not,beq_eq_false_iff_ne]at hb
    exact tri hb.1 hb.2
   have hne : ¬ yv=s:=fun e=>by rw[e]at hlt2;exact List.lt_irrefl _ hlt2
   refine JZ (fun h=>absurd h hne) fun _=> ?_
   exact key true [⟨⟨s⟩,c⟩,⟨⟨yv⟩,yc⟩] (by simp) (fun h=>by cases h) (by rw[Jj,if_pos hlt2];simp)
  ·have hb:(Op.bytesLess yv s||yv==s)=true:=hb
   have hnl : ¬ s<yv:=by
    simp only[YP,Bool.or_eq_true,decide_eq_true_eq,beq_iff_eq]at hb
    rcases hb with h|h
    ·exact List.lt_asymm h
    ·rw[h];exact List.lt_irrefl _
   refine JZ (fun h=> ?_) fun h=> ?_
   ·have h:yv=s:=h
    subst h
    exact key true [⟨⟨yv⟩,XO (yc+c)⟩] (by simp) (fun h=>by cases h) (by rw[Jj,if_neg hnl,if_pos rfl];simp)
   ·have h:yv≠s:=h
    exact key false [⟨⟨yv⟩,yc⟩] (by simp) (fun _=>by simp) (by rw[Jj,if_neg hnl,if_neg (by rw[K5];exact h)];simp)
theorem a5s: ∀ args os,UC args os=true->Zc Z6 os.length (Zk os.length ZL fun r=>r=UE args os) ZM [] (YD NY args os):=by
 intro args os h
 unfold UC at h
 split at h
 ·rename_i l s c
  simp only[Bool.and_eq_true,decide_eq_true_eq]at h
  obtain⟨hl,h1⟩:=h
  obtain⟨l,rfl⟩:=Ym hl
  rw[Enc.dec_enc]at h1
  have ev:UE [.pv (enc l),.pv (.str s),.pv (.int .i64 c)] []=Un (XH l ⟨s⟩ c) 0 []:=by
   show Un (XH (dec (enc l:PV)) ⟨s⟩ c) 0 []=_
   rw[Enc.dec_enc]
  rw[ev]
  exact a2t l s c h1
 ·cases h
end Go.Pl

namespace Go.Pl
open Go.RowKit
open Enc (enc dec is)
open EncL (encL decL isL)
theorem c0w(r:LR):MS r.k r.w (r.ts.map enc)=r.view:=by
 unfold MS
 rw[show(dec (PV.sl 2 false (r.ts.map enc)):List Coef)=r.ts from Enc.dec_enc r.ts]
 rfl
theorem b9b(ts:List Coef):XX (List Coef) (.sl 2 false (ts.map enc))=true:=ZI (α:=List Coef) ts
def b1o(k:Int)(o:LR)(t:Coef):LR:=XH o.view t.v (XO (k*t.c))
theorem c0r(l:Lin)(s:Str)(c:Int):(XH l s c).w<=(XH l s c).ts.length∧(XH l s c).w<=l.t.length+1:=by
 have h1:=c6p l.k (Xu s c false l.t)
 have h2:=b3q l.k (Xu s c false l.t)
 have h3:=Di s c l.t
 exact⟨by show(KD _ _).w<=(KD _ _).ts.length;omega,by show(KD _ _).w<=_;omega⟩
theorem Fe(l x:Lin)(k:Int)(hx:x.t.length<=500000): ∀ (m i:Nat) (r:LR),m+i=x.t.length->r.w<=r.ts.length->r.w<=500000+i ->
  At Uh 0 (Zk 0 WZ (fun z=>z=Un ((x.t.drop i).foldl (b1o k) r) 0 [])) WT 0 45 [(2,.pv (.int .i64 k)),(4,.ptr 0 0),(6,.ptr 1 0),(7,.ptr 2 0),(8,.pv (.int .i64 i))] [.obj (.box [.pv (.int .i64 x.k),.pv (enc x.t)]),.obj (.box [.pv (.int .i64 0),.pv (.sl 0 true [])]),.obj (.box [.pv (.int .i64 r.k),.row 3 r.ts.length 0 r.w]),.obj (.row false 61 2 (r.ts.map enc))]:=by
 intro m
 induction m with
 | zero=>
  intro i r hi hw ho
  refine Si l x k r.k r.ts.length r.w r.ts i (Z0 (UJ (by omega)) ?_)
  rw[List.drop_of_length_le (show x.t.length<=i by omega)]
  rfl
 | succ m ih=>
  intro i r hi hw ho
  have hlt:i<x.t.length:=by omega
  refine Si l x k r.k r.ts.length r.w r.ts i (ZV (Uj hlt) ⟨ZB hlt rfl,ZY hlt ⟨ZB hlt rfl,ZY hlt ⟨?_,?_⟩⟩⟩)
  ·show(XX (List Coef) (.sl 2 false (r.ts.map enc))&&(r.ts.map (enc:Coef->PV)).length==r.ts.length&&decide (r.w<=r.ts.length)&&decide (r.w<=1000000))=true
   rw[b9b,List.length_map,decide_eq_true hw,decide_eq_true (show r.w<=1000000 by omega)]
   simp
  ·rw[c0w,List.drop_eq_getElem_cons hlt,List.foldl_cons,next (by omega)]
   have hp:=c0r r.view x.t[i].v (XO (k*x.t[i].c))
   have hv:r.view.t.length<=r.w:=by show(r.ts.take r.w).length<=_;simp;omega
   exact ih (i+1) (b1o k r x.t[i]) (by omega) hp.1 (by have:=hp.2;show(XH r.view x.t[i].v (XO (k*x.t[i].c))).w<=_;omega)
theorem El(l x:Lin)(k:Int)(hl:l.t.length<=500000)(hx:x.t.length<=500000):Zc Uh 0 (Zk 0 WZ (fun z=>z=Un (Q5 l x k) 0 [])) WT [] (YD TI [.pv (enc l),.pv (enc x),.pv (enc k)] []):=by
 refine b6f l x k ⟨by simp[Enc.sz],by simp;omega,?_⟩
 have hq:(0+List.length (List.map (enc:Coef->PV) l.t))=l.t.length:=by simp
 rw[hq,List.nil_append]
 have h:=Fe l x k hx x.t.length 0 ⟨XO (l.k+XO (k*x.k)),l.t.length,l.t⟩ (by omega) (Nat.le_refl _) (by show l.t.length<=_;omega)
 exact h
theorem Eh: ∀ args os,Ke args os=true->Zc Uh os.length (Zk os.length WZ fun r=>r=Je args os) WT [] (YD TI args os):=by
 intro args os h
 unfold Ke at h
 split at h
 ·rename_i l x k
  simp only[Bool.and_eq_true,decide_eq_true_eq]at h
  obtain⟨⟨⟨hl,hx⟩,h1⟩,h2⟩:=h
  obtain⟨l,rfl⟩:=Ym hl
  obtain⟨x,rfl⟩:=Ym hx
  rw[Enc.dec_enc]at h1 h2
  have ev:Je [.pv (enc l),.pv (enc x),.pv (.int .i64 k)] []=Un (Q5 l x k) 0 []:=by
   show Un (Q5 (dec (enc l:PV)) (dec (enc x:PV)) k) 0 []=_
   rw[Enc.dec_enc,Enc.dec_enc]
  rw[ev]
  exact El l x k h1 h2
 ·cases h
theorem UX.rfl(ps:List PV):UX ps ps:=⟨Eq.refl _,fun j x y hx hy Φ v h=>by rw[hx]at hy;cases hy;exact h⟩
theorem b8a{pre:List AV->List AObj->Bool}{val:List AV->List AObj->AV×List AObj×List AObj}{a b c:PV}{r:LR}{o:AObj}(h1:pre [.pv a,.pv b,.pv c] []=true)(h2:val [.pv a,.pv b,.pv c] []=Un r 0 []):
  (Gl 1 pre val [.pv a,.pv b,.pv c]).run [.obj o,.fresh]=some (r.av 1,[.obj o,.obj r.ob]):=by
 have H : ∀ (t:Bool) (v:AV×List AObj×List AObj),t=true->v=Un r 0 []->(HM.req t (match v with
   | (x,os,ext)=>match x.ren (EA [] 1),Qt (EA [] 1) os,Qt (EA [] 1) ext with
    | some x',some os',some ext'=>if os'.length=([]:List Nat).length then BG (([]:List Nat).zip os') (BS 1 ext' (.ret x'))else .fail
    | _,_,_=>.fail)).run [.obj o,.fresh]=some (r.av 1,[.obj o,.obj r.ob]):=by
  rintro _ _ rfl rfl
  rfl
 exact H _ _ h1 h2
theorem b1x(fz:Bool)(ty:Nat)(xs:List PV)(r:LR):Gb 1 (Qi 256 (List.range 1++Km [r.av 1]) [] [.obj (.row fz ty 2 xs),.obj r.ob]) [r.av 1] [.obj (.row fz ty 2 xs),.obj r.ob]=some ([r.av 1],[.row fz ty 2 xs,r.ob]):=by
 obtain⟨k,w,ts⟩:=r
 rfl
theorem a3z{P:Program}{f:Nat}(h:ZU P f UC UE):ZU P f Qy Ja:=by
 refine ZU.thaw h fun args os hp=> ?_
 unfold Qy at hp
 split at hp
 ·rename_i k q w s c fz ty xs
  simp only[Bool.and_eq_true,decide_eq_true_eq,beq_iff_eq]at hp
  obtain⟨⟨⟨hc,hq⟩,hw⟩,hw2⟩:=hp
  obtain⟨ts,e⟩:=Ym hc
  have e:xs=ts.map enc:=by cases e;rfl
  subst e
  have hq:ts.length=q:=by simpa using hq
  subst hq
  have ed:(dec (PV.sl 2 false (ts.map enc)):List Coef)=ts:=Enc.dec_enc ts
  have ev:Ja [.agg [.pv (.int .i64 k),.row 0 ts.length 0 w],.pv (.str s),.pv (.int .i64 c)] [.row fz ty 2 (ts.map enc)]=Un (XH ⟨k,ts.take w⟩ ⟨s⟩ c) 1 [.row true ty 2 (ts.map enc)]:=by
   show Un (XH ⟨k,List.take w (dec (PV.sl 2 false (ts.map enc)):List Coef)⟩ ⟨s⟩ c) 1 _=_
   rw[ed]
  rw[ev]
  have e2:(.sl 2 false (List.drop 0 (List.take w (List.map (enc:Coef->PV) ts))):PV)=enc (ts.take w):=by rw[List.drop_zero,<- List.map_take];rfl
  have hcan:UC [.pv (.agg [.int .i64 k,.sl 2 false (List.drop 0 (List.take w (List.map (enc:Coef->PV) ts)))]),.pv (.str s),.pv (.int .i64 c)] []=true:=by
   rw[e2]
   show(XX Lin (enc (⟨k,ts.take w⟩:Lin))&&decide ((dec (enc (⟨k,ts.take w⟩:Lin):PV):Lin).t.length<=1000000))=true
   rw[ZI,Enc.dec_enc]
   simp;omega
  have hval:UE [.pv (.agg [.int .i64 k,.sl 2 false (List.drop 0 (List.take w (List.map (enc:Coef->PV) ts)))]),.pv (.str s),.pv (.int .i64 c)] []=Un (XH ⟨k,ts.take w⟩ ⟨s⟩ c) 0 []:=by
   rw[e2]
   show Un (XH (dec (enc (⟨k,ts.take w⟩:Lin):PV)) ⟨s⟩ c) 0 []=_
   rw[Enc.dec_enc]
  generalize XH ⟨k,ts.take w⟩ ⟨s⟩ c=r at hval ⊢
  generalize hsl:List.drop 0 (List.take w (List.map (enc:Coef->PV) ts))=sl at hcan hval
  have hl:(List.map (enc:Coef->PV) ts).length=ts.length:=by simp
  generalize List.map (enc:Coef->PV) ts=xs at hl hsl ⊢
  rw[<- hl]
  refine⟨1,[.agg [.int .i64 k,.sl 2 false sl],.str s,.int .i64 c],[.agg [.int .i64 k,.sl 2 false sl],.str s,.int .i64 c],[.obj (.row true ty 2 xs),.fresh],r.av 1,[.obj (.row true ty 2 xs),.obj r.ob],r.av 1,[.row true ty 2 xs,r.ob],UX.rfl _,?_,?_,?_,rfl⟩
  ·subst hsl
   simp[Uf,frz,HM.bind,HM.run,YE,HM.req]
   done
  ·exact b8a hcan hval
  ·exact b1x true ty xs r
 ·cases hp
theorem LR.frz_av(r:LR):(frz (r.av 0)).run (YE [r.ob])=some (enc r.view,[.obj (.row true 61 2 (r.ts.map enc))]):=by
 have:(PV.agg [.int .i64 r.k,.sl 2 false (List.drop 0 (List.take r.w (r.ts.map enc)))])=enc r.view:=by
  rw[List.drop_zero,<- List.map_take];rfl
 rw[<- this]
 simp[frz,Uf,HM.bind,HM.run,YE,LR.av,LR.ob]
theorem a3l{P:Program}{f:Nat}(h:ZU P f UC UE):Zr P f (fun x:Lin×Str×Int×Unit=>decide (x.1.t.length<=1000000)) (fun x:Lin×Str×Int×Unit=>WW x.1 x.2.1 x.2.2.1):=Zr.of_own h fun a ha=>by
 obtain⟨l,⟨s⟩,c,⟨⟩⟩:=a
 have ha:l.t.length<=1000000:=by simpa using ha
 refine⟨(XH l ⟨s⟩ c).av 0,[(XH l ⟨s⟩ c).ob],_,_,?_,?_,LR.frz_av _,?_⟩
 ·show(XX Lin (enc l)&&decide ((dec (enc l:PV):Lin).t.length<=1000000))=true
  rw[ZI,Enc.dec_enc,decide_eq_true ha];rfl
 ·show Un (XH (dec (enc l:PV)) ⟨s⟩ c) 0 []=_
  rw[Enc.dec_enc];rfl
 ·rw[AQ];exact .refl _
theorem Oh{P:Program}{f:Nat}(h:ZU P f Ke Je):Zr P f (fun x:Lin×Lin×Int×Unit=>decide (x.1.t.length<=500000)&&decide (x.2.1.t.length<=500000)) (fun x:Lin×Lin×Int×Unit=>Vm x.1 x.2.1 x.2.2.1):=Zr.of_own h fun a ha=>by
 obtain⟨l,x,k,⟨⟩⟩:=a
 have ha:l.t.length<=500000∧x.t.length<=500000:=by simpa using ha
 refine⟨(Q5 l x k).av 0,[(Q5 l x k).ob],_,_,?_,?_,LR.frz_av _,?_⟩
 ·show(XX Lin (enc l)&&XX Lin (enc x)&&decide ((dec (enc l:PV):Lin).t.length<=500000)&&decide ((dec (enc x:PV):Lin).t.length<=500000))=true
  rw[ZI,ZI,Enc.dec_enc,Enc.dec_enc,decide_eq_true ha.1,decide_eq_true ha.2];rfl
 ·show Un (Q5 (dec (enc l:PV)) (dec (enc x:PV)) k) 0 []=_
  rw[Enc.dec_enc,Enc.dec_enc];rfl
 ·rw[MC];exact .refl _
end Go.Pl

namespace Go.Pl
open Go.RowKit
open Enc (enc dec is)
open EncL (encL decL isL)
structure BoxT where
 v:List Str
 m:Int
 deriving DecidableEq
instance:Enc BoxT where
 sz:=2
 enc x:=.agg [enc x.v,enc x.m]
 dec | .agg [a,b]=>⟨dec a,dec b⟩|_=>⟨[],0⟩
 is | .agg [a,b]=>is (List Str) a&&is Int b|_=>false
 is_enc v:=by simp
 dec_enc v:=by simp
 sub p h:=by
  cases p with
  | agg xs=>
   match xs,h with
   | [a,b],h=>
    simp only[Bool.and_eq_true]at h
    exact .agg (.cons (Enc.sub a h.1).2 (.cons (Enc.sub b h.2).2 .nil))
  | _=>cases h
@[simp] theorem c8q (a b : PV) : is BoxT (.agg [a, b]) = (is (List Str) a && is Int b) := rfl
@[simp] theorem c8h (a b : PV) : (dec (.agg [a, b]) : BoxT) = ⟨dec a, dec b⟩ := rfl
structure Mono where
 c:Int
 v:List Str
 deriving DecidableEq
instance:Enc Mono where
 sz:=2
 enc x:=.agg [enc x.c,enc x.v]
 dec | .agg [a,b]=>⟨dec a,dec b⟩|_=>⟨0,[]⟩
 is | .agg [a,b]=>is Int a&&is (List Str) b|_=>false
 is_enc v:=by simp
 dec_enc v:=by simp
 sub p h:=by
  cases p with
  | agg xs=>
   match xs,h with
   | [a,b],h=>
    simp only[Bool.and_eq_true]at h
    exact .agg (.cons (Enc.sub a h.1).2 (.cons (Enc.sub b h.2).2 .nil))
  | _=>cases h
@[simp] theorem c8u (a b : PV) : is Mono (.agg [a, b]) = (is Int a && is (List Str) b) := rfl
@[simp] theorem c6z (a b : PV) : (dec (.agg [a, b]) : Mono) = ⟨dec a, dec b⟩ := rfl
structure NilS where
 deriving DecidableEq
instance:Enc NilS where
 sz:=1
 enc _:=.sl 0 true []
 dec _:=⟨⟩
 is | .sl 0 true []=>true|_=>false
 is_enc _:=rfl
 dec_enc _:=rfl
 sub p h:=by
  cases p with
  | sl s t xs=>
   cases xs with
   | nil=>cases s with
    | zero=>cases t with
     | true=>exact .refl _
     | false=>cases h
    | succ s=>cases h
   | cons x xs=>cases s <;> cases t <;> cases h
  | _=>cases h
def Zx{α:Type}(l:List α):Bool:=decide (l.length<=9223372036854775807)
def WF(l:List Str):Bool:=Zx l&&l.all fun s=>decide (s.s.length<=281474976710656)
def ZT(b:BoxT):Bool:=WF b.v
def Jw(m:Int):List Str->Int->Option Int
 | [],n=>some n
 | _::r,n=>if n*(m+1)>20000 then none else Jw m r (n*(m+1))
def Xy(b:BoxT):Bool:=b.v.all ZA&&decide b.v.Nodup&&(b.v.isEmpty||decide (b.m<20000))&&decide (0<=b.m)&&(Jw b.m b.v 1).isSome
def Zd(vs:List Str)(p:List Int):List Coef:=List.zipWith (fun v n=>⟨v,n⟩) vs p
def Ze(l:Lin):List Str:=l.t.map (·.v)
def Gj(vs:List Str)(ns:List Str):Bool:=ns.all fun s=>vs.contains s
def Zo(b:BoxT)(fs:List Fact)(ok:Bool)(ns:List Str):Int:=
 if !Xy b || !XN fs || !ok then 1 else if Gj b.v (ns++fs.flatMap fun f=>Ze f.l)then 0 else 7
def Wv(m:Int):Nat->List Int->Option (List Int)
 | 0,_=>none
 | k+1,p=>if p.getD k 0=m then Wv m k (p.set k 0)else some (p.set k (p.getD k 0+1))
def DK(m:Int)(p:List Int):Option (List Int):=Wv m p.length p
def walkP(m:Int):Nat->List Int->List (List Int)
 | 0,_=>[]
 | f+1,p=>p::(match DK m p with|none=>[]|some q=>walkP m f q)
def Uo(vs:List Str):List Int:=vs.map fun _=>0
def c4x(b:BoxT):List (List Int):=walkP b.m 20001 (Uo b.v)
def VM(vs:List Str)(fs:List Fact)(p:List Int):Bool:=fs.all fun f=>YW f (Zd vs p)
def ZR(b:BoxT)(fs:List Fact):List (List Int):=(c4x b).filter (VM b.v fs)
def Xd(b:BoxT)(fs:List Fact):List (List Int)×Int:=if Zo b fs true []=0 then(ZR b fs,0)else([],Zo b fs true [])
def Dl(b:BoxT)(fs:List Fact):Int×Int:=(((Xd b fs).1.length:Int),(Xd b fs).2)
def KX:List AV->List AObj->Bool
 | [.pv (.str s),.ptr 0 0],[.box [.pv v,.pv (.int .i64 m)]]=>XX (List Str) v&&Zx (dec v:List Str)
 | _,_=>false
def Cn:List AV->List AObj->AV×List AObj×List AObj
 | [.pv (.str s),_],[.box [.pv v,.pv (.int .i64 m)]]=>(.pv (.bool (!((dec v:List Str).contains ⟨s⟩))),[.box [.pv v,.pv (.int .i64 m)]],[])
 | _,_=>Wz
def QZ(xs:List PV):List Str:=dec (.sl 1 false xs)
def Am(n m:Nat)(xs:List PV):Bool:=m==n&&xs.length==n&&XX (List Str) (.sl 1 false xs)&&Zx (QZ xs)
def X9(g:Nat):List AV->List AObj->Bool
 | [.row 0 n 0 m,.fn g' [] [.ptr 1 0]],[.row false ty 1 xs,.box [.pv v,.pv (.int .i64 k)]]=>g'==g&&ty==9&&Am n m xs&&XX (List Str) v&&Zx (dec v:List Str)
 | [.pv (.sl 0 true []),.fn g' [] [.ptr 0 0]],[.box [.pv v,.pv (.int .i64 k)]]=>g'==g&&XX (List Str) v&&Zx (dec v:List Str)
 | _,_=>false
def Ce:List AV->List AObj->AV×List AObj×List AObj
 | _,[.row fz ty sz xs,.box [.pv v,.pv (.int .i64 k)]]=>(.pv (.int .i64 (Zy (fun s:Str=> !((dec v:List Str).contains s)) (QZ xs))),[.row fz ty sz xs,.box [.pv v,.pv (.int .i64 k)]],[])
 | _,[.box [.pv v,.pv (.int .i64 k)]]=>(.pv (.int .i64 (-1)),[.box [.pv v,.pv (.int .i64 k)]],[])
 | _,_=>Wz
def PW:List AV->List AObj->AV×List AObj×List AObj
 | _,[.row fz ty sz xs,.box [.pv v,.pv (.int .i64 k)]]=>(.pv (.bool ((QZ xs).any fun s=> !((dec v:List Str).contains s))),[.row fz ty sz xs,.box [.pv v,.pv (.int .i64 k)]],[])
 | _,[.box [.pv v,.pv (.int .i64 k)]]=>(.pv (.bool false),[.box [.pv v,.pv (.int .i64 k)]],[])
 | _,_=>Wz
def Ux:List AV->List AObj->Bool
 | [.pv a],[]=>XX Lin a&& !(dec a:Lin).t.isEmpty&&decide ((dec a:Lin).t.length<=1000000)
 | _,_=>false
def Ku(ns:List Str):AV×List AObj×List AObj:=(.row 0 ns.length 0 ns.length,[],[.row false 9 1 (ns.map enc)])
def D7(p:PV):Lin:=dec p
def QW:List AV->List AObj->AV×List AObj×List AObj
 | [.pv a],_=>Ku (Ze (D7 a))
 | _,_=>Wz
def Uw:List AV->List AObj->Bool
 | [.pv a],[]=>XX Lin a&&(dec a:Lin).t.isEmpty
 | _,_=>false
def KY:List AV->List AObj->AV×List AObj×List AObj:=fun _ _=>(.pv (.sl 0 true []),[],[])
def WN:List AV->List AObj->Bool
 | [.pv b,.pv f,.pv (.bool ok),.row 0 n 0 m],[.row false ty 1 xs]=>XX BoxT b&&XX (List Fact) f&&ty==9&&Am n m xs&&decide (n<=1000)&& !xs.isEmpty&&ZT (dec b)&&Zp (dec f)&&decide ((dec f:List Fact).length<=100)&&decide (xs.length<=1000)
 | _,_=>false
def Rx(p:PV):BoxT:=dec p
def Hy(p:PV):List Fact:=dec p
def ckV(b:BoxT)(fs:List Fact)(ok:Bool)(ns:List Str):List Str:=if !Xy b || !XN fs || !ok then ns else ns++fs.flatMap fun f=>Ze f.l
def Uy:List AV->List AObj->AV×List AObj×List AObj
 | [.pv b,.pv f,.pv (.bool ok),_],[.row fz ty sz xs]=>(.pv (.int .i64 (Zo (Rx b) (Hy f) ok (QZ xs))),[.row false ty sz ((ckV (Rx b) (Hy f) ok (QZ xs)).map enc)],[])
 | _,_=>Wz
def Yx:List AV->List AObj->Bool
 | [.pv (.agg [v,.int .i64 m]),.pv f],[]=>XX (List Str) v&&XX (List Fact) f
 | _,_=>false
def Xm:List AV->List AObj->AV×List AObj×List AObj
 | [.pv (.agg [v,.int .i64 m]),.pv f],_=>(.fn 177 [] [.ptr 0 0,.ptr 1 0],[],[.box [.pv v,.pv (.int .i64 m)],.box [.pv f]])
 | _,_=>Wz
def a7s(xs:List PV):List Int:=dec (.sl 1 false xs)
def Kh:List AV->List AObj->Bool
 | [.pv (.agg [v,.int .i64 k]),.row 0 n 0 m],[.row false ty 1 xs]=>m==n&&xs.length==n&&ty==3&&XX (List Int) (.sl 1 false xs)&&XX (List Str) v&&decide ((dec v:List Str).length<=1000)&&decide (n<=1000)
 | _,_=>false
def KT:List AV->List AObj->AV×List AObj×List AObj
 | [.pv (.agg [v,.int .i64 k]),_],[.row fz ty sz xs]=>(.pv (.sl 2 false ((Zd (dec v) (a7s xs)).map enc)),[.row false ty sz xs],[])
 | _,_=>Wz
end Go.Pl

namespace Go.Pl
open Go.RowKit
open Enc (enc dec is)
open EncL (encL decL isL)
set_option maxRecDepth 100000
def VA:IC:=(.seq (.reg [⟨(some 4),(.mv (.c (.int .i64 0))),0,none⟩] none) (.seq (.seq (.reg [⟨(some 6),(.mv (.t 0)),0,none⟩,⟨(some 7),(.len 1 (.t 6)),0,none⟩,⟨(some 8),(.mv (.c (.int .i64 0))),0,none⟩] none) (.block 0 (.loop [8,7,1,0] (.seq (.reg [⟨(some 9),(.bin .num .lss (.t 8) (.t 7)),0,none⟩] none) (.seq (.cond (.t 9) .skip (.exit 0)) (.seq (.block 1 (.seq (.reg [⟨(some 10),(.mv (.t 8)),0,none⟩,⟨(some 5),(.mv (.t 10)),0,none⟩] none) (.seq (.reg [⟨(some 11),(.mv (.t 1)),0,none⟩,⟨(some 12),(.mv (.t 0)),0,none⟩,⟨(some 13),(.mv (.t 5)),0,none⟩,⟨(some 14),(.iaddr 1 (.t 12) (.t 13)),0,none⟩,⟨(some 15),(.load false [.str] (.t 14)),0,none⟩,⟨(some 16),(.bin .num .eql (.t 11) (.t 15)),0,none⟩] none) (.cond (.t 16) (.seq (.reg [⟨(some 17),(.mv (.t 5)),0,none⟩,⟨(some 4),(.mv (.t 17)),0,none⟩] none) .ret) .skip)))) (.reg [⟨(some 18),(.bin .num .add (.t 8) (.c (.int .i64 1))),0,none⟩,⟨(some 8),(.mv (.t 18)),0,none⟩] none))))))) (.seq (.reg [⟨(some 4),(.mv (.c (.int .i64 (-1)))),0,none⟩] none) .ret)))
def VF:List IRes:=[(.tmp 4)]
abbrev a6p:Nat:=19
def UQ:ZE:=Xg []
theorem b3h{G:PV->Prop}(l:List Str)(s:List UInt8)(h:At UQ 0 (Za VF G) VA 0 19 [(0,(.pv (.sl 1 false (List.map enc l)))),(1,(.pv (.str s))),(7,(.pv (.int .i64 (↑(List.length (List.map enc l)):Int)))),(8,(.pv (.int .i64 0)))] []):Zc UQ 0 (Za VF G) VA [] (Yz 19 [enc l,.str s]):=Zc.tp (.nil) h (by kernel_rfl)
theorem Td{G:PV->Prop}(l:List Str)(s:List UInt8)(i:Int)(h:if (decide (i<(↑(List.length l):Int)))=true then(decide (0<=i)&&decide (Int.toNat i<List.length (List.map enc l))&&Enc.sz Str==1)=true∧(∃ y0:Str,AV.pv (PV.rptr (PV.cells (List.getD (List.map enc l) (Int.toNat i) default)))=AV.pv (PV.rptr (PV.cells ((enc) y0)))∧(if (s==PV.asStr (List.getD (PV.cells (enc y0)) 0 default))=true then G ((.int .i64 i))else(At UQ 0 (Za VF G) VA 0 19 [(0,(.pv (.sl 1 false (List.map enc l)))),(1,(.pv (.str s))),(7,(.pv (.int .i64 (↑(List.length l):Int)))),(8,(.pv (.int .i64 (IntKind.wrap IntKind.i64 (i+1)))))] [])))else(G ((.int .i64 (-1))))):At UQ 0 (Za VF G) VA 0 19 [(0,.pv (enc l)),(1,.pv (.str s)),(7,.pv (.int .i64 l.length)),(8,.pv (.int .i64 i))] []:=At.tp (.lit (.ask (.req (.abs (Str) (fun YY=>AV.pv (PV.rptr (PV.cells ((enc) YY)))) (.lit (.lit (.ask (.nil) (.lit (.nil))))))) (.nil))) h (by kernel_rfl)
def Bd:IC:=(.seq (.reg [⟨(some 4),(.mv (.c (.bool false))),0,none⟩] none) (.seq (.reg [⟨(some 5),(.mv (.t 0)),0,none⟩,⟨(some 6),(.mv (.t 1)),0,none⟩,⟨(some 7),(.call (.c (.fn 183)) [(.t 5),(.t 6)]),0,none⟩,⟨(some 8),(.bin .num .geq (.t 7) (.c (.int .i64 0))),2,none⟩,⟨(some 4),(.mv (.t 8)),2,none⟩] none) .ret))
def Ap:List IRes:=[(.tmp 4)]
abbrev a8r:Nat:=9
def Pg:ZE:=Xg [(183,.pure (preT (fun x:List Str×Str×Unit=>Zx x.1)) (Zf (fun x:List Str×Str×Unit=>Zy (fun s:Str=>decide (s=x.2.1)) x.1)))]
theorem c0i{G:PV->Prop}(l:List Str)(s:List UInt8)(h:(Go.Pl.preT (fun(x:List Str×Str×Unit)=>Zx x.1) [(.sl 1 false (List.map enc l)),(.str s)])=true∧(∃ y0:Int,AV.pv (Zf (fun(x:List Str×Str×Unit)=>Zy (fun(s:Str)=>decide (s=x.2.1)) x.1) [(.sl 1 false (List.map enc l)),(.str s)])=AV.pv (enc y0)∧(G ((.bool (decide (y0 ≥ 0))))))):Zc Pg 0 (Za Ap G) Bd [] (Yz 9 [enc l,.str s]):=Zc.tp (.req (.abs (Int) (fun YY=>AV.pv (enc YY)) (.lit (.nil)))) h (by kernel_rfl)
def VC:IC:=(.seq (.reg [⟨(some 1),(.box 2 (.t 0)),0,none⟩,⟨(some 2),(.mv (.c (.bool false))),1,none⟩] none) (.seq (.reg [⟨(some 3),(.mv (.c (.int .i64 1))),0,none⟩] none) (.seq (.seq (.reg [⟨(some 6),(.faddr 0 (.t 1)),0,none⟩,⟨(some 7),(.load false [(.sl 1)] (.t 6)),0,none⟩,⟨(some 8),(.len 1 (.t 7)),0,none⟩,⟨(some 9),(.mv (.c (.int .i64 0))),0,none⟩] none) (.block 0 (.loop [9,8,7,1,3] (.seq (.reg [⟨(some 10),(.bin .num .lss (.t 9) (.t 8)),0,none⟩] none) (.seq (.cond (.t 10) .skip (.exit 0)) (.seq (.block 1 (.seq (.reg [⟨(some 11),(.mv (.t 9)),0,none⟩,⟨(some 12),(.iaddr 1 (.t 7) (.t 9)),0,none⟩,⟨(some 13),(.load false [.str] (.t 12)),0,none⟩,⟨(some 4),(.mv (.t 11)),0,none⟩,⟨(some 5),(.mv (.t 13)),0,none⟩] none) (.seq (.seq (.reg [⟨(some 14),(.mv (.t 5)),0,none⟩,⟨(some 15),(.call (.c (.fn 119)) [(.t 14)]),0,none⟩,⟨(some 16),(.un .not (.t 15)),2,none⟩,⟨(some 17),(.mv (.t 16)),2,none⟩,⟨(some 18),(.faddr 0 (.t 1)),2,(some (17,false))⟩,⟨(some 19),(.load false [(.sl 1)] (.t 18)),2,(some (17,false))⟩,⟨(some 20),(.mv (.t 4)),2,(some (17,false))⟩,⟨(some 21),(.slc 1 (.t 19) none (some (.t 20)) none),2,(some (17,false))⟩,⟨(some 22),(.mv (.t 5)),2,(some (17,false))⟩,⟨(some 23),(.call (.c (.fn 120)) [(.t 21),(.t 22)]),2,(some (17,false))⟩,⟨(some 24),(.pick (.t 17) (.c (.bool true)) (.t 23)),4,none⟩,⟨(some 25),(.mv (.t 24)),4,none⟩,⟨(some 26),(.faddr 1 (.t 1)),4,(some (25,false))⟩,⟨(some 27),(.load false [(.int .i64)] (.t 26)),4,(some (25,false))⟩,⟨(some 28),(.bin .num .lss (.t 27) (.c (.int .i64 0))),4,(some (25,false))⟩,⟨(some 29),(.pick (.t 25) (.c (.bool true)) (.t 28)),4,none⟩,⟨(some 30),(.mv (.t 29)),4,none⟩,⟨(some 31),(.faddr 1 (.t 1)),4,(some (30,false))⟩,⟨(some 32),(.load false [(.int .i64)] (.t 31)),4,(some (30,false))⟩,⟨(some 33),(.bin .num .geq (.t 32) (.c (.int .i64 20000))),4,(some (30,false))⟩,⟨(some 34),(.pick (.t 30) (.c (.bool true)) (.t 33)),4,none⟩] none) (.cond (.t 34) (.seq (.reg [⟨(some 2),(.mv (.c (.bool false))),0,none⟩] none) .ret) .skip)) (.seq (.reg [⟨(some 35),(.mv (.t 3)),0,none⟩,⟨(some 36),(.faddr 1 (.t 1)),0,none⟩,⟨(some 37),(.load false [(.int .i64)] (.t 36)),0,none⟩,⟨(some 38),(.bin .num .add (.t 37) (.c (.int .i64 1))),0,none⟩,⟨(some 39),(.bin .num .mul (.t 35) (.t 38)),0,none⟩,⟨(some 3),(.mv (.t 39)),0,none⟩] none) (.seq (.reg [⟨(some 40),(.mv (.t 3)),0,none⟩,⟨(some 41),(.bin .num .gtr (.t 40) (.c (.int .i64 20000))),0,none⟩] none) (.cond (.t 41) (.seq (.reg [⟨(some 2),(.mv (.c (.bool false))),0,none⟩] none) .ret) .skip)))))) (.reg [⟨(some 42),(.bin .num .add (.t 9) (.c (.int .i64 1))),0,none⟩,⟨(some 9),(.mv (.t 42)),0,none⟩] none))))))) (.seq (.reg [⟨(some 43),(.faddr 1 (.t 1)),0,none⟩,⟨(some 44),(.load false [(.int .i64)] (.t 43)),0,none⟩,⟨(some 45),(.bin .num .geq (.t 44) (.c (.int .i64 0))),0,none⟩,⟨(some 2),(.mv (.t 45)),0,none⟩] none) .ret))))
def VK:List IRes:=[(.tmp 2)]
abbrev a5a:Nat:=46
def UT:ZE:=Xg [(119,.pure (preT (fun x:Str×Unit=>decide (x.1.s.length<=281474976710656))) (Zf (fun x:Str×Unit=>ZA x.1))),(120,.pure (preT (fun x:List Str×Str×Unit=>Zx x.1)) (Zf (fun x:List Str×Str×Unit=>x.1.contains x.2.1)))]
theorem a8c{G:PV->Prop}(b:BoxT)(h:At UT 0 (Za VK G) VC 0 46 [(1,(.ptr 0 0)),(3,(.pv (.int .i64 1))),(7,(.pv (.sl 1 false (List.map enc b.v)))),(8,(.pv (.int .i64 (↑(List.length (List.map enc b.v)):Int)))),(9,(.pv (.int .i64 0)))] [(.obj (.box [(.pv (.sl 1 false (List.map enc b.v))),(.pv (.int .i64 b.m))]))]):Zc UT 0 (Za VK G) VC [] (Yz 46 [enc b]):=Zc.tp (.nil) h (by kernel_rfl)
theorem TP{G:PV->Prop}(b:BoxT)(n i:Int)(h:if (decide (i<(↑(List.length b.v):Int)))=true then(decide (0<=i)&&decide (Int.toNat i<List.length (List.map enc b.v))&&Enc.sz Str==1)=true∧(∃ y0:Str,AV.pv (PV.rptr (PV.cells (List.getD (List.map enc b.v) (Int.toNat i) default)))=AV.pv (PV.rptr (PV.cells ((enc) y0)))∧((Go.Pl.preT (fun(x:Str×Unit)=>decide (List.length (Str.s x.1)<=281474976710656)) [(.str (PV.asStr (List.getD (PV.cells (enc y0)) 0 default)))])=true∧(∃ y1:Bool,AV.pv (Zf (fun(x:Str×Unit)=>ZA x.1) [(.str (PV.asStr (List.getD (PV.cells (enc y0)) 0 default)))])=AV.pv (enc y1)∧(if (!y1)=true then G ((.bool false))else((true&&decide (0<=i)&&(List.isEmpty (List.map enc b.v)||Enc.sz Str==1)&&decide (0<=Int.toNat i)&&decide (Int.toNat i<=List.length (List.map enc b.v)))=true∧((Go.Pl.preT (fun(x:List Str×Str×Unit)=>Zx x.1) [(.sl 1 false (List.drop 0 (List.take (Int.toNat i) (List.map enc b.v)))),(.str (PV.asStr (List.getD (PV.cells (enc y0)) 0 default)))])=true∧(∃ y2:Bool,AV.pv (Zf (fun(x:List Str×Str×Unit)=>List.contains x.1 x.2.1) [(.sl 1 false (List.drop 0 (List.take (Int.toNat i) (List.map enc b.v)))),(.str (PV.asStr (List.getD (PV.cells (enc y0)) 0 default)))])=AV.pv (enc y2)∧(if (y2)=true then G ((.bool false))else(if (decide (BoxT.m b<0))=true then G ((.bool false))else(if (decide (BoxT.m b ≥ 20000))=true then G ((.bool false))else(if (decide (IntKind.wrap IntKind.i64 (n*IntKind.wrap IntKind.i64 (BoxT.m b+1))>20000))=true then G ((.bool false))else(At UT 0 (Za VK G) VC 0 46 [(1,(.ptr 0 0)),(3,(.pv (.int .i64 (IntKind.wrap IntKind.i64 (n*IntKind.wrap IntKind.i64 (BoxT.m b+1)))))),(7,(.pv (.sl 1 false (List.map enc b.v)))),(8,(.pv (.int .i64 (↑(List.length b.v):Int)))),(9,(.pv (.int .i64 (IntKind.wrap IntKind.i64 (i+1)))))] [(.obj (.box [(.pv (.sl 1 false (List.map enc b.v))),(.pv (.int .i64 b.m))]))]))))))))))))else(G ((.bool (decide (BoxT.m b ≥ 0)))))):At UT 0 (Za VK G) VC 0 46 [(1,.ptr 0 0),(3,.pv (.int .i64 n)),(7,.pv (enc b.v)),(8,.pv (.int .i64 b.v.length)),(9,.pv (.int .i64 i))] [.obj (.box [.pv (enc b.v),.pv (.int .i64 b.m)])]:=At.tp (.lit (.ask (.req (.abs (Str) (fun YY=>AV.pv (PV.rptr (PV.cells ((enc) YY)))) (.lit (.req (.abs (Bool) (fun YY=>AV.pv (enc YY)) (.ask (.lit (.lit (.lit (.lit (.lit (.lit (.lit (.lit (.lit (.lit (.lit (.lit (.lit (.lit (.lit (.nil)))))))))))))))) (.lit (.lit (.lit (.req (.lit (.lit (.req (.abs (Bool) (fun YY=>AV.pv (enc YY)) (.lit (.ask (.lit (.lit (.lit (.lit (.lit (.lit (.lit (.lit (.nil))))))))) (.lit (.lit (.lit (.lit (.ask (.lit (.lit (.lit (.lit (.nil))))) (.lit (.lit (.lit (.lit (.ask (.nil) (.lit (.lit (.lit (.ask (.nil) (.lit (.nil)))))))))))))))))))))))))))))))) (.lit (.nil)))) h (by kernel_rfl)
def Yt:IC:=(.seq (.reg [⟨(some 1),(.box 2 (.t 0)),0,none⟩,⟨(some 2),(.mv (.c (.sl 0 true []))),1,none⟩] none) (.seq (.reg [⟨(some 3),(.mv (.c (.sl 0 true []))),0,none⟩] none) (.seq (.seq (.reg [⟨(some 6),(.faddr 1 (.t 1)),0,none⟩,⟨(some 7),(.load false [(.sl 2)] (.t 6)),0,none⟩,⟨(some 8),(.len 1 (.t 7)),0,none⟩,⟨(some 9),(.mv (.c (.int .i64 0))),0,none⟩] none) (.block 0 (.loop [9,8,7,3] (.seq (.reg [⟨(some 10),(.bin .num .lss (.t 9) (.t 8)),0,none⟩] none) (.seq (.cond (.t 10) .skip (.exit 0)) (.seq (.block 1 (.seq (.reg [⟨(some 11),(.iaddr 2 (.t 7) (.t 9)),0,none⟩,⟨(some 12),(.load true [.str,(.int .i64)] (.t 11)),0,none⟩,⟨(some 5),(.alloc (.agg [(.str []),(.int .i64 0)])),0,none⟩,⟨none,(.store 2 (.t 5) (.t 12)),1,none⟩] none) (.reg [⟨(some 13),(.mv (.t 3)),0,none⟩,⟨(some 14),(.faddr 0 (.t 5)),0,none⟩,⟨(some 15),(.load false [.str] (.t 14)),0,none⟩,⟨(some 16),(.bslice 9 1 1 (.str []) [(0,(.t 15))]),0,none⟩,⟨(some 17),(.append 9 1 16 (.t 13) (.t 16)),1,none⟩,⟨(some 3),(.mv (.t 17)),2,none⟩] none))) (.reg [⟨(some 18),(.bin .num .add (.t 9) (.c (.int .i64 1))),0,none⟩,⟨(some 9),(.mv (.t 18)),0,none⟩] none))))))) (.seq (.reg [⟨(some 19),(.mv (.t 3)),0,none⟩,⟨(some 2),(.mv (.t 19)),0,none⟩] none) .ret))))
def Yq:List IRes:=[(.tmp 2)]
abbrev Bo:Nat:=20
def YI:ZE:=Xg []
theorem a2a{G:AV×List AObj×List AObj->Prop}(l:Lin)(h:At YI 0 (Zk 0 Yq G) Yt 0 20 [(3,(.pv (.sl 0 true []))),(7,(.pv (.sl 2 false (List.map enc l.t)))),(8,(.pv (.int .i64 (↑(List.length (List.map enc l.t)):Int)))),(9,(.pv (.int .i64 0)))] []):Zc YI 0 (Zk 0 Yq G) Yt [] (YD 20 [.pv (enc l)] []):=Zc.to (.nil) h (by kernel_rfl)
theorem TF{G:AV×List AObj×List AObj->Prop}(l:Lin)(i:Int)(h:if (decide (i<(↑(List.length l.t):Int)))=true then(decide (0<=i)&&decide (Int.toNat i<List.length (List.map enc l.t))&&Enc.sz Coef==2)=true∧(∃ y0:Coef,AV.pv (PV.rptr (PV.cells (List.getD (List.map enc l.t) (Int.toNat i) default)))=AV.pv (PV.rptr (PV.cells ((enc) y0)))∧(At YI 0 (Zk 0 Yq G) Yt 0 20 [(3,(.row 0 1 0 1)),(7,(.pv (.sl 2 false (List.map enc l.t)))),(8,(.pv (.int .i64 (↑(List.length l.t):Int)))),(9,(.pv (.int .i64 (IntKind.wrap IntKind.i64 (i+1)))))] [(.obj (.row false 9 1 [(.str (PV.asStr (List.getD (PV.cells (enc y0)) 0 default)))]))]))else(G (((.pv (.sl 0 true [])),([],[]))))):At YI 0 (Zk 0 Yq G) Yt 0 20 [(3,.pv (.sl 0 true [])),(7,.pv (enc l.t)),(8,.pv (.int .i64 l.t.length)),(9,.pv (.int .i64 i))] []:=At.to (.lit (.ask (.req (.abs (Coef) (fun YY=>AV.pv (PV.rptr (PV.cells ((enc) YY)))) (.lit (.lit (.lit (.lit (.lit (.lit (.lit (.nil)))))))))) (.nil))) h (by kernel_rfl)
theorem TN{G:AV×List AObj×List AObj->Prop}(l:Lin)(i:Int)(q:Nat)(vs:List Str)(h:if (decide (i<(↑(List.length l.t):Int)))=true then(decide (0<=i)&&decide (Int.toNat i<List.length (List.map enc l.t))&&Enc.sz Coef==2)=true∧(∃ y0:Coef,AV.pv (PV.rptr (PV.cells (List.getD (List.map enc l.t) (Int.toNat i) default)))=AV.pv (PV.rptr (PV.cells ((enc) y0)))∧((List.length (List.map enc vs)==q&&q==q&&decide ((q+List.length (List.drop 0 (List.take 1 [Sh.co Sh.str (List.getD (PV.cells (enc y0)) 0 default)])))*16<=1099511627776)&&decide (q+List.length (List.drop 0 (List.take 1 [Sh.co Sh.str (List.getD (PV.cells (enc y0)) 0 default)]))<=1099511627776))=true∧(At YI 0 (Zk 0 Yq G) Yt 0 20 [(3,(.row 0 (q+List.length (List.drop 0 (List.take 1 [Sh.co Sh.str (List.getD (PV.cells (enc y0)) 0 default)]))) 0 (q+List.length (List.drop 0 (List.take 1 [Sh.co Sh.str (List.getD (PV.cells (enc y0)) 0 default)]))))),(7,(.pv (.sl 2 false (List.map enc l.t)))),(8,(.pv (.int .i64 (↑(List.length l.t):Int)))),(9,(.pv (.int .i64 (IntKind.wrap IntKind.i64 (i+1)))))] [(.obj (.row false 9 1 (List.map enc vs++List.drop 0 (List.take 1 [Sh.co Sh.str (List.getD (PV.cells (enc y0)) 0 default)]))))])))else(G (((.row 0 q 0 q),([],[(.row false 9 1 (List.map enc vs))]))))):At YI 0 (Zk 0 Yq G) Yt 0 20 [(3,.row 0 q 0 q),(7,.pv (enc l.t)),(8,.pv (.int .i64 l.t.length)),(9,.pv (.int .i64 i))] [.obj (.row false 9 1 (vs.map enc))]:=At.to (.lit (.ask (.req (.abs (Coef) (fun YY=>AV.pv (PV.rptr (PV.cells ((enc) YY)))) (.lit (.lit (.lit (.req (.lit (.nil)))))))) (.nil))) h (by kernel_rfl)
def P7:IC:=(.seq (.reg [⟨(some 3),(.mv (.c (.bool false))),0,none⟩] none) (.seq (.reg [⟨(some 4),(.faddr 0 (.t 1)),0,none⟩,⟨(some 5),(.load false [(.sl 1)] (.t 4)),0,none⟩,⟨(some 6),(.mv (.t 0)),0,none⟩,⟨(some 7),(.call (.c (.fn 120)) [(.t 5),(.t 6)]),0,none⟩,⟨(some 8),(.un .not (.t 7)),2,none⟩,⟨(some 3),(.mv (.t 8)),2,none⟩] none) .ret))
def RI:List IRes:=[(.tmp 3)]
abbrev b8c:Nat:=9
def F4:ZE:=Xg [(120,.pure (preT (fun x:List Str×Str×Unit=>Zx x.1)) (Zf (fun x:List Str×Str×Unit=>x.1.contains x.2.1)))]
theorem c6g{G:AV×List AObj×List AObj->Prop}(s:List UInt8)(b:BoxT)(h:(Go.Pl.preT (fun(x:List Str×Str×Unit)=>Zx x.1) [(.sl 1 false (List.map enc b.v)),(.str s)])=true∧(∃ y0:Bool,AV.pv (Zf (fun(x:List Str×Str×Unit)=>List.contains x.1 x.2.1) [(.sl 1 false (List.map enc b.v)),(.str s)])=AV.pv (enc y0)∧(G (((.pv (.bool !y0)),([(.box [(.pv (.sl 1 false (List.map enc b.v))),(.pv (.int .i64 b.m))])],[])))))):Zc F4 1 (Zk 1 RI G) P7 [] (YD 9 [.pv (.str s),.ptr 0 0] [.box [.pv (enc b.v),.pv (.int .i64 b.m)]]):=Zc.to (.req (.abs (Bool) (fun YY=>AV.pv (enc YY)) (.nil))) h (by kernel_rfl)
def UZ:IC:=(.seq (.reg [⟨(some 4),(.mv (.c (.int .i64 0))),0,none⟩] none) (.seq (.seq (.reg [⟨(some 6),(.mv (.t 0)),0,none⟩,⟨(some 7),(.len 1 (.t 6)),0,none⟩,⟨(some 8),(.mv (.c (.int .i64 0))),0,none⟩] none) (.block 0 (.loop [8,7,1,0] (.seq (.reg [⟨(some 9),(.bin .num .lss (.t 8) (.t 7)),0,none⟩] none) (.seq (.cond (.t 9) .skip (.exit 0)) (.seq (.block 1 (.seq (.reg [⟨(some 10),(.mv (.t 8)),0,none⟩,⟨(some 5),(.mv (.t 10)),0,none⟩] none) (.seq (.reg [⟨(some 11),(.mv (.t 1)),0,none⟩,⟨(some 12),(.mv (.t 0)),0,none⟩,⟨(some 13),(.mv (.t 5)),0,none⟩,⟨(some 14),(.iaddr 1 (.t 12) (.t 13)),0,none⟩,⟨(some 15),(.load false [.str] (.t 14)),0,none⟩,⟨(some 16),(.call (.t 11) [(.t 15)]),0,none⟩] none) (.cond (.t 16) (.seq (.reg [⟨(some 17),(.mv (.t 5)),0,none⟩,⟨(some 4),(.mv (.t 17)),0,none⟩] none) .ret) .skip)))) (.reg [⟨(some 18),(.bin .num .add (.t 8) (.c (.int .i64 1))),0,none⟩,⟨(some 8),(.mv (.t 18)),0,none⟩] none))))))) (.seq (.reg [⟨(some 4),(.mv (.c (.int .i64 (-1)))),0,none⟩] none) .ret)))
def Qo:List IRes:=[(.tmp 4)]
abbrev c4c:Nat:=19
def Ji:ZE:=Xg [(176,.own KX Cn)]
theorem c7k{G:AV×List AObj×List AObj->Prop}(l:List Str)(n:Nat)(b:BoxT)(h:At Ji 2 (Zk 2 Qo G) UZ 0 19 [(0,(.row 0 n 0 n)),(1,(.fn 176 [] [(.ptr 1 0)])),(7,(.pv (.int .i64 (↑(n - 0):Int)))),(8,(.pv (.int .i64 0)))] [(.obj (.row false 9 1 (List.map enc l))),(.obj (.box [(.pv (.sl 1 false (List.map enc b.v))),(.pv (.int .i64 b.m))]))]):Zc Ji 2 (Zk 2 Qo G) UZ [] (YD 19 [.row 0 n 0 n,.fn 176 [] [.ptr 1 0]] [.row false 9 1 (l.map enc),.box [.pv (enc b.v),.pv (.int .i64 b.m)]]):=Zc.to (.nil) h (by kernel_rfl)
theorem b4y{G:AV×List AObj×List AObj->Prop}(l:List Str)(n:Nat)(b:BoxT)(i:Int)(h:if (decide (i<(↑n:Int)))=true then(decide (0<=i)&&decide (0+Int.toNat i<n)&&List.length (List.map enc l)==n)=true∧((List.length (List.map enc l)==n&&decide (0+Int.toNat i<List.length (List.map enc l)))=true∧((decide (0+List.length [Sh.str]<=List.length (PV.cells (List.getD (List.map enc l) (0+Int.toNat i) default)))&&WA (PV.cells (List.getD (List.map enc l) (0+Int.toNat i) default)) 0 [Sh.str])=true∧((KX [(.pv (.str (PV.asStr (List.getD (PV.cells (List.getD (List.map enc l) (0+Int.toNat i) default)) 0 default)))),(.ptr 0 0)] [(.box [(.pv (.sl 1 false (List.map enc b.v))),(.pv (.int .i64 b.m))])])=true∧(if (!List.contains (dec (enc b.v)) (Str.mk (PV.asStr (List.getD (PV.cells (List.getD (List.map enc l) (0+Int.toNat i) default)) 0 default))))=true then G (((.pv (.int .i64 i)),([(.row false 9 1 (List.map enc l)),(.box [(.pv (.sl 1 false (List.map enc b.v))),(.pv (.int .i64 b.m))])],[])))else(At Ji 2 (Zk 2 Qo G) UZ 0 19 [(0,(.row 0 n 0 n)),(1,(.fn 176 [] [(.ptr 1 0)])),(7,(.pv (.int .i64 (↑n:Int)))),(8,(.pv (.int .i64 (IntKind.wrap IntKind.i64 (i+1)))))] [(.obj (.row false 9 1 (List.map enc l))),(.obj (.box [(.pv (.sl 1 false (List.map enc b.v))),(.pv (.int .i64 b.m))]))])))))else(G (((.pv (.int .i64 (-1))),([(.row false 9 1 (List.map enc l)),(.box [(.pv (.sl 1 false (List.map enc b.v))),(.pv (.int .i64 b.m))])],[]))))):At Ji 2 (Zk 2 Qo G) UZ 0 19 [(0,.row 0 n 0 n),(1,.fn 176 [] [.ptr 1 0]),(7,.pv (.int .i64 n)),(8,.pv (.int .i64 i))] [.obj (.row false 9 1 (l.map enc)),.obj (.box [.pv (enc b.v),.pv (.int .i64 b.m)])]:=At.to (.lit (.ask (.req (.keep (.req (.req (.req (.keep (.ask (.nil) (.lit (.nil))))))))) (.nil))) h (by kernel_rfl)
def Ay:IC:=(.seq (.reg [⟨(some 4),(.mv (.c (.bool false))),0,none⟩] none) (.seq (.reg [⟨(some 5),(.mv (.t 0)),0,none⟩,⟨(some 6),(.mv (.t 1)),0,none⟩,⟨(some 7),(.call (.c (.fn 238)) [(.t 5),(.t 6)]),0,none⟩,⟨(some 8),(.bin .num .geq (.t 7) (.c (.int .i64 0))),2,none⟩,⟨(some 4),(.mv (.t 8)),2,none⟩] none) .ret))
def R6:List IRes:=[(.tmp 4)]
abbrev c5e:Nat:=9
def a0o:ZE:=Xg [(238,.own (X9 176) Ce)]
theorem c8g{G:AV×List AObj×List AObj->Prop}(l:List Str)(n:Nat)(b:BoxT)(h:(X9 176 [(.row 0 n 0 n),(.fn 176 [] [(.ptr 1 0)])] [(.row false 9 1 (List.map enc l)),(.box [(.pv (.sl 1 false (List.map enc b.v))),(.pv (.int .i64 b.m))])])=true∧(G (((.pv (.bool (decide (Zy (fun(s:Str)=> !List.contains (dec (enc b.v)) s) (QZ (List.map enc l)) ≥ 0)))),([(.row false 9 1 (List.map enc l)),(.box [(.pv (.sl 1 false (List.map enc b.v))),(.pv (.int .i64 b.m))])],[]))))):Zc a0o 2 (Zk 2 R6 G) Ay [] (YD 9 [.row 0 n 0 n,.fn 176 [] [.ptr 1 0]] [.row false 9 1 (l.map enc),.box [.pv (enc b.v),.pv (.int .i64 b.m)]]):=Zc.to (.req (.keep (.lit (.nil)))) h (by kernel_rfl)
theorem c8f{G:AV×List AObj×List AObj->Prop}(b:BoxT)(h:At Ji 1 (Zk 1 Qo G) UZ 0 19 [(0,(.pv (.sl 0 true []))),(1,(.fn 176 [] [(.ptr 0 0)])),(7,(.pv (.int .i64 0))),(8,(.pv (.int .i64 0)))] [(.obj (.box [(.pv (.sl 1 false (List.map enc b.v))),(.pv (.int .i64 b.m))]))]):Zc Ji 1 (Zk 1 Qo G) UZ [] (YD 19 [.pv (.sl 0 true []),.fn 176 [] [.ptr 0 0]] [.box [.pv (enc b.v),.pv (.int .i64 b.m)]]):=Zc.to (.nil) h (by kernel_rfl)
-- IMPOSSIBLE
theorem c5p{G:AV×List AObj×List AObj->Prop}(b:BoxT)(i:Int)(h:if (decide (i<0))=true then(decide (0<=i)&&decide (Int.toNat i<List.length ([]:List PV))&&0==1)=true∧(False)else(G (((.pv (.int .i64 (-1))),([(.box [(.pv (.sl 1 false (List.map enc b.v))),(.pv (.int .i64 b.m))])],[]))))):At Ji 1 (Zk 1 Qo G) UZ 0 19 [(0,.pv (.sl 0 true [])),(1,.fn 176 [] [.ptr 0 0]),(7,.pv (.int .i64 0)),(8,.pv (.int .i64 i))] [.obj (.box [.pv (enc b.v),.pv (.int .i64 b.m)])]:=At.to (.lit (.ask (.req (.keep (.lit (.nil)))) (.nil))) h (by kernel_rfl)
theorem c6v{G:AV×List AObj×List AObj->Prop}(b:BoxT)(h:(X9 176 [(.pv (.sl 0 true [])),(.fn 176 [] [(.ptr 0 0)])] [(.box [(.pv (.sl 1 false (List.map enc b.v))),(.pv (.int .i64 b.m))])])=true∧(G (((.pv (.bool false)),([(.box [(.pv (.sl 1 false (List.map enc b.v))),(.pv (.int .i64 b.m))])],[]))))):Zc a0o 1 (Zk 1 R6 G) Ay [] (YD 9 [.pv (.sl 0 true []),.fn 176 [] [.ptr 0 0]] [.box [.pv (enc b.v),.pv (.int .i64 b.m)]]):=Zc.to (.req (.keep (.lit (.nil)))) h (by kernel_rfl)
theorem b0s{G:PV->Prop}(l:Lin)(h:At YI 0 (Za Yq G) Yt 0 20 [(3,(.pv (.sl 0 true []))),(7,(.pv (.sl 2 false (List.map enc l.t)))),(8,(.pv (.int .i64 (↑(List.length (List.map enc l.t)):Int)))),(9,(.pv (.int .i64 0)))] []):Zc YI 0 (Za Yq G) Yt [] (Yz 20 [enc l]):=Zc.tp (.nil) h (by kernel_rfl)
theorem Bn{G:PV->Prop}(l:Lin)(i:Int)(h:if (decide (i<(↑(List.length l.t):Int)))=true then(decide (0<=i)&&decide (Int.toNat i<List.length (List.map enc l.t))&&Enc.sz Coef==2)=true∧(∃ y0:Coef,AV.pv (PV.rptr (PV.cells (List.getD (List.map enc l.t) (Int.toNat i) default)))=AV.pv (PV.rptr (PV.cells ((enc) y0)))∧(At YI 0 (Za Yq G) Yt 0 20 [(3,(.row 0 1 0 1)),(7,(.pv (.sl 2 false (List.map enc l.t)))),(8,(.pv (.int .i64 (↑(List.length l.t):Int)))),(9,(.pv (.int .i64 (IntKind.wrap IntKind.i64 (i+1)))))] [(.obj (.row false 9 1 [(.str (PV.asStr (List.getD (PV.cells (enc y0)) 0 default)))]))]))else(G ((.sl 0 true [])))):At YI 0 (Za Yq G) Yt 0 20 [(3,.pv (.sl 0 true [])),(7,.pv (enc l.t)),(8,.pv (.int .i64 l.t.length)),(9,.pv (.int .i64 i))] []:=At.tp (.lit (.ask (.req (.abs (Coef) (fun YY=>AV.pv (PV.rptr (PV.cells ((enc) YY)))) (.lit (.lit (.lit (.lit (.lit (.lit (.lit (.nil)))))))))) (.nil))) h (by kernel_rfl)
theorem AZ{G:PV->Prop}(l:Lin)(i:Int)(q:Nat)(vs:List Str)(h:if (decide (i<(↑(List.length l.t):Int)))=true then(decide (0<=i)&&decide (Int.toNat i<List.length (List.map enc l.t))&&Enc.sz Coef==2)=true∧(∃ y0:Coef,AV.pv (PV.rptr (PV.cells (List.getD (List.map enc l.t) (Int.toNat i) default)))=AV.pv (PV.rptr (PV.cells ((enc) y0)))∧((List.length (List.map enc vs)==q&&q==q&&decide ((q+List.length (List.drop 0 (List.take 1 [Sh.co Sh.str (List.getD (PV.cells (enc y0)) 0 default)])))*16<=1099511627776)&&decide (q+List.length (List.drop 0 (List.take 1 [Sh.co Sh.str (List.getD (PV.cells (enc y0)) 0 default)]))<=1099511627776))=true∧(At YI 0 (Za Yq G) Yt 0 20 [(3,(.row 0 (q+List.length (List.drop 0 (List.take 1 [Sh.co Sh.str (List.getD (PV.cells (enc y0)) 0 default)]))) 0 (q+List.length (List.drop 0 (List.take 1 [Sh.co Sh.str (List.getD (PV.cells (enc y0)) 0 default)]))))),(7,(.pv (.sl 2 false (List.map enc l.t)))),(8,(.pv (.int .i64 (↑(List.length l.t):Int)))),(9,(.pv (.int .i64 (IntKind.wrap IntKind.i64 (i+1)))))] [(.obj (.row false 9 1 (List.map enc vs++List.drop 0 (List.take 1 [Sh.co Sh.str (List.getD (PV.cells (enc y0)) 0 default)]))))])))else((List.length (List.map enc vs)==q)=true∧(G ((.sl 1 false (List.drop 0 (List.take q (List.map enc vs)))))))):At YI 0 (Za Yq G) Yt 0 20 [(3,.row 0 q 0 q),(7,.pv (enc l.t)),(8,.pv (.int .i64 l.t.length)),(9,.pv (.int .i64 i))] [.obj (.row false 9 1 (vs.map enc))]:=At.tp (.lit (.ask (.req (.abs (Coef) (fun YY=>AV.pv (PV.rptr (PV.cells ((enc) YY)))) (.lit (.lit (.lit (.req (.lit (.nil)))))))) (.req (.nil)))) h (by kernel_rfl)
def Y5:IC:=Xn
def Y6:List IRes:=[(.tmp 2)]
abbrev a5p:Nat:=67
def XD:ZE:=Xg [(152,.pure (preT (fun _:Str×Str×Unit=>true)) (Zf (fun x:Str×Str×Unit=>x.2.1.s.isPrefixOf x.1.s))),(182,.pure (preT (fun x:Str×Unit=>decide (x.1.s.length<=281474976710656))) (Zf (fun x:Str×Unit=>Yv x.1))),(76,.pure (preT (fun x:Int×Unit=>decide (-9223372036854775808<=x.1)&&decide (x.1<=9223372036854775807))) (Zf (fun x:Int×Unit=>M4 x.1)))]
theorem b1y{G:PV->Prop}(s:List UInt8)(h : ∃ y0:Bool,AV.pv (Zf (fun(x:Str×Str×Unit)=>List.isPrefixOf (Str.s x.2.1) (Str.s x.1)) [(.str s),(.str [(95:UInt8)])])=AV.pv (enc y0)∧(if (y0)=true then(decide (0<=1)&&true&&decide (Int.toNat 1<=List.length s)&&decide (List.length s<=List.length s))=true∧((Go.Pl.preT (fun(x:Str×Unit)=>decide (List.length (Str.s x.1)<=281474976710656)) [(.str (List.drop (Int.toNat 1) (List.take (List.length s) s)))])=true∧(∃ y1:Int×Er,AV.pv (Zf (fun(x:Str×Unit)=>Yv x.1) [(.str (List.drop (Int.toNat 1) (List.take (List.length s) s)))])=AV.pv (enc y1)∧((CL (enc y1.2)&&Prod.fst (true,PV.bool (UO (enc y1.2))))=true∧(if (UO (enc y1.2))=true then if (decide (y1.1>0))=true then if (decide ((↑(List.length s):Int)<=10))=true then(Go.Pl.preT (fun(x:Int×Unit)=>decide ((-9223372036854775808:Int)<=x.1)&&decide (x.1<=9223372036854775807)) [(.int .i64 y1.1)])=true∧(∃ y2:Str,AV.pv (Zf (fun(x:Int×Unit)=>M4 x.1) [(.int .i64 y1.1)])=AV.pv (enc y2)∧((decide (0<=1)&&true&&decide (Int.toNat 1<=List.length s)&&decide (List.length s<=List.length s))=true∧(G ((.bool (Str.s y2==List.drop (Int.toNat 1) (List.take (List.length s) s)))))))else(G ((.bool false)))else(G ((.bool false)))else(G ((.bool false)))))))else(At XD 0 (Za Y6 G) Y5 0 67 [(0,(.pv (.str s))),(34,(.pv (.sl 1 false (Zw s)))),(35,(.pv (.int .i64 (↑(List.length (Zw s)):Int)))),(36,(.pv (.int .i64 0)))] []))):Zc XD 0 (Za Y6 G) Y5 [] (Yz 67 [.str s]):=Zc.tp (.lit (.abs (Bool) (fun YY=>AV.pv (enc YY)) (.ask (.req (.req (.abs (Int×Er) (fun YY=>AV.pv (enc YY)) (.req (.ask (.lit (.lit (.lit (.ask (.lit (.lit (.lit (.lit (.ask (.lit (.req (.abs (Str) (fun YY=>AV.pv (enc YY)) (.lit (.lit (.req (.lit (.lit (.lit (.nil)))))))))) (.lit (.lit (.lit (.lit (.lit (.nil))))))))))) (.lit (.lit (.lit (.lit (.lit (.lit (.lit (.lit (.lit (.nil)))))))))))))) (.lit (.lit (.lit (.lit (.lit (.lit (.lit (.lit (.lit (.lit (.lit (.lit (.nil)))))))))))))))))) (.nil)))) h (by kernel_rfl)
theorem TT{G:PV->Prop}(s:List UInt8)(i:Int)(h:if (decide (i<(↑(List.length (Zw s)):Int)))=true then(decide (0<=i)&&decide (Int.toNat i<List.length (Zw s))&&1==1)=true∧((decide (0+List.length [Sh.int IntKind.u8]<=List.length (PV.cells (List.getD (Zw s) (Int.toNat i) default)))&&WA (PV.cells (List.getD (Zw s) (Int.toNat i) default)) 0 [Sh.int IntKind.u8])=true∧(if (decide (PV.asInt (List.getD (PV.cells (List.getD (Zw s) (Int.toNat i) default)) 0 default)<97))=true then if (i==0)=true then G ((.bool false))else(if (decide (PV.asInt (List.getD (PV.cells (List.getD (Zw s) (Int.toNat i) default)) 0 default)<48))=true then G ((.bool false))else(if (decide (PV.asInt (List.getD (PV.cells (List.getD (Zw s) (Int.toNat i) default)) 0 default)>57))=true then G ((.bool false))else(At XD 0 (Za Y6 G) Y5 0 67 [(0,(.pv (.str s))),(34,(.pv (.sl 1 false (Zw s)))),(35,(.pv (.int .i64 (↑(List.length (Zw s)):Int)))),(36,(.pv (.int .i64 (IntKind.wrap IntKind.i64 (i+1)))))] [])))else(if (decide (PV.asInt (List.getD (PV.cells (List.getD (Zw s) (Int.toNat i) default)) 0 default)>122))=true then if (i==0)=true then G ((.bool false))else(if (decide (PV.asInt (List.getD (PV.cells (List.getD (Zw s) (Int.toNat i) default)) 0 default)<48))=true then G ((.bool false))else(if (decide (PV.asInt (List.getD (PV.cells (List.getD (Zw s) (Int.toNat i) default)) 0 default)>57))=true then G ((.bool false))else(At XD 0 (Za Y6 G) Y5 0 67 [(0,(.pv (.str s))),(34,(.pv (.sl 1 false (Zw s)))),(35,(.pv (.int .i64 (↑(List.length (Zw s)):Int)))),(36,(.pv (.int .i64 (IntKind.wrap IntKind.i64 (i+1)))))] [])))else(At XD 0 (Za Y6 G) Y5 0 67 [(0,(.pv (.str s))),(34,(.pv (.sl 1 false (Zw s)))),(35,(.pv (.int .i64 (↑(List.length (Zw s)):Int)))),(36,(.pv (.int .i64 (IntKind.wrap IntKind.i64 (i+1)))))] []))))else(if (!s==[])=true then G ((.bool (decide ((↑(List.length s):Int)<=30))))else(G ((.bool false))))):At XD 0 (Za Y6 G) Y5 0 67 [(0,.pv (.str s)),(34,.pv (.sl 1 false (Zw s))),(35,.pv (.int .i64 (Zw s).length)),(36,.pv (.int .i64 i))] []:=At.tp (.lit (.ask (.req (.keep (.req (.lit (.ask (.lit (.lit (.lit (.lit (.lit (.lit (.ask (.lit (.lit (.lit (.lit (.lit (.lit (.lit (.lit (.lit (.lit (.nil))))))))))) (.lit (.lit (.lit (.lit (.lit (.ask (.lit (.lit (.lit (.lit (.lit (.nil)))))) (.lit (.lit (.lit (.lit (.lit (.ask (.nil) (.lit (.nil))))))))))))))))))))) (.lit (.lit (.lit (.ask (.lit (.lit (.lit (.ask (.lit (.lit (.lit (.lit (.lit (.lit (.lit (.lit (.lit (.lit (.nil))))))))))) (.lit (.lit (.lit (.lit (.lit (.ask (.lit (.lit (.lit (.lit (.lit (.nil)))))) (.lit (.lit (.lit (.lit (.lit (.ask (.nil) (.lit (.nil)))))))))))))))))) (.lit (.lit (.lit (.lit (.lit (.lit (.lit (.lit (.nil)))))))))))))))))) (.lit (.ask (.lit (.lit (.lit (.lit (.nil))))) (.lit (.lit (.lit (.nil)))))))) h (by kernel_rfl)
end Go.Pl

namespace Go.Pl
open Go.RowKit
open Enc (enc dec is)
open EncL (encL decL isL)
theorem Z8{α:Type}{l:List α}:Zx l=true ↔ l.length<=9223372036854775807:=by simp[Zx]
theorem L8(l:List Str)(s:List UInt8)(hl:l.length<=9223372036854775807): ∀ (m i:Nat),m+i=l.length->(∀ j (h:j<l.length),j<i->decide (l[j]=⟨s⟩)=false) ->
  At UQ 0 (Za VF (Zm (Zy (fun x:Str=>decide (x=⟨s⟩)) l))) VA 0 19 [(0,.pv (enc l)),(1,.pv (.str s)),(7,.pv (.int .i64 l.length)),(8,.pv (.int .i64 i))] []:=by
 intro m
 induction m with
 | zero=>
  intro i hi hno
  refine Td l s i (Z0 (Yd (by omega)) (Ka ?_))
  rw[U5 _ _ fun k hk=>hno k hk (by omega)]
 | succ m ih=>
  intro i hi hno
  have hlt:i<l.length:=by omega
  refine Td l s i (ZV (Ya hlt) ⟨ZB hlt rfl,ZY hlt (JZ (fun h=>Ka ?_) fun h=> ?_)⟩)
  ·have h:s=l[i].s:=h
   rw[Qc (fun x:Str=>decide (x=⟨s⟩)) l i hlt hno (by rw[h];simp)]
  ·have h:s≠l[i].s:=h
   rw[next (by omega)]
   refine ih (i+1) (by omega) fun k hk hki=> ?_
   by_cases e:k=i
   ·subst e;simp only[decide_eq_false_iff_not];intro e;exact h (by rw[e])
   ·exact hno k hk (by omega)
theorem OG: ∀ a:List Str×Str×Unit,Zx a.1=true->Zc UQ 0 (Za VF (Zm (Zy (fun s:Str=>decide (s=a.2.1)) a.1))) VA [] (Yz a6p (encL a)):=by
 rintro⟨l,⟨s⟩,⟨⟩⟩ h
 have:=L8 l s (Z8.1 h) l.length 0 (by omega) fun j _ h=>by omega
 refine b3h l s ?_
 rw[List.length_map]
 exact this
theorem Pk(l:List Str)(s:Str):l.any (fun x=>decide (x=s))=l.contains s:=by
 rw[List.contains_eq_any_beq]
 congr 1
 funext x
 by_cases h:x=s
 ·subst h;simp
 ·have h2:s≠x:=fun e=>h e.symm
  simp[h,h2]
theorem a2x: ∀ a:List Str×Str×Unit,Zx a.1=true->Zc Pg 0 (Za Ap (Zm (a.1.contains a.2.1))) Bd [] (Yz a8r (encL a)):=by
 rintro⟨l,⟨s⟩,⟨⟩⟩ h
 refine c0i l s ⟨Zl (l,⟨s⟩,()) rfl h,Zj (l,⟨s⟩,()) rfl (ZZ ?_)⟩
 show decide (Zy (fun x:Str=>decide (x=⟨s⟩)) l ≥ 0)=_
 rw[XL,Pk]
def gvL(m:Int):List Str->List Str->Int->Bool
 | _,[],_=>decide (m ≥ 0)
 | seen,s::r,n=>ZA s&& !seen.contains s&& !decide (m<0)&& !decide (m ≥ 20000)&& !decide (n*(m+1)>20000)&&gvL m (seen++[s]) r (n*(m+1))
theorem a8i(m:Int): ∀ (r seen:List Str) (n:Int),gvL m seen r n=(r.all ZA&&(decide r.Nodup&&r.all fun s=> !seen.contains s)&&(r.isEmpty||decide (m<20000))&&decide (0<=m)&&(Jw m r n).isSome)
 | [],seen,n=>by
  simp[gvL,Jw]
 | s::r,seen,n=>by
  rw[gvL,a8i m r (seen++[s]) (n*(m+1)),Jw]
  have h1:(r.all fun x=> !(seen++[s]).contains x)=((r.all fun x=> !seen.contains x)&& !r.contains s):=by
   induction r with
   | nil=>rfl
   | cons x r ih=>
    simp only[List.all_cons,ih]
    have e1:(seen++[s]).contains x=(seen.contains x||decide (x=s)):=by simp[List.contains_eq_any_beq,List.any_append,Bool.or_comm]
    have e2:(x::r).contains s=(decide (x=s)||r.contains s):=by
     rw[List.contains_cons]
     congr 1
     by_cases h:x=s
     ·subst h;simp
     ·have h2:s≠x:=fun e=>h e.symm
      simp[h,h2]
    rw[e1,e2]
    cases seen.contains x <;> cases decide (x=s) <;> cases r.contains s <;> cases (r.all fun x=> !seen.contains x) <;> rfl
  have h2:decide (s::r).Nodup=(decide r.Nodup&& !r.contains s):=by
   by_cases h:s∈r
   ·simp[List.nodup_cons,h]
   ·simp[List.nodup_cons,h]
  rw[h1,h2]
  by_cases hm:m<0
  ·have e1:decide (0<=m)=false:=by simp;omega
   rw[decide_eq_true hm,e1];simp
  ·have e1:decide (0<=m)=true:=by simp;omega
   by_cases hm2:m ≥ 20000
   ·have e2:decide (m<20000)=false:=by simp;omega
    rw[decide_eq_true hm2,e2];simp
   ·have e2:decide (m<20000)=true:=by simp;omega
    by_cases hn:n*(m+1)>20000
    ·rw[if_pos hn,decide_eq_true hn];simp
    ·rw[if_neg hn,decide_eq_false hn,decide_eq_false hm,decide_eq_false hm2,e1,e2]
     simp only[List.all_cons,List.isEmpty_cons]
     cases ZA s <;> cases seen.contains s <;> cases r.contains s <;> cases r.all ZA <;> cases decide r.Nodup <;> cases (r.all fun x=> !seen.contains x) <;> cases r.isEmpty <;> cases (Jw m r (n*(m+1))).isSome <;> rfl
theorem EK(b:BoxT):gvL b.m [] b.v 1=Xy b:=by
 rw[a8i,Xy]
 have:(b.v.all fun s=> !([]:List Str).contains s)=true:=by simp
 rw[this,Bool.and_true]
theorem EO{n:Int}(h1 : -9000000000000000000<=n)(h2:n<=9000000000000000000):IntKind.i64.wrap n=n:=Wx (by omega) (by omega)
theorem LP(b:BoxT)(hb:ZT b=true): ∀ (k i:Nat) (n:Int),k+i=b.v.length->1<=n->n<=20000 ->
  At UT 0 (Za VK (Zm (gvL b.m (b.v.take i) (b.v.drop i) n))) VC 0 46 [(1,.ptr 0 0),(3,.pv (.int .i64 n)),(7,.pv (enc b.v)),(8,.pv (.int .i64 b.v.length)),(9,.pv (.int .i64 i))] [.obj (.box [.pv (enc b.v),.pv (.int .i64 b.m)])]:=by
 simp only[ZT,WF,Bool.and_eq_true,List.all_eq_true]at hb
 obtain⟨hb1,hb2⟩:=hb
 have hl:=Z8.1 hb1
 intro k
 induction k with
 | zero=>
  intro i n hi h1 h2
  rw[List.drop_of_length_le (by omega)]
  exact TP b n i (Z0 (Yd (by omega)) (ZZ rfl))
 | succ k ih=>
  intro i n hi h1 h2
  have hlt:i<b.v.length:=by omega
  have hd:b.v.drop i=b.v[i]::b.v.drop (i+1):=List.drop_eq_getElem_cons hlt
  have ht:b.v.take (i+1)=b.v.take i++[b.v[i]]:=List.take_succ_eq_append_getElem hlt
  have hs:=hb2 _ (List.getElem_mem hlt)
  rw[hd,gvL]
  have et:List.drop 0 (List.take (Int.toNat (i:Int)) (List.map (enc:Str->PV) b.v))=(b.v.take i).map enc:=by rw[List.drop_zero,Int.toNat_natCast,List.map_take]
  refine TP b n i (ZV (Ya hlt) ⟨ZB hlt rfl,ZY hlt ⟨Zl (b.v[i],()) rfl hs,Zj (b.v[i],()) rfl (Vu (fun h=> ?_) fun h=>⟨by rw[List.length_map,decide_eq_true (show(0:Int)<=(i:Int) by omega),decide_eq_true (show(Int.toNat (i:Int))<=b.v.length by omega)];simp,?_,?_⟩)⟩⟩)
  ·have h:ZA b.v[i]=false:=h
   rw[h];exact ZZ rfl
  ·rw[et]
   exact Zl (b.v.take i,b.v[i],()) rfl (Z8.2 (by rw[List.length_take];omega))
  ·rw[et]
   have hn:ZA b.v[i]=true:=h
   rw[hn,Bool.true_and]
   refine Zj (b.v.take i,b.v[i],()) rfl (Xj (fun h=> ?_) fun h=>WR (fun h3=> ?_) fun h3=>WR (fun h4=> ?_) fun h4=> ?_)
   ·have h:(b.v.take i).contains b.v[i]=true:=h
    rw[h];exact ZZ rfl
   ·rw[decide_eq_true h3,show(b.v.take i).contains b.v[i]=false from h];exact ZZ rfl
   ·rw[decide_eq_true h4,decide_eq_false h3,show(b.v.take i).contains b.v[i]=false from h];exact ZZ rfl
   ·have h:(b.v.take i).contains b.v[i]=false:=h
    have q1:b.m+1<=20000:=by omega
    have q2:1<=b.m+1:=by omega
    have hm:n*(b.m+1)<=20000*20000:=Int.le_trans (Int.mul_le_mul_of_nonneg_left q1 (by omega)) (Int.mul_le_mul_of_nonneg_right h2 (by omega))
    have hm1:1<=n*(b.m+1):=by
     have:=Int.mul_le_mul h1 q2 (by omega) (by omega)
     omega
    rw[EO (n:=b.m+1) (by omega) (by omega),EO (n:=n*(b.m+1)) (by omega) (by omega),decide_eq_false h3,decide_eq_false h4,h]
    refine WR (fun h5=> ?_) fun h5=> ?_
    ·rw[decide_eq_true h5];exact ZZ rfl
    ·rw[decide_eq_false h5,next (by omega),<- ht]
     exact ih (i+1) (n*(b.m+1)) (by omega) hm1 (by omega)
theorem EJ: ∀ a:BoxT×Unit,ZT a.1=true->Zc UT 0 (Za VK (Zm (Xy a.1))) VC [] (Yz a5a (encL a)):=by
 rintro⟨b,⟨⟩⟩ h
 rw[<- EK]
 refine a8c b ?_
 have:=LP b h b.v.length 0 1 (by omega) (by omega) (by omega)
 rw[List.length_map]
 exact this
theorem Jc(vs:List Str)(p:List Int){i:Nat}(h1:i<vs.length)(h2:i<p.length):Zd (vs.take (i+1)) (p.take (i+1))=Zd (vs.take i) (p.take i)++[⟨vs[i],p[i]⟩]:=by
 unfold Zd
 rw[List.take_succ_eq_append_getElem h1,List.take_succ_eq_append_getElem h2,List.zipWith_append (by simp[List.length_take];omega)]
 rfl
theorem Lx(vs:List Str)(p:List Int){i:Nat}(h:min vs.length p.length<=i):Zd (vs.take i) (p.take i)=Zd vs p:=by
 unfold Zd
 rw[<- List.take_zipWith]
 exact List.take_of_length_le (by rw[List.length_zipWith];exact h)
theorem Hz(vs:List Str)(p:List Int){i:Nat}(h1:i<=vs.length)(h2:i<=p.length):(Zd (vs.take i) (p.take i)).length=i:=by
 unfold Zd
 rw[List.length_zipWith,List.length_take,List.length_take];omega
end Go.Pl

namespace Go.Pl
open Go.RowKit
open Enc (enc dec is)
open EncL (encL decL isL)
set_option maxRecDepth 100000
def Yh:IC:=(.seq (.reg [⟨(some 4),(.box 2 (.t 0)),0,none⟩,⟨(some 8),(.mv (.c (.int .i64 0))),1,none⟩] none) (.seq (.seq (.reg [⟨(some 11),(.load true [(.sl 1),(.int .i64)] (.t 4)),0,none⟩,⟨(some 12),(.call (.c (.fn 50)) [(.t 11)]),0,none⟩,⟨(some 13),(.un .not (.t 12)),2,none⟩,⟨(some 14),(.mv (.t 13)),2,none⟩,⟨(some 15),(.mv (.t 1)),2,(some (14,false))⟩,⟨(some 16),(.call (.c (.fn 95)) [(.t 15)]),2,(some (14,false))⟩,⟨(some 17),(.un .not (.t 16)),4,(some (14,false))⟩,⟨(some 18),(.pick (.t 14) (.c (.bool true)) (.t 17)),4,none⟩,⟨(some 19),(.mv (.t 18)),4,none⟩,⟨(some 20),(.mv (.t 2)),4,(some (19,false))⟩,⟨(some 21),(.un .not (.t 20)),4,(some (19,false))⟩,⟨(some 22),(.pick (.t 19) (.c (.bool true)) (.t 21)),4,none⟩] none) (.cond (.t 22) (.seq (.reg [⟨(some 8),(.mv (.c (.int .i64 1))),0,none⟩] none) .ret) .skip)) (.seq (.seq (.reg [⟨(some 23),(.mv (.t 1)),0,none⟩,⟨(some 24),(.len 1 (.t 23)),0,none⟩,⟨(some 25),(.mv (.c (.int .i64 0))),0,none⟩] none) (.block 0 (.loop [25,24,23,3,4] (.seq (.reg [⟨(some 26),(.bin .num .lss (.t 25) (.t 24)),0,none⟩] none) (.seq (.cond (.t 26) .skip (.exit 0)) (.seq (.block 1 (.seq (.reg [⟨(some 27),(.iaddr 3 (.t 23) (.t 25)),0,none⟩,⟨(some 28),(.load true [.bool,(.int .i64),(.sl 2)] (.t 27)),0,none⟩,⟨(some 10),(.alloc (.agg [(.bool false),(.int .i64 0),(.sl 0 true [])])),0,none⟩,⟨none,(.store 3 (.t 10) (.t 28)),1,none⟩] none) (.reg [⟨(some 29),(.mv (.t 3)),0,none⟩,⟨(some 30),(.faddr 1 (.t 10)),0,none⟩,⟨(some 31),(.load true [(.int .i64),(.sl 2)] (.t 30)),0,none⟩,⟨(some 32),(.call (.c (.fn 174)) [(.t 31)]),0,none⟩,⟨(some 33),(.append 9 1 16 (.t 29) (.t 32)),2,none⟩,⟨(some 3),(.mv (.t 33)),3,none⟩] none))) (.reg [⟨(some 34),(.bin .num .add (.t 25) (.c (.int .i64 1))),0,none⟩,⟨(some 25),(.mv (.t 34)),0,none⟩] none))))))) (.seq (.seq (.reg [⟨(some 35),(.mv (.t 3)),0,none⟩,⟨(some 36),(.mkfn 176 [] [(.t 4)]),0,none⟩,⟨(some 37),(.call (.c (.fn 175)) [(.t 35),(.t 36)]),0,none⟩] none) (.cond (.t 37) (.seq (.reg [⟨(some 8),(.mv (.c (.int .i64 7))),0,none⟩] none) .ret) .skip)) (.seq (.reg [⟨(some 8),(.mv (.c (.int .i64 0))),0,none⟩] none) .ret)))))
def Yi:List IRes:=[(.tmp 8)]
abbrev S9:Nat:=38
def Yr:ZE:=Xg [(50,.pure (preT (fun x:BoxT×Unit=>ZT x.1)) (Zf (fun x:BoxT×Unit=>Xy x.1))),(95,.pure (preT (fun x:List Fact×Unit=>Zp x.1)) (Zf (fun x:List Fact×Unit=>XN x.1))),(174,.pure (preT (fun x:Lin×Unit=>decide (x.1.t.length<=1000000))) (Zf (fun x:Lin×Unit=>Ze x.1))),(175,.own (X9 176) PW)]
theorem a8p{G:PV->Prop}(b:BoxT)(fs:List Fact)(ok:Bool)(h:(Go.Pl.preT (fun(x:BoxT×Unit)=>ZT x.1) [(.agg [(.sl 1 false (List.map enc b.v)),(.int .i64 b.m)])])=true∧(∃ y0:Bool,AV.pv (Zf (fun(x:BoxT×Unit)=>Xy x.1) [(.agg [(.sl 1 false (List.map enc b.v)),(.int .i64 b.m)])])=AV.pv (enc y0)∧(if (!y0)=true then G ((.int .i64 1))else((Go.Pl.preT (fun(x:List Fact×Unit)=>Zp x.1) [(.sl 3 false (List.map enc fs))])=true∧(∃ y1:Bool,AV.pv (Zf (fun(x:List Fact×Unit)=>XN x.1) [(.sl 3 false (List.map enc fs))])=AV.pv (enc y1)∧(if (!y1)=true then G ((.int .i64 1))else(if (!ok)=true then G ((.int .i64 1))else(At Yr 0 (Za Yi G) Yh 0 38 [(3,(.pv (.sl 0 true []))),(4,(.ptr 0 0)),(23,(.pv (.sl 3 false (List.map enc fs)))),(24,(.pv (.int .i64 (↑(List.length (List.map enc fs)):Int)))),(25,(.pv (.int .i64 0)))] [(.obj (.box [(.pv (.sl 1 false (List.map enc b.v))),(.pv (.int .i64 b.m))]))])))))))):Zc Yr 0 (Za Yi G) Yh [] (Yz 38 [enc b,enc fs,.bool ok,.sl 0 true []]):=Zc.tp (.req (.abs (Bool) (fun YY=>AV.pv (enc YY)) (.ask (.lit (.lit (.lit (.lit (.lit (.lit (.lit (.nil)))))))) (.lit (.req (.abs (Bool) (fun YY=>AV.pv (enc YY)) (.lit (.lit (.ask (.lit (.lit (.lit (.nil)))) (.lit (.lit (.ask (.nil) (.nil))))))))))))) h (by kernel_rfl)
theorem Bl{G:PV->Prop}(b:BoxT)(fs:List Fact)(ok:Bool)(i:Int)(h:if (decide (i<(↑(List.length fs):Int)))=true then(decide (0<=i)&&decide (Int.toNat i<List.length (List.map enc fs))&&Enc.sz Fact==3)=true∧(∃ y0:Fact,AV.pv (PV.rptr (PV.cells (List.getD (List.map enc fs) (Int.toNat i) default)))=AV.pv (PV.rptr (PV.cells ((enc) y0)))∧((Go.Pl.preT (fun(x:Lin×Unit)=>decide (List.length x.1.t<=1000000)) [(.agg [(.int .i64 (PV.asInt (List.getD (PV.cells (enc y0)) (0+1) default))),(.sl 2 false (PV.asXs (List.getD (PV.cells (enc y0)) (0+1+1) default)))])])=true∧(∃ y1:List Str,AV.pv (Zf (fun(x:Lin×Unit)=>Ze x.1) [(.agg [(.int .i64 (PV.asInt (List.getD (PV.cells (enc y0)) (0+1) default))),(.sl 2 false (PV.asXs (List.getD (PV.cells (enc y0)) (0+1+1) default)))])])=AV.pv (enc y1)∧((List.isEmpty (List.map enc y1)||Enc.sz Str==1)=true∧(if (List.isEmpty (List.map enc y1))=true then At Yr 0 (Za Yi G) Yh 0 38 [(3,(.pv (.sl 0 true []))),(4,(.ptr 0 0)),(23,(.pv (.sl 3 false (List.map enc fs)))),(24,(.pv (.int .i64 (↑(List.length fs):Int)))),(25,(.pv (.int .i64 (IntKind.wrap IntKind.i64 (i+1)))))] [(.obj (.box [(.pv (.sl 1 false (List.map enc b.v))),(.pv (.int .i64 b.m))]))]else(((List.isEmpty ([]:List PV)||0==1)&&decide ((List.length ([]:List PV)+List.length (List.map enc y1))*16<=1099511627776)&&decide (List.length ([]:List PV)+List.length (List.map enc y1)<=1099511627776))=true∧(At Yr 0 (Za Yi G) Yh 0 38 [(3,(.row 0 (List.length ([]:List PV)+List.length (List.map enc y1)) 0 (List.length ([]:List PV)+List.length (List.map enc y1)))),(4,(.ptr 1 0)),(23,(.pv (.sl 3 false (List.map enc fs)))),(24,(.pv (.int .i64 (↑(List.length fs):Int)))),(25,(.pv (.int .i64 (IntKind.wrap IntKind.i64 (i+1)))))] [(.obj (.row false 9 1 (([]:List PV)++List.map enc y1))),(.obj (.box [(.pv (.sl 1 false (List.map enc b.v))),(.pv (.int .i64 b.m))]))])))))))else((X9 176 [(.pv (.sl 0 true [])),(.fn 176 [] [(.ptr 0 0)])] [(.box [(.pv (.sl 1 false (List.map enc b.v))),(.pv (.int .i64 b.m))])])=true∧(G ((.int .i64 0))))):At Yr 0 (Za Yi G) Yh 0 38 [(3,.pv (.sl 0 true [])),(4,.ptr 0 0),(23,.pv (enc fs)),(24,.pv (.int .i64 fs.length)),(25,.pv (.int .i64 i))] [.obj (.box [.pv (enc b.v),.pv (.int .i64 b.m)])]:=At.tp (.lit (.ask (.req (.abs (Fact) (fun YY=>AV.pv (PV.rptr (PV.cells ((enc) YY)))) (.lit (.req (.abs (List Str) (fun YY=>AV.pv (enc YY)) (.req (.lit (.ask (.lit (.nil)) (.req (.lit (.nil))))))))))) (.req (.keep (.lit (.nil)))))) h (by kernel_rfl)
theorem A9{G:PV->Prop}(b:BoxT)(fs:List Fact)(ok:Bool)(i:Int)(q:Nat)(ns:List Str)(h:if (decide (i<(↑(List.length fs):Int)))=true then(decide (0<=i)&&decide (Int.toNat i<List.length (List.map enc fs))&&Enc.sz Fact==3)=true∧(∃ y0:Fact,AV.pv (PV.rptr (PV.cells (List.getD (List.map enc fs) (Int.toNat i) default)))=AV.pv (PV.rptr (PV.cells ((enc) y0)))∧((Go.Pl.preT (fun(x:Lin×Unit)=>decide (List.length x.1.t<=1000000)) [(.agg [(.int .i64 (PV.asInt (List.getD (PV.cells (enc y0)) (0+1) default))),(.sl 2 false (PV.asXs (List.getD (PV.cells (enc y0)) (0+1+1) default)))])])=true∧(∃ y1:List Str,AV.pv (Zf (fun(x:Lin×Unit)=>Ze x.1) [(.agg [(.int .i64 (PV.asInt (List.getD (PV.cells (enc y0)) (0+1) default))),(.sl 2 false (PV.asXs (List.getD (PV.cells (enc y0)) (0+1+1) default)))])])=AV.pv (enc y1)∧((List.isEmpty (List.map enc y1)||Enc.sz Str==1)=true∧((List.length (List.map enc ns)==q&&q==q&&decide ((q+List.length (List.map enc y1))*16<=1099511627776)&&decide (q+List.length (List.map enc y1)<=1099511627776))=true∧(At Yr 0 (Za Yi G) Yh 0 38 [(3,(.row 0 (q+List.length (List.map enc y1)) 0 (q+List.length (List.map enc y1)))),(4,(.ptr 1 0)),(23,(.pv (.sl 3 false (List.map enc fs)))),(24,(.pv (.int .i64 (↑(List.length fs):Int)))),(25,(.pv (.int .i64 (IntKind.wrap IntKind.i64 (i+1)))))] [(.obj (.row false 9 1 (List.map enc ns++List.map enc y1))),(.obj (.box [(.pv (.sl 1 false (List.map enc b.v))),(.pv (.int .i64 b.m))]))]))))))else((X9 176 [(.row 0 q 0 q),(.fn 176 [] [(.ptr 1 0)])] [(.row false 9 1 (List.map enc ns)),(.box [(.pv (.sl 1 false (List.map enc b.v))),(.pv (.int .i64 b.m))])])=true∧(if (List.any (QZ (List.map enc ns)) fun(s:Str)=> !List.contains (dec (enc b.v)) s)=true then G ((.int .i64 7))else(G ((.int .i64 0)))))):At Yr 0 (Za Yi G) Yh 0 38 [(3,.row 0 q 0 q),(4,.ptr 1 0),(23,.pv (enc fs)),(24,.pv (.int .i64 fs.length)),(25,.pv (.int .i64 i))] [.obj (.row false 9 1 (ns.map enc)),.obj (.box [.pv (enc b.v),.pv (.int .i64 b.m)])]:=At.tp (.lit (.ask (.req (.abs (Fact) (fun YY=>AV.pv (PV.rptr (PV.cells ((enc) YY)))) (.lit (.req (.abs (List Str) (fun YY=>AV.pv (enc YY)) (.req (.req (.lit (.nil))))))))) (.req (.keep (.ask (.nil) (.nil)))))) h (by kernel_rfl)
theorem a4n{G:AV×List AObj×List AObj->Prop}(b:BoxT)(fs:List Fact)(ok:Bool)(n:Nat)(l:List Str)(h:(Go.Pl.preT (fun(x:BoxT×Unit)=>ZT x.1) [(.agg [(.sl 1 false (List.map enc b.v)),(.int .i64 b.m)])])=true∧(∃ y0:Bool,AV.pv (Zf (fun(x:BoxT×Unit)=>Xy x.1) [(.agg [(.sl 1 false (List.map enc b.v)),(.int .i64 b.m)])])=AV.pv (enc y0)∧(if (!y0)=true then G (((.pv (.int .i64 1)),([(.row false 9 1 (List.map enc l))],[])))else((Go.Pl.preT (fun(x:List Fact×Unit)=>Zp x.1) [(.sl 3 false (List.map enc fs))])=true∧(∃ y1:Bool,AV.pv (Zf (fun(x:List Fact×Unit)=>XN x.1) [(.sl 3 false (List.map enc fs))])=AV.pv (enc y1)∧(if (!y1)=true then G (((.pv (.int .i64 1)),([(.row false 9 1 (List.map enc l))],[])))else(if (!ok)=true then G (((.pv (.int .i64 1)),([(.row false 9 1 (List.map enc l))],[])))else(At Yr 1 (Zk 1 Yi G) Yh 0 38 [(3,(.row 0 n 0 n)),(4,(.ptr 1 0)),(23,(.pv (.sl 3 false (List.map enc fs)))),(24,(.pv (.int .i64 (↑(List.length (List.map enc fs)):Int)))),(25,(.pv (.int .i64 0)))] [(.obj (.row false 9 1 (List.map enc l))),(.obj (.box [(.pv (.sl 1 false (List.map enc b.v))),(.pv (.int .i64 b.m))]))])))))))):Zc Yr 1 (Zk 1 Yi G) Yh [] (YD 38 [.pv (enc b),.pv (enc fs),.pv (.bool ok),.row 0 n 0 n] [.row false 9 1 (l.map enc)]):=Zc.to (.req (.abs (Bool) (fun YY=>AV.pv (enc YY)) (.ask (.lit (.lit (.lit (.lit (.lit (.lit (.lit (.nil)))))))) (.lit (.req (.abs (Bool) (fun YY=>AV.pv (enc YY)) (.lit (.lit (.ask (.lit (.lit (.lit (.nil)))) (.lit (.lit (.ask (.nil) (.nil))))))))))))) h (by kernel_rfl)
theorem BM{G:AV×List AObj×List AObj->Prop}(b:BoxT)(fs:List Fact)(ok:Bool)(n:Nat)(l:List Str)(i:Int)(q:Nat)(ns:List Str)(h:if (decide (i<(↑(List.length fs):Int)))=true then(decide (0<=i)&&decide (Int.toNat i<List.length (List.map enc fs))&&Enc.sz Fact==3)=true∧(∃ y0:Fact,AV.pv (PV.rptr (PV.cells (List.getD (List.map enc fs) (Int.toNat i) default)))=AV.pv (PV.rptr (PV.cells ((enc) y0)))∧((Go.Pl.preT (fun(x:Lin×Unit)=>decide (List.length x.1.t<=1000000)) [(.agg [(.int .i64 (PV.asInt (List.getD (PV.cells (enc y0)) (0+1) default))),(.sl 2 false (PV.asXs (List.getD (PV.cells (enc y0)) (0+1+1) default)))])])=true∧(∃ y1:List Str,AV.pv (Zf (fun(x:Lin×Unit)=>Ze x.1) [(.agg [(.int .i64 (PV.asInt (List.getD (PV.cells (enc y0)) (0+1) default))),(.sl 2 false (PV.asXs (List.getD (PV.cells (enc y0)) (0+1+1) default)))])])=AV.pv (enc y1)∧((List.isEmpty (List.map enc y1)||Enc.sz Str==1)=true∧((List.length (List.map enc ns)==q&&q==q&&decide ((q+List.length (List.map enc y1))*16<=1099511627776)&&decide (q+List.length (List.map enc y1)<=1099511627776))=true∧(At Yr 1 (Zk 1 Yi G) Yh 0 38 [(3,(.row 0 (q+List.length (List.map enc y1)) 0 (q+List.length (List.map enc y1)))),(4,(.ptr 1 0)),(23,(.pv (.sl 3 false (List.map enc fs)))),(24,(.pv (.int .i64 (↑(List.length fs):Int)))),(25,(.pv (.int .i64 (IntKind.wrap IntKind.i64 (i+1)))))] [(.obj (.row false 9 1 (List.map enc ns++List.map enc y1))),(.obj (.box [(.pv (.sl 1 false (List.map enc b.v))),(.pv (.int .i64 b.m))]))]))))))else((X9 176 [(.row 0 q 0 q),(.fn 176 [] [(.ptr 1 0)])] [(.row false 9 1 (List.map enc ns)),(.box [(.pv (.sl 1 false (List.map enc b.v))),(.pv (.int .i64 b.m))])])=true∧(if (List.any (QZ (List.map enc ns)) fun(s:Str)=> !List.contains (dec (enc b.v)) s)=true then G (((.pv (.int .i64 7)),([(.row false 9 1 (List.map enc ns))],[])))else(G (((.pv (.int .i64 0)),([(.row false 9 1 (List.map enc ns))],[]))))))):At Yr 1 (Zk 1 Yi G) Yh 0 38 [(3,.row 0 q 0 q),(4,.ptr 1 0),(23,.pv (enc fs)),(24,.pv (.int .i64 fs.length)),(25,.pv (.int .i64 i))] [.obj (.row false 9 1 (ns.map enc)),.obj (.box [.pv (enc b.v),.pv (.int .i64 b.m)])]:=At.to (.lit (.ask (.req (.abs (Fact) (fun YY=>AV.pv (PV.rptr (PV.cells ((enc) YY)))) (.lit (.req (.abs (List Str) (fun YY=>AV.pv (enc YY)) (.req (.req (.lit (.nil))))))))) (.req (.keep (.ask (.nil) (.nil)))))) h (by kernel_rfl)
def RO:IC:=(.seq (.reg [⟨(some 2),(.box 2 (.t 0)),0,none⟩,⟨(some 3),(.box 1 (.t 1)),1,none⟩,⟨(some 4),(.mv (.c .nilfn)),2,none⟩] none) (.seq (.reg [⟨(some 5),(.mkfn 177 [] [(.t 2),(.t 3)]),0,none⟩,⟨(some 4),(.mv (.t 5)),0,none⟩] none) .ret))
def Po:List IRes:=[(.tmp 4)]
abbrev c1q:Nat:=6
def Ep:ZE:=Xg []
theorem c2w{G:AV×List AObj×List AObj->Prop}(b:BoxT)(fs:List Fact)(h:G (((.fn 177 [] [(.ptr 0 0),(.ptr 1 0)]),([],[(.box [(.pv (.sl 1 false (List.map enc b.v))),(.pv (.int .i64 b.m))]),(.box [(.pv (.sl 3 false (List.map enc fs)))])])))):Zc Ep 0 (Zk 0 Po G) RO [] (YD 6 [.pv (enc b),.pv (enc fs)] []):=Zc.to (.nil) h (by kernel_rfl)
def U9:IC:=(.block 1 (.reg [⟨(some 20),(.load false [(.sl 1)] (.t 7)),0,none⟩,⟨(some 21),(.mv (.t 8)),0,none⟩,⟨(some 22),(.bslice 34 1 1 (.sl 0 true []) [(0,(.t 21))]),0,none⟩,⟨(some 23),(.append 34 1 24 (.t 20) (.t 22)),1,none⟩,⟨none,(.store 1 (.t 7) (.t 23)),2,none⟩] none))
def Pi:ZE:=Xg [(116,.pure (preT (fun x:BoxT×List Fact×Bool×NilS×Unit=>ZT x.1&&Zp x.2.1&&decide (x.2.1.length<=100))) (Zf (fun x:BoxT×List Fact×Bool×NilS×Unit=>Zo x.1 x.2.1 x.2.2.1 []))),(117,.own Yx Xm)]
theorem b6u{G:Zu->Prop}(E:Yl)(p:List Int)(vs:List Coef)(h:E 99 ⟨ZF 25 0 [],[(.obj (.box [(.row 1 1 0 1)])),(.obj (.row false 34 1 [(.sl 1 false (List.map enc p))]))]⟩ (fun x S'=>QL Pi E 1 (fun st=>G st.heap) U9 99 x S')):Zv Pi E 1 (fun st=>G st.heap) (.inl U9) [.seq (.ext 99 [])] ⟨ZF 25 0 [(7,.ptr 0 0),(8,.pv (enc p)),(18,.pv (enc p)),(19,.pv (enc vs))],[.obj (.box [.pv (.sl 0 true [])])]⟩:=Zv.mh (.lit (.lit (.lit (.lit (.lit (.nil)))))) h (by kernel_rfl)
theorem c0s{G:Zu->Prop}(E:Yl)(p:List Int)(vs:List Coef)(n:Nat)(xs:List (List Int))(h:(List.length (List.map enc xs)==n&&n==n&&decide ((n+List.length (List.drop 0 (List.take 1 [enc p])))*24<=1099511627776)&&decide (n+List.length (List.drop 0 (List.take 1 [enc p]))<=1099511627776))=true∧(E 99 ⟨ZF 25 0 [],[(.obj (.box [(.row 1 (n+List.length (List.drop 0 (List.take 1 [enc p]))) 0 (n+List.length (List.drop 0 (List.take 1 [enc p]))))])),(.obj (.row false 34 1 (List.map enc xs++List.drop 0 (List.take 1 [enc p]))))]⟩ (fun x S'=>QL Pi E 2 (fun st=>G st.heap) U9 99 x S'))):Zv Pi E 2 (fun st=>G st.heap) (.inl U9) [.seq (.ext 99 [])] ⟨ZF 25 0 [(7,.ptr 0 0),(8,.pv (enc p)),(18,.pv (enc p)),(19,.pv (enc vs))],[.obj (.box [.row 1 n 0 n]),.obj (.row false 34 1 (xs.map enc))]⟩:=Zv.mh (.lit (.lit (.req (.nil)))) h (by kernel_rfl)
def GY:IC:=(.seq (.reg [⟨(some 2),(.box 2 (.t 0)),0,none⟩,⟨(some 4),(.mv (.c (.sl 0 true []))),1,none⟩,⟨(some 5),(.mv (.c (.int .i64 0))),1,none⟩] none) (.seq (.seq (.reg [⟨(some 9),(.load true [(.sl 1),(.int .i64)] (.t 2)),0,none⟩,⟨(some 10),(.mv (.t 1)),0,none⟩,⟨(some 11),(.call (.c (.fn 116)) [(.t 9),(.t 10),(.c (.bool true)),(.c (.sl 0 true []))]),0,none⟩,⟨(some 6),(.mv (.t 11)),2,none⟩] none) (.seq (.reg [⟨(some 12),(.mv (.t 6)),0,none⟩,⟨(some 13),(.bin .num .neq (.t 12) (.c (.int .i64 0))),0,none⟩] none) (.cond (.t 13) (.seq (.reg [⟨(some 14),(.mv (.t 6)),0,none⟩,⟨(some 4),(.mv (.c (.sl 0 true []))),0,none⟩,⟨(some 5),(.mv (.t 14)),0,none⟩] none) .ret) .skip))) (.seq (.reg [⟨(some 7),(.alloc (.sl 0 true [])),0,none⟩] none) (.seq (.seq (.reg [⟨(some 15),(.load true [(.sl 1),(.int .i64)] (.t 2)),0,none⟩,⟨(some 16),(.mv (.t 1)),0,none⟩,⟨(some 17),(.call (.c (.fn 117)) [(.t 15),(.t 16)]),0,none⟩] none) (.block 0 (.ext 0 [17,18,7,8,21,20,22,23]))) (.seq (.reg [⟨(some 24),(.load false [(.sl 1)] (.t 7)),0,none⟩,⟨(some 4),(.mv (.t 24)),0,none⟩,⟨(some 5),(.mv (.c (.int .i64 0))),0,none⟩] none) .ret)))))
def G8:List IRes:=[(.tmp 4),(.tmp 5)]
abbrev c5y:Nat:=25
def Jk:ZE:=Xg [(116,.pure (preT (fun x:BoxT×List Fact×Bool×NilS×Unit=>ZT x.1&&Zp x.2.1&&decide (x.2.1.length<=100))) (Zf (fun x:BoxT×List Fact×Bool×NilS×Unit=>Zo x.1 x.2.1 x.2.2.1 []))),(117,.own Yx Xm)]
theorem c7y{G:PV->Prop}(E:Yl)(b:BoxT)(fs:List Fact)(h:(Go.Pl.preT (fun(x:BoxT×List Fact×Bool×NilS×Unit)=>ZT x.1&&Zp x.2.1&&decide (List.length x.2.1<=100)) [(.agg [(.sl 1 false (List.map enc b.v)),(.int .i64 b.m)]),(.sl 3 false (List.map enc fs)),(.bool true),(.sl 0 true [])])=true∧(∃ y0:Int,AV.pv (Zf (fun(x:BoxT×List Fact×Bool×NilS×Unit)=>Zo x.1 x.2.1 x.2.2.1 []) [(.agg [(.sl 1 false (List.map enc b.v)),(.int .i64 b.m)]),(.sl 3 false (List.map enc fs)),(.bool true),(.sl 0 true [])])=AV.pv (enc y0)∧(if (y0 != 0)=true then G ((.tup [(.sl 0 true []),(.int .i64 y0)]))else((Yx [(.pv (.agg [(.sl 1 false (List.map enc b.v)),(.int .i64 b.m)])),(.pv (.sl 3 false (List.map enc fs)))] [])=true∧(E 0 ⟨ZF 25 0 [(7,(.ptr 0 0)),(8,.undef),(17,(.fn 177 [] [(.ptr 1 0),(.ptr 2 0)])),(18,.undef),(20,.undef),(21,.undef),(22,.undef),(23,.undef)],[(.obj (.box [(.pv (.sl 0 true []))])),(.obj (.box [(.pv (.sl 1 false (List.map enc b.v))),(.pv (.int .i64 b.m))])),(.obj (.box [(.pv (.sl 3 false (List.map enc fs)))]))]⟩ (fun x S'=>QL Jk E 0 (Za G8 G) GY 0 x S')))))):Zv Jk E 0 (Za G8 G) (.inl GY) [] (Yz 25 [enc b,enc fs]):=Zv.mp (.req (.abs (Int) (fun YY=>AV.pv (enc YY)) (.lit (.ask (.nil) (.req (.keep (.nil))))))) h (by kernel_rfl)
theorem b7v{G:PV->Prop}(E:Yl)(b:BoxT)(fs:List Fact)(h:G ((.tup [(.sl 0 true []),(.int .i64 0)]))):QL Jk E 0 (Za G8 G) GY 0 .normal ⟨ZF 25 0 [(7,.ptr 0 0)],[.obj (.box [.pv (.sl 0 true [])])]⟩:=Zv.mp (.nil) h (by kernel_rfl)
theorem c1v{G:PV->Prop}(E:Yl)(b:BoxT)(fs:List Fact)(n:Nat)(xs:List (List Int))(h:(List.length (List.map enc xs)==n)=true∧(G ((.tup [(.sl 1 false (List.drop 0 (List.take n (List.map enc xs)))),(.int .i64 0)])))):QL Jk E 0 (Za G8 G) GY 0 .normal ⟨ZF 25 0 [(7,.ptr 0 0)],[.obj (.box [.row 1 n 0 n]),.obj (.row false 34 1 (xs.map enc))]⟩:=Zv.mp (.req (.nil)) h (by kernel_rfl)
def GA:IC:=(.seq (.reg [⟨(some 2),(.box 2 (.t 0)),0,none⟩,⟨(some 4),(.mv (.c (.int .i64 0))),1,none⟩,⟨(some 5),(.mv (.c (.int .i64 0))),1,none⟩] none) (.seq (.reg [⟨(some 9),(.load true [(.sl 1),(.int .i64)] (.t 2)),0,none⟩,⟨(some 10),(.mv (.t 1)),0,none⟩,⟨(some 11),(.call (.c (.fn 45)) [(.t 9),(.t 10)]),0,none⟩,⟨(some 8),(.mv (.t 11)),2,none⟩,⟨(some 12),(.extract (.t 8) 0),2,none⟩,⟨(some 13),(.extract (.t 8) 1),2,none⟩,⟨(some 6),(.mv (.t 12)),2,none⟩,⟨(some 7),(.mv (.t 13)),2,none⟩] none) (.seq (.reg [⟨(some 14),(.mv (.t 6)),0,none⟩,⟨(some 15),(.len 1 (.t 14)),0,none⟩,⟨(some 16),(.mv (.t 7)),0,none⟩,⟨(some 4),(.mv (.t 15)),0,none⟩,⟨(some 5),(.mv (.t 16)),0,none⟩] none) .ret)))
def Dc:List IRes:=[(.tmp 4),(.tmp 5)]
abbrev a3g:Nat:=17
def CW:ZE:=Xg [(45,.pure (preT (fun x:BoxT×List Fact×Unit=>ZT x.1&&Zp x.2.1&&decide (x.2.1.length<=100)&&decide (x.1.v.length<=1000))) (Zf (fun x:BoxT×List Fact×Unit=>Xd x.1 x.2.1)))]
theorem a8q{G:PV->Prop}(b:BoxT)(fs:List Fact)(h:(Go.Pl.preT (fun(x:BoxT×List Fact×Unit)=>ZT x.1&&Zp x.2.1&&decide (List.length x.2.1<=100)&&decide (List.length x.1.v<=1000)) [(.agg [(.sl 1 false (List.map enc b.v)),(.int .i64 b.m)]),(.sl 3 false (List.map enc fs))])=true∧(∃ y0:List (List Int)×Int,AV.pv (Zf (fun(x:BoxT×List Fact×Unit)=>Xd x.1 x.2.1) [(.agg [(.sl 1 false (List.map enc b.v)),(.int .i64 b.m)]),(.sl 3 false (List.map enc fs))])=AV.pv (enc y0)∧(G ((.tup [(.int .i64 (↑(List.length (List.map enc y0.1)):Int)),(.int .i64 y0.2)]))))):Zc CW 0 (Za Dc G) GA [] (Yz 17 [enc b,enc fs]):=Zc.tp (.req (.abs (List (List Int)×Int) (fun YY=>AV.pv (enc YY)) (.nil))) h (by kernel_rfl)
end Go.Pl

namespace Go.Pl
open Go.RowKit
open Enc (enc dec is)
open EncL (encL decL isL)
end Go.Pl

namespace Go.Pl
open Go.RowKit
open Enc (enc dec is)
open EncL (encL decL isL)
set_option maxRecDepth 100000
-- IMPOSSIBLE
end Go.Pl

namespace Go.Pl
open Go.RowKit
open Enc (enc dec is)
open EncL (encL decL isL)
end Go.Pl

namespace Go.Pl
open Go.RowKit
open Enc (enc dec is)
open EncL (encL decL isL)
def nmI(l:Lin)(i:Nat):List Str:=(l.t.take i).map (·.v)
theorem Cr(l:Lin){i:Nat}(h:i<l.t.length):(nmI l (i+1)).map (enc:Str->PV)=(nmI l i).map enc++[.str l.t[i].v.s]:=by
 unfold nmI
 rw[List.take_succ_eq_append_getElem h,List.map_append,List.map_append];rfl
theorem Bz(l:Lin){i:Nat}(h:i<=l.t.length):(nmI l i).length=i:=by unfold nmI;rw[List.length_map,List.length_take];omega
theorem ED(l:Lin):nmI l l.t.length=Ze l:=by unfold nmI Ze;rw[List.take_of_length_le (Nat.le_refl _)]
theorem RF{q sz m:Nat}{xs:List PV}(h:xs.length=q)(h1:(q+m)*sz<=1099511627776)(h2:q+m<=1099511627776):(xs.length==q&&q==q&&decide ((q+m)*sz<=1099511627776)&&decide (q+m<=1099511627776))=true:=by simp[h,h1,h2]
theorem Ow(l:Lin)(hl:l.t.length<=1000000): ∀ (k i:Nat),k+i=l.t.length->1<=i ->
  At YI 0 (Zk 0 Yq fun r=>r=Ku (Ze l)) Yt 0 20 [(3,.row 0 i 0 i),(7,.pv (enc l.t)),(8,.pv (.int .i64 l.t.length)),(9,.pv (.int .i64 i))] [.obj (.row false 9 1 ((nmI l i).map enc))]:=by
 intro k
 induction k with
 | zero=>
  intro i hi h1
  obtain rfl:i=l.t.length:=by omega
  refine TN l _ _ (nmI l l.t.length) (Z0 (Yd (by omega)) ?_)
  rw[ED]
  unfold Ku
  have e:(Ze l).length=l.t.length:=by rw[<- ED,Bz l (Nat.le_refl _)]
  rw[e]
 | succ k ih=>
  intro i hi h1
  have hlt:i<l.t.length:=by omega
  refine TN l i i (nmI l i) (ZV (Ya hlt) ⟨ZB hlt rfl,ZY hlt ⟨RF (m:=1) (by rw[List.length_map,Bz l (by omega)]) (by omega) (by omega),?_⟩⟩)
  have:=ih (i+1) (by omega) (by omega)
  rw[Cr l hlt,<- next (by omega)]at this
  exact this
theorem a6j: ∀ args os,Ux args os=true->Zc YI os.length (Zk os.length Yq fun r=>r=QW args os) Yt [] (YD Bo args os):=by
 intro args os h
 unfold Ux at h
 split at h
 ·rename_i a
  simp only[Bool.and_eq_true,Bool.not_eq_true',decide_eq_true_eq]at h
  obtain⟨⟨h1,h2⟩,h3⟩:=h
  obtain⟨l,rfl⟩:=Ym h1
  rw[Enc.dec_enc]at h2 h3
  have hlt:0<l.t.length:=by
   rcases Nat.eq_zero_or_pos l.t.length with e|e
   ·rw[List.length_eq_zero_iff.1 e]at h2;cases h2
   ·exact e
  have ev:QW [.pv (enc l)] []=Ku (Ze l):=by show Ku (Ze (dec (enc l:PV)))=_;rw[Enc.dec_enc]
  rw[ev]
  refine a2a l ?_
  rw[List.length_map]
  refine TF l ((0:Nat):Int) (ZV (Ya hlt) ⟨ZB hlt rfl,ZY hlt ?_⟩)
  have:=Ow l h3 (l.t.length - 1) 1 (by omega) (by omega)
  rw[show(1:Nat)=0+1 from rfl,Cr l hlt]at this
  exact this
 ·cases h
theorem F7: ∀ args os,Uw args os=true->Zc YI os.length (Zk os.length Yq fun r=>r=KY args os) Yt [] (YD Bo args os):=by
 intro args os h
 unfold Uw at h
 split at h
 ·rename_i a
  simp only[Bool.and_eq_true,List.isEmpty_iff]at h
  obtain⟨h1,h2⟩:=h
  obtain⟨l,rfl⟩:=Ym h1
  rw[Enc.dec_enc]at h2
  refine a2a l ?_
  rw[List.length_map]
  exact TF l ((0:Nat):Int) (Z0 (Yd (by rw[h2];simp)) rfl)
 ·cases h
theorem MF(l:Lin)(hl:l.t.length<=1000000): ∀ (k i:Nat),k+i=l.t.length->1<=i ->
  At YI 0 (Za Yq (Zm (Ze l))) Yt 0 20 [(3,.row 0 i 0 i),(7,.pv (enc l.t)),(8,.pv (.int .i64 l.t.length)),(9,.pv (.int .i64 i))] [.obj (.row false 9 1 ((nmI l i).map enc))]:=by
 intro k
 induction k with
 | zero=>
  intro i hi h1
  obtain rfl:i=l.t.length:=by omega
  refine AZ l _ _ (nmI l l.t.length) (Z0 (Yd (by omega)) ⟨by simp[Bz],?_⟩)
  rw[List.drop_zero,List.take_of_length_le (by rw[List.length_map,Bz l (Nat.le_refl _)];exact Nat.le_refl _),ED]
  exact ZK (x:=Ze l) rfl
 | succ k ih=>
  intro i hi h1
  have hlt:i<l.t.length:=by omega
  refine AZ l i i (nmI l i) (ZV (Ya hlt) ⟨ZB hlt rfl,ZY hlt ⟨RF (m:=1) (by rw[List.length_map,Bz l (by omega)]) (by omega) (by omega),?_⟩⟩)
  have:=ih (i+1) (by omega) (by omega)
  rw[Cr l hlt,<- next (by omega)]at this
  exact this
theorem FU: ∀ a:Lin×Unit,decide (a.1.t.length<=1000000)=true->Zc YI 0 (Za Yq (Zm (Ze a.1))) Yt [] (Yz Bo (encL a)):=by
 rintro⟨l,⟨⟩⟩ h
 have h:l.t.length<=1000000:=of_decide_eq_true h
 refine b0s l ?_
 rw[List.length_map]
 by_cases h0:l.t.length=0
 ·refine Bn l ((0:Nat):Int) (Z0 (Yd (by omega)) ?_)
  have:Ze l=[]:=by unfold Ze;rw[List.length_eq_zero_iff.1 h0];rfl
  rw[this]
  exact⟨rfl,rfl⟩
 ·have hlt:0<l.t.length:=by omega
  refine Bn l ((0:Nat):Int) (ZV (Ya hlt) ⟨ZB hlt rfl,ZY hlt ?_⟩)
  have:=MF l h (l.t.length - 1) 1 (by omega) (by omega)
  rw[show(1:Nat)=0+1 from rfl,Cr l hlt]at this
  exact this
theorem b3m: ∀ args os,KX args os=true->Zc F4 os.length (Zk os.length RI fun r=>r=Cn args os) P7 [] (YD b8c args os):=by
 intro args os h
 unfold KX at h
 split at h
 ·rename_i s v m
  simp only[Bool.and_eq_true]at h
  obtain⟨h1,h2⟩:=h
  obtain⟨l,rfl⟩:=Ym h1
  rw[Enc.dec_enc]at h2
  have ev:Cn [.pv (.str s),.ptr 0 0] [.box [.pv (enc l),.pv (.int .i64 m)]]=(.pv (.bool (!(l.contains ⟨s⟩))),[.box [.pv (enc l),.pv (.int .i64 m)]],[]):=by
   show(AV.pv (.bool (!((dec (enc l:PV):List Str).contains ⟨s⟩))),_,_)=_
   rw[Enc.dec_enc]
  rw[ev]
  exact c6g s ⟨l,m⟩ ⟨Zl (l,⟨s⟩,()) rfl h2,Zj (l,⟨s⟩,()) rfl rfl⟩
 ·cases h
theorem Py{n m:Nat}{xs:List PV}(h:Am n m xs=true): ∃ l:List Str,xs=l.map enc∧m=n∧l.length=n∧l.length<=9223372036854775807:=by
 simp only[Am,Bool.and_eq_true,beq_iff_eq]at h
 obtain⟨⟨⟨h1,h2⟩,h3⟩,h4⟩:=h
 obtain⟨l,hl⟩:=Ym h3
 have hl:PV.sl 1 false xs=PV.sl 1 false (l.map enc):=hl
 injection hl with _ _ hx
 subst hx
 have e:QZ (l.map enc)=l:=Enc.dec_enc l
 rw[e]at h4
 exact⟨l,rfl,h1,by simpa using h2,Z8.1 h4⟩
theorem V7(l:List Str):QZ (l.map enc)=l:=Enc.dec_enc l
theorem Gg{l:List Str}{n:Nat}(hn:l.length=n)(hs:l.length<=9223372036854775807):Am n n (l.map enc)=true:=by
 have hc:XX (List Str) (.sl 1 false (l.map enc))=true:=ZI l
 simp only[Am,hc,V7,Z8.2 hs,List.length_map,hn]
 simp
theorem b2h{l:List Str}{i:Nat}(h:i<l.length):List.getD (List.map (enc:Str->PV) l) (0+Int.toNat (i:Int)) default=enc l[i]:=by simp[List.getD,h]
theorem b7f(s:List UInt8)(l:List Str)(m:Int)(h:Zx l=true):KX [.pv (.str s),.ptr 0 0] [.box [.pv (enc l),.pv (.int .i64 m)]]=true:=by
 show(XX (List Str) (enc l)&&Zx (dec (enc l:PV):List Str))=true
 rw[ZI,Enc.dec_enc,h];rfl
theorem a7h(l:List Str)(n:Nat)(b:BoxT)(hn:l.length=n)(hl:l.length<=9223372036854775807)(hb:Zx b.v=true): ∀ (j i:Nat),j+i=n->(∀ k (h:k<l.length),k<i->(!(b.v.contains l[k]))=false) ->
  At Ji 2 (Zk 2 Qo fun r=>r=(.pv (.int .i64 (Zy (fun s:Str=> !(b.v.contains s)) l)),[.row false 9 1 (l.map enc),.box [.pv (enc b.v),.pv (.int .i64 b.m)]],[])) UZ 0 19 [(0,.row 0 n 0 n),(1,.fn 176 [] [.ptr 1 0]),(7,.pv (.int .i64 n)),(8,.pv (.int .i64 i))] [.obj (.row false 9 1 (l.map enc)),.obj (.box [.pv (enc b.v),.pv (.int .i64 b.m)])]:=by
 intro j
 induction j with
 | zero=>
  intro i hi hno
  refine b4y l n b i (Z0 (Yd (by omega)) ?_)
  rw[U5 _ _ (fun k hk=>hno k hk (by omega))]
  rfl
 | succ j ih=>
  intro i hi hno
  have hlt:i<l.length:=by omega
  refine b4y l n b i (ZV (Ya (by omega)) ?_)
  simp only[b2h hlt]
  refine⟨by simp;omega,by simp;omega,rfl,b7f _ _ _ hb,?_⟩
  rw[Enc.dec_enc]
  refine Vu (fun h=> ?_) fun h=> ?_
  ·have h:b.v.contains l[i]=false:=h
   rw[Qc (fun s:Str=> !(b.v.contains s)) l i hlt hno (by rw[h];rfl)]
   rfl
  ·have h:b.v.contains l[i]=true:=h
   rw[next (by omega)]
   refine ih (i+1) (by omega) fun k hk hki=> ?_
   by_cases e:k=i
   ·subst e;rw[h];rfl
   ·exact hno k hk (by omega)
theorem b8x: ∀ args os,X9 176 args os=true->Zc Ji os.length (Zk os.length Qo fun r=>r=Ce args os) UZ [] (YD c4c args os):=by
 intro args os h
 unfold X9 at h
 split at h
 ·rename_i n m g ty xs v k
  simp only[Bool.and_eq_true,beq_iff_eq]at h
  obtain⟨⟨⟨⟨rfl,rfl⟩,h3⟩,h4⟩,h5⟩:=h
  obtain⟨l,rfl,rfl,hn,hl⟩:=Py h3
  obtain⟨bv,rfl⟩:=Ym h4
  rw[Enc.dec_enc]at h5
  have ev:Ce [.row 0 m 0 m,.fn 176 [] [.ptr 1 0]] [.row false 9 1 (l.map enc),.box [.pv (enc bv),.pv (.int .i64 k)]]=(.pv (.int .i64 (Zy (fun s:Str=> !(bv.contains s)) l)),[.row false 9 1 (l.map enc),.box [.pv (enc bv),.pv (.int .i64 k)]],[]):=by
   show(AV.pv (.int .i64 (Zy (fun s:Str=> !((dec (enc bv:PV):List Str).contains s)) (QZ (l.map enc)))),_,_)=_
   rw[Enc.dec_enc,V7]
  rw[ev]
  exact c7k l m ⟨bv,k⟩ (a7h l m ⟨bv,k⟩ hn hl h5 m 0 rfl fun k _ h=>by omega)
 ·rename_i g v k
  simp only[Bool.and_eq_true,beq_iff_eq]at h
  obtain⟨⟨rfl,h4⟩,h5⟩:=h
  obtain⟨bv,rfl⟩:=Ym h4
  exact c8f ⟨bv,k⟩ (c5p ⟨bv,k⟩ 0 (Z0 (by decide) rfl))
 ·cases h
theorem b7q: ∀ args os,X9 176 args os=true->Zc a0o os.length (Zk os.length R6 fun r=>r=PW args os) Ay [] (YD c5e args os):=by
 intro args os h
 have h0:=h
 unfold X9 at h
 split at h
 ·rename_i n m g ty xs v k
  simp only[Bool.and_eq_true,beq_iff_eq]at h
  obtain⟨⟨⟨⟨rfl,rfl⟩,h3⟩,h4⟩,h5⟩:=h
  obtain⟨l,rfl,rfl,hn,hl⟩:=Py h3
  obtain⟨bv,rfl⟩:=Ym h4
  refine c8g l m ⟨bv,k⟩ ⟨h0,?_⟩
  rw[XL]
  rfl
 ·rename_i g v k
  simp only[Bool.and_eq_true,beq_iff_eq]at h
  obtain⟨⟨rfl,h4⟩,h5⟩:=h
  obtain⟨bv,rfl⟩:=Ym h4
  exact c6v ⟨bv,k⟩ ⟨h0,rfl⟩
 ·cases h
def J2(fs:List Fact):List Str:=fs.flatMap fun f=>Ze f.l
theorem Ky{fs:List Fact}{i:Nat}(h:i<fs.length):J2 (fs.take (i+1))=J2 (fs.take i)++Ze fs[i].l:=by
 unfold J2
 rw[List.take_succ_eq_append_getElem h,List.flatMap_append];simp
theorem Qe{fs:List Fact}(hv:XN fs=true){i:Nat}(hi:i<fs.length):(Ze fs[i].l).length<=12:=by
 unfold Ze
 rw[List.length_map]
 unfold XN at hv
 exact G9 (List.all_eq_true.1 hv _ (List.getElem_mem hi))
theorem Gr{fs:List Fact}(hv:XN fs=true): ∀ i,i<=fs.length->(J2 (fs.take i)).length<=12*i
 | 0,_=>by simp[J2]
 | i+1,h=>by
  rw[Ky (by omega),List.length_append]
  have:=Gr hv i (by omega)
  have:=Qe hv (i:=i) (by omega)
  omega
def inE(vs:List Str)(ns:List Str):Int:=if Gj vs ns then 0 else 7
theorem TB(vs ns:List Str):(ns.any fun s=> !(vs.contains s)) = !(Gj vs ns):=by
 unfold Gj
 induction ns with
 | nil=>rfl
 | cons s r ih=>simp only[List.any_cons,List.all_cons,ih,Bool.not_and]
theorem Nb(b:BoxT)(fs:List Fact)(ok:Bool)(l:List Str)(hb:Zx b.v=true)(hf:Zp fs=true)(hv:XN fs=true)(hfl:fs.length<=100)(hl:l.length<=1000)(n:Nat)(ls:List Str): ∀ (k i:Nat),k+i=fs.length ->
  At Yr 1 (Zk 1 Yi fun r=>r=(.pv (.int .i64 (inE b.v (l++J2 fs))),[.row false 9 1 ((l++J2 fs).map enc)],[])) Yh 0 38 [(3,.row 0 (l++J2 (fs.take i)).length 0 (l++J2 (fs.take i)).length),(4,.ptr 1 0),(23,.pv (enc fs)),(24,.pv (.int .i64 fs.length)),(25,.pv (.int .i64 i))] [.obj (.row false 9 1 ((l++J2 (fs.take i)).map enc)),.obj (.box [.pv (enc b.v),.pv (.int .i64 b.m)])]:=by
 intro k
 induction k with
 | zero=>
  intro i hi
  have hn:=Gr hv i (by omega)
  have hd:fs.take i=fs:=List.take_of_length_le (by omega)
  rw[hd]at hn ⊢
  refine BM b fs ok n ls i _ (l++J2 fs) (Z0 (Yd (by omega)) ⟨?_,?_⟩)
  ·show(176==176&&9==9&&Am _ _ _&&XX (List Str) (enc b.v)&&Zx (dec (enc b.v:PV):List Str))=true
   rw[Gg rfl (by rw[List.length_append];omega),ZI,Enc.dec_enc,hb];rfl
  ·rw[V7,Enc.dec_enc,TB]
   unfold inE
   refine Vu (fun h=> ?_) fun h=> ?_
   ·rw[h];rfl
   ·rw[h];rfl
 | succ k ih=>
  intro i hi
  have hlt:i<fs.length:=by omega
  have hn:=Gr hv i (by omega)
  have hnb:=Qe hv hlt
  have hnm:(Ze fs[i].l).length=fs[i].l.t.length:=by unfold Ze;rw[List.length_map]
  refine BM b fs ok n ls i _ (l++J2 (fs.take i)) (ZV (Ya hlt) ⟨ZB hlt rfl,ZY hlt ⟨Zl (fs[i].l,()) rfl (decide_eq_true (by show fs[i].l.t.length<=_;omega)),Zj (fs[i].l,()) rfl ⟨by simp,RF (by rw[List.length_map]) (by rw[List.length_map,List.length_append];show(_+(Ze fs[i].l).length)*16<=_;omega) (by rw[List.length_map,List.length_append];show _+(Ze fs[i].l).length<=_;omega),?_⟩⟩⟩)
  have:=ih (i+1) (by omega)
  rw[Ky hlt,<- List.append_assoc,show(l++J2 (fs.take i)++Ze fs[i].l).map (enc:Str->PV)=(l++J2 (fs.take i)).map enc++(Ze fs[i].l).map enc from List.map_append,List.length_append (as:=l++J2 (fs.take i)),<- next (by omega)]at this
  rw[List.length_map]
  exact this
theorem Le: ∀ args os,WN args os=true->Zc Yr os.length (Zk os.length Yi fun r=>r=Uy args os) Yh [] (YD S9 args os):=by
 intro args os h
 unfold WN at h
 split at h
 ·rename_i b0 f0 ok n m ty xs
  simp only[Bool.and_eq_true,beq_iff_eq,decide_eq_true_eq,Bool.not_eq_true']at h
  obtain⟨⟨⟨⟨⟨⟨⟨⟨⟨h1,h2⟩,rfl⟩,h4⟩,h5⟩,h6⟩,h7⟩,h8⟩,h9⟩,h10⟩:=h
  obtain⟨b,rfl⟩:=Ym h1
  obtain⟨fs,rfl⟩:=Ym h2
  obtain⟨l,rfl,rfl,hn,hl⟩:=Py h4
  rw[Enc.dec_enc]at h7 h8 h9
  rw[List.length_map]at h10
  have ev:Uy [.pv (enc b),.pv (enc fs),.pv (.bool ok),.row 0 m 0 m] [.row false 9 1 (l.map enc)]=(.pv (.int .i64 (Zo b fs ok l)),[.row false 9 1 ((ckV b fs ok l).map enc)],[]):=by
   show(AV.pv (.int .i64 (Zo (dec (enc b:PV)) (dec (enc fs:PV)) ok (QZ (l.map enc)))),[AObj.row false 9 1 ((ckV (dec (enc b:PV)) (dec (enc fs:PV)) ok (QZ (l.map enc))).map enc)],_)=_
   rw[Enc.dec_enc,Enc.dec_enc,V7]
  rw[ev]
  have hb:Zx b.v=true:=by simp only[ZT,WF,Bool.and_eq_true]at h7;exact h7.1
  refine a4n b fs ok m l ⟨Zl (b,()) rfl h7,Zj (b,()) rfl (Vu (fun h=> ?_) fun hbv=>⟨Zl (fs,()) rfl h8,Zj (fs,()) rfl (Vu (fun h=> ?_) fun hfv=>Vu (fun h=> ?_) fun hok=> ?_)⟩)⟩
  ·have h:Xy b=false:=h
   simp[Zo,ckV,h]
  ·have h:XN fs=false:=h
   simp[Zo,ckV,h]
  ·have h:ok=false:=h
   simp[Zo,ckV,h]
  ·have hbv:Xy b=true:=hbv
   have hfv:XN fs=true:=hfv
   have hok:ok=true:=hok
   have e1:Zo b fs ok l=inE b.v (l++J2 fs):=by unfold Zo;rw[hbv,hfv,hok];rfl
   have e2:ckV b fs ok l=l++J2 fs:=by unfold ckV;rw[hbv,hfv,hok];rfl
   rw[e1,e2,List.length_map]
   have:=Nb b fs ok l hb h8 hfv h9 (by omega) m l fs.length 0 (by omega)
   rw[List.take_zero]at this
   have e0:l++J2 []=l:=by simp[J2]
   rw[e0,hn]at this
   exact this
 ·cases h
theorem Lt(b:BoxT)(fs:List Fact)(ok:Bool)(hb:Zx b.v=true)(hf:Zp fs=true)(hv:XN fs=true)(hfl:fs.length<=100): ∀ (k i:Nat),k+i=fs.length ->
  At Yr 0 (Za Yi (Zm (inE b.v (J2 fs)))) Yh 0 38 [(3,.row 0 (J2 (fs.take i)).length 0 (J2 (fs.take i)).length),(4,.ptr 1 0),(23,.pv (enc fs)),(24,.pv (.int .i64 fs.length)),(25,.pv (.int .i64 i))] [.obj (.row false 9 1 ((J2 (fs.take i)).map enc)),.obj (.box [.pv (enc b.v),.pv (.int .i64 b.m)])]:=by
 intro k
 induction k with
 | zero=>
  intro i hi
  have hn:=Gr hv i (by omega)
  have hd:fs.take i=fs:=List.take_of_length_le (by omega)
  rw[hd]at hn ⊢
  refine A9 b fs ok i _ (J2 fs) (Z0 (Yd (by omega)) ⟨?_,?_⟩)
  ·show(176==176&&9==9&&Am _ _ _&&XX (List Str) (enc b.v)&&Zx (dec (enc b.v:PV):List Str))=true
   rw[Gg rfl (by omega),ZI,Enc.dec_enc,hb];rfl
  ·rw[V7,Enc.dec_enc,TB]
   unfold inE
   refine Vu (fun h=> ?_) fun h=> ?_
   ·rw[h];exact⟨rfl,rfl⟩
   ·rw[h];exact⟨rfl,rfl⟩
 | succ k ih=>
  intro i hi
  have hlt:i<fs.length:=by omega
  have hn:=Gr hv i (by omega)
  have hnb:=Qe hv hlt
  have hnm:(Ze fs[i].l).length=fs[i].l.t.length:=by unfold Ze;rw[List.length_map]
  refine A9 b fs ok i _ (J2 (fs.take i)) (ZV (Ya hlt) ⟨ZB hlt rfl,ZY hlt ⟨Zl (fs[i].l,()) rfl (decide_eq_true (by show fs[i].l.t.length<=_;omega)),Zj (fs[i].l,()) rfl ⟨by simp,RF (by rw[List.length_map]) (by rw[List.length_map];show(_+(Ze fs[i].l).length)*16<=_;omega) (by rw[List.length_map];show _+(Ze fs[i].l).length<=_;omega),?_⟩⟩⟩)
  have:=ih (i+1) (by omega)
  rw[Ky hlt,show(J2 (fs.take i)++Ze fs[i].l).map (enc:Str->PV)=(J2 (fs.take i)).map enc++(Ze fs[i].l).map enc from List.map_append,List.length_append (as:=J2 (fs.take i)),<- next (by omega)]at this
  rw[List.length_map]
  exact this
theorem OB(b:BoxT)(fs:List Fact)(ok:Bool)(hb:Zx b.v=true)(hf:Zp fs=true)(hv:XN fs=true)(hfl:fs.length<=100): ∀ (k i:Nat),k+i=fs.length->J2 (fs.take i)=[] ->
  At Yr 0 (Za Yi (Zm (inE b.v (J2 fs)))) Yh 0 38 [(3,.pv (.sl 0 true [])),(4,.ptr 0 0),(23,.pv (enc fs)),(24,.pv (.int .i64 fs.length)),(25,.pv (.int .i64 i))] [.obj (.box [.pv (enc b.v),.pv (.int .i64 b.m)])]:=by
 intro k
 induction k with
 | zero=>
  intro i hi h0
  have hd:fs.take i=fs:=List.take_of_length_le (by omega)
  rw[hd]at h0
  refine Bl b fs ok i (Z0 (Yd (by omega)) ⟨?_,?_⟩)
  ·show(176==176&&XX (List Str) (enc b.v)&&Zx (dec (enc b.v:PV):List Str))=true
   rw[ZI,Enc.dec_enc,hb];rfl
  ·rw[h0]
   exact⟨rfl,rfl⟩
 | succ k ih=>
  intro i hi h0
  have hlt:i<fs.length:=by omega
  have hnb:=Qe hv hlt
  have hnm:(Ze fs[i].l).length=fs[i].l.t.length:=by unfold Ze;rw[List.length_map]
  refine Bl b fs ok i (ZV (Ya hlt) ⟨ZB hlt rfl,ZY hlt ⟨Zl (fs[i].l,()) rfl (decide_eq_true (by show fs[i].l.t.length<=_;omega)),Zj (fs[i].l,()) rfl ⟨by simp,Xj (fun h=> ?_) fun h=>⟨?_,?_⟩⟩⟩⟩)
  ·have h:Ze fs[i].l=[]:=by simpa using h
   rw[next (by omega)]
   exact ih (i+1) (by omega) (by rw[Ky hlt,h0,h];rfl)
  ·rw[List.length_map]
   show(true&&decide ((0+(Ze fs[i].l).length)*16<=1099511627776)&&decide (0+(Ze fs[i].l).length<=1099511627776))=true
   rw[decide_eq_true (by omega),decide_eq_true (by omega)];rfl
  ·have:=Lt b fs ok hb hf hv hfl k (i+1) (by omega)
   rw[Ky hlt,h0,List.nil_append,<- next (by omega)]at this
   rw[List.length_map]
   show At Yr 0 _ Yh 0 38 [(3,.row 0 (0+(Ze fs[i].l).length) 0 (0+(Ze fs[i].l).length)),_,_,_,_] _
   rw[Nat.zero_add]
   exact this
theorem Ol: ∀ a:BoxT×List Fact×Bool×NilS×Unit,(ZT a.1&&Zp a.2.1&&decide (a.2.1.length<=100))=true->Zc Yr 0 (Za Yi (Zm (Zo a.1 a.2.1 a.2.2.1 []))) Yh [] (Yz S9 (encL a)):=by
 rintro⟨b,fs,ok,⟨⟩,⟨⟩⟩ h
 simp only[Bool.and_eq_true,decide_eq_true_eq]at h
 obtain⟨⟨h7,h8⟩,h9⟩:=h
 have hb:Zx b.v=true:=by have:=h7;simp only[ZT,WF,Bool.and_eq_true]at this;exact this.1
 show Zc Yr 0 (Za Yi (Zm (Zo b fs ok []))) _ _ _
 refine a8p b fs ok ⟨Zl (b,()) rfl h7,Zj (b,()) rfl (Vu (fun h=> ?_) fun hbv=>⟨Zl (fs,()) rfl h8,Zj (fs,()) rfl (Vu (fun h=> ?_) fun hfv=>Vu (fun h=> ?_) fun hok=> ?_)⟩)⟩
 ·have h:Xy b=false:=h
  exact Ka (by simp[Zo,h])
 ·have h:XN fs=false:=h
  exact Ka (by simp[Zo,h])
 ·have h:ok=false:=h
  exact Ka (by simp[Zo,h])
 ·have hbv:Xy b=true:=hbv
  have hfv:XN fs=true:=hfv
  have hok:ok=true:=hok
  have e1:Zo b fs ok []=inE b.v (J2 fs):=by unfold Zo;rw[hbv,hfv,hok];rfl
  rw[e1,List.length_map]
  exact OB b fs ok hb h8 hfv h9 fs.length 0 (by omega) rfl
end Go.Pl

