/-
  Texts of mine that belong together (packed by pack.py), for every input: TyL, TyM, TyN, TyT, TyO, TyS, GLb, GLa, QLa, QLb, GLc, QLc, GLd, QLd, TyU, QLh, QLm, GLe, QLe, GLg, QLg, QLf, GLi, GL1, QL1, QL2, QLi, QLj, QL3, QL4, GL5, QL5, GL7, QL7, TyR, GLr, QRp, QRq, TyRa, GRa, QGa, GRb, TyP, GLo, QLq, QGb, QGc, GRp, QGp, QLr, GLm, GLk.
-/
import Derived.Test.YtjfgiaooglnomaaGreatDoorKE2
import Derived.KernelRfl
import Derived.Lib.AtoiAllMem
import Derived.Lib.AtoiAllCases
import Derived.Lib.ItoaNum
set_option linter.unusedVariables false
set_option linter.unusedSimpArgs false
namespace Go.Pl
open Go.RowKit
open Enc (enc dec is)
open EncL (encL decL isL)
structure Coef where
 v:Str
 c:Int
 deriving DecidableEq
instance:Enc Coef where
 sz:=2
 enc x:=.agg [enc x.v,enc x.c]
 dec | .agg [a,b]=>⟨dec a,dec b⟩|_=>⟨⟨[]⟩,0⟩
 is | .agg [a,b]=>is Str a&&is Int b|_=>false
 is_enc v:=by simp
 dec_enc v:=by simp
 sub p h:=by
  cases p with
  | agg xs=>
   match xs,h with
   | [a,b],h=>
    simp only[Bool.and_eq_true]at h
    exact .agg (.cons (Enc.sub a h.1).2 (.cons (Enc.sub b h.2).2 .nil))
  | _=>cases h
structure Lin where
 k:Int
 t:List Coef
 deriving DecidableEq
instance:Enc Lin where
 sz:=2
 enc x:=.agg [enc x.k,enc x.t]
 dec | .agg [a,b]=>⟨dec a,dec b⟩|_=>⟨0,[]⟩
 is | .agg [a,b]=>is Int a&&is (List Coef) b|_=>false
 is_enc v:=by simp
 dec_enc v:=by simp
 sub p h:=by
  cases p with
  | agg xs=>
   match xs,h with
   | [a,b],h=>
    simp only[Bool.and_eq_true]at h
    exact .agg (.cons (Enc.sub a h.1).2 (.cons (Enc.sub b h.2).2 .nil))
  | _=>cases h
@[simp] theorem d2r (a b : PV) : is Coef (.agg [a, b]) = (is Str a && is Int b) := rfl
@[simp] theorem d0m (a b : PV) : (dec (.agg [a, b]) : Coef) = ⟨dec a, dec b⟩ := rfl
@[simp] theorem d2t (a b : PV) : is Lin (.agg [a, b]) = (is Int a && is (List Coef) b) := rfl
@[simp] theorem d2e (a b : PV) : (dec (.agg [a, b]) : Lin) = ⟨dec a, dec b⟩ := rfl
def digB(c:UInt8):Bool:=decide (48<=c)&&decide (c<=57)
def WW(c:UInt8):Bool:=decide (97<=c)&&decide (c<=122)
def ZG(s:Str):Bool:=match s.s with
 | []=>false
 | c::r=>if c=95 then r.all digB&& !r.isEmpty&&decide (r.head? ≠ some 48)&&decide (r.length<=9)else WW c&&r.all (fun c=>WW c||digB c)&&decide (r.length<=29)
def YP(n:Int):Bool:=decide (-1000000<=n)&&decide (n<=1000000)
def Tq:List Coef->Bool
 | a::b::l=>decide (a.v.s<b.v.s)&&Tq (b::l)
 | _=>true
def Zw(l:Lin):Bool:=l.t.all (fun t=>ZG t.v&&decide (t.c≠0)&&YP t.c)&&Tq l.t&&YP l.k&&decide (l.t.length<=12)
def atM(m:List (Str×Int))(s:List UInt8):Int:=((m.find? fun p=>p.1.s==s).map (·.2)).getD 0
end Go.Pl
namespace Go.Pl
open Go.RowKit
open Enc (enc dec is)
open EncL (encL decL isL)
structure Fact where
 eq:Bool
 l:Lin
 deriving DecidableEq
instance:Enc Fact where
 sz:=3
 enc x:=.agg [enc x.eq,enc x.l.k,enc x.l.t]
 dec | .agg [a,b,c]=>⟨dec a,⟨dec b,dec c⟩⟩|_=>⟨false,⟨0,[]⟩⟩
 is | .agg [a,b,c]=>is Bool a&&is Int b&&is (List Coef) c|_=>false
 is_enc v:=by simp
 dec_enc v:=by simp
 sub p h:=by
  cases p with
  | agg xs=>
   match xs,h with
   | [a,b,c],h=>
    simp only[Bool.and_eq_true]at h
    exact .agg (.cons (Enc.sub a h.1.1).2 (.cons (Enc.sub b h.1.2).2 (.cons (Enc.sub c h.2).2 .nil)))
  | _=>cases h
@[simp] theorem d2q (a b c : PV) : is Fact (.agg [a, b, c]) = (is Bool a && is Int b && is (List Coef) c) := rfl
@[simp] theorem d2b (a b c : PV) : (dec (.agg [a, b, c]) : Fact) = ⟨dec a, ⟨dec b, dec c⟩⟩ := rfl
structure Bnd where
 kind:Int
 v:Str
 dim:Lin
 row:Str
 dims:List Lin
 elem:Str
 deriving DecidableEq
instance:Enc Bnd where
 sz:=7
 enc x:=.agg [enc x.kind,enc x.v,enc x.dim.k,enc x.dim.t,enc x.row,enc x.dims,enc x.elem]
 dec | .agg [a,b,c,d,e,f,g]=>⟨dec a,dec b,⟨dec c,dec d⟩,dec e,dec f,dec g⟩|_=>⟨0,⟨[]⟩,⟨0,[]⟩,⟨[]⟩,[],⟨[]⟩⟩
 is | .agg [a,b,c,d,e,f,g]=>is Int a&&is Str b&&is Int c&&is (List Coef) d&&is Str e&&is (List Lin) f&&is Str g|_=>false
 is_enc v:=by simp
 dec_enc v:=by simp
 sub p h:=by
  cases p with
  | agg xs=>
   match xs,h with
   | [a,b,c,d,e,f,g],h=>
    simp only[Bool.and_eq_true]at h
    exact .agg (.cons (Enc.sub a h.1.1.1.1.1.1).2 (.cons (Enc.sub b h.1.1.1.1.1.2).2 (.cons (Enc.sub c h.1.1.1.1.2).2 (.cons (Enc.sub d h.1.1.1.2).2 (.cons (Enc.sub e h.1.1.2).2 (.cons (Enc.sub f h.1.2).2 (.cons (Enc.sub g h.2).2 .nil)))))))
  | _=>cases h
@[simp] theorem d3j (a b c d e f g : PV) : is Bnd (.agg [a, b, c, d, e, f, g]) = (is Int a && is Str b && is Int c && is (List Coef) d && is Str e && is (List Lin) f && is Str g) := rfl
@[simp] theorem d2o (a b c d e f g : PV) : (dec (.agg [a, b, c, d, e, f, g]) : Bnd) = ⟨dec a, dec b, ⟨dec c, dec d⟩, dec e, dec f, dec g⟩ := rfl
inductive Cert where
 | mk (kind:Int) (mults:List Int) (lin:Lin) (kids:List Cert)
mutual
def KT:Cert->PV
 | .mk k m l ks=>.agg [enc k,enc m,enc l.k,enc l.t,.sl 5 false (Wv ks)]
def Wv:List Cert->List PV
 | []=>[]
 | c::cs=>KT c::Wv cs
end
mutual
def GX:PV->Cert
 | .agg [a,b,c,d,.sl _ _ ks]=>.mk (dec a) (dec b) ⟨dec c,dec d⟩ (Vz ks)
 | _=>.mk 0 [] ⟨0,[]⟩ []
def Vz:List PV->List Cert
 | []=>[]
 | p::ps=>GX p::Vz ps
end
mutual
def Qv:PV->Bool
 | .agg [a,b,c,d,.sl s _ ks]=>is Int a&&is (List Int) b&&is Int c&&is (List Coef) d&&(ks.isEmpty||s==5)&&QN ks
 | _=>false
def QN:List PV->Bool
 | []=>true
 | p::ps=>Qv p&&QN ps
end
theorem Et(cs:List Cert):Wv cs=cs.map KT:=by
 induction cs with
 | nil=>simp[Wv]
 | cons c cs ih=>simp[Wv,ih]
theorem O0(cs:List PV):Vz cs=cs.map GX:=by
 induction cs with
 | nil=>simp[Vz]
 | cons c cs ih=>simp[Vz,ih]
theorem EM(cs:List PV):QN cs=cs.all Qv:=by
 induction cs with
 | nil=>simp[QN]
 | cons c cs ih=>simp[QN,ih]
mutual
theorem a4h: ∀ c:Cert,Qv (KT c)=true
 | .mk k m l ks=>by
  have h:=M6 ks
  simp only[KT,Qv,Enc.is_enc,Bool.true_and,Bool.and_eq_true,h,and_true]
  simp
theorem M6: ∀ cs:List Cert,QN (Wv cs)=true
 | []=>by simp[Wv,QN]
 | c::cs=>by simp[Wv,QN,a4h c,M6 cs]
end
mutual
theorem a2x: ∀ c:Cert,GX (KT c)=c
 | .mk k m l ks=>by
  have h:=L8 ks
  simp only[KT,GX,Enc.dec_enc,h]
theorem L8: ∀ cs:List Cert,Vz (Wv cs)=cs
 | []=>by simp[Wv,Vz]
 | c::cs=>by simp[Wv,Vz,a2x c,L8 cs]
end
mutual
theorem OJ: ∀ p:PV,Qv p=true->QG p (KT (GX p))
 | .agg [a,b,c,d,.sl s t ks],h=>by
  simp only[Qv,Bool.and_eq_true]at h
  obtain⟨⟨⟨⟨⟨h1,h2⟩,h3⟩,h4⟩,h5⟩,h6⟩:=h
  have hk:=TT ks h6
  simp only[GX,KT]
  refine .agg (.cons (Enc.sub a h1).2 (.cons (Enc.sub b h2).2 (.cons (Enc.sub c h3).2 (.cons (Enc.sub d h4).2 (.cons ?_ .nil)))))
  simp only[Bool.or_eq_true,List.isEmpty_iff,beq_iff_eq]at h5
  rcases h5 with rfl|rfl
  ·simp only[Vz,Wv]
   exact(QG.sl0 _ _ _).2
  ·exact(QG.sl hk.1 hk.2).2
 | .bool _,h | .int _ _,h | .str _,h | .sl _ _ _,h | .tup _,h | .nilp,h | .nilmap,h | .nilfn,h | .nili,h | .ifc,h | .fn _,h | .rptr _,h=>by simp[Qv]at h
 | .agg [],h | .agg [_],h | .agg [_,_],h | .agg [_,_,_],h | .agg [_,_,_,_],h=>by simp[Qv]at h
 | .agg (a::b::c::d::e::f::g),h=>by
  have h':Qv (.agg (a::b::c::d::e::f::g))=false:=by cases e <;> kernel_rfl
  rw[h']at h;cases h
 | .agg [_,_,_,_,.bool _],h | .agg [_,_,_,_,.int _ _],h | .agg [_,_,_,_,.str _],h | .agg [_,_,_,_,.agg _],h | .agg [_,_,_,_,.tup _],h | .agg [_,_,_,_,.nilp],h | .agg [_,_,_,_,.nilmap],h | .agg [_,_,_,_,.nilfn],h | .agg [_,_,_,_,.nili],h | .agg [_,_,_,_,.ifc],h | .agg [_,_,_,_,.fn _],h | .agg [_,_,_,_,.rptr _],h=>by simp[Qv]at h
theorem TT: ∀ ps:List PV,QN ps=true->ps.length=(Wv (Vz ps)).length∧ ∀ (j:Nat) x y,ps[j]? = some x->(Wv (Vz ps))[j]? = some y->QG x y
 | [],_=>⟨by simp[Vz,Wv],fun j x y h=>by simp at h⟩
 | p::ps,h=>by
  simp only[QN,Bool.and_eq_true]at h
  have h1:=OJ p h.1
  have h2:=TT ps h.2
  refine⟨by simp[Vz,Wv,<- h2.1],fun j x y hx hy=> ?_⟩
  simp only[Vz,Wv]at hy
  cases j with
  | zero=>simp at hx hy;subst hx hy;exact h1
  | succ j=>exact h2.2 j x y (by simpa using hx) (by simpa using hy)
end
instance:Enc Cert where
 sz:=5
 enc:=KT
 dec:=GX
 is:=Qv
 is_enc:=a4h
 dec_enc:=a2x
 sub:=OJ
abbrev Cert.kind:Cert->Int | .mk k _ _ _=>k
abbrev Cert.mults:Cert->List Int | .mk _ m _ _=>m
abbrev Cert.lin:Cert->Lin | .mk _ _ l _=>l
abbrev Cert.kids:Cert->List Cert | .mk _ _ _ k=>k
theorem UC(k:Int)(m:List Int)(l:Lin)(ks:List Cert):(enc (Cert.mk k m l ks):PV) = .agg [enc k,enc m,enc l.k,enc l.t,enc ks]:=by
 show KT _=_
 rw[KT,Et]
 rfl
@[simp] theorem d2f (a b c d e : PV) : is Cert (.agg [a, b, c, d, e]) = (is Int a && is (List Int) b && is Int c && is (List Coef) d && is (List Cert) e) := by
 show Qv _=_
 cases e <;> simp only[Qv] <;> try (simp[is];done)
 rename_i s t ks
 rw[EM]
 show _=(_&&((ks.isEmpty||s==5)&&ks.all Qv))
 rw[Bool.and_assoc]
@[simp] theorem d1g (a b c d e : PV) (h : is (List Cert) e = true) : (dec (.agg [a, b, c, d, e]) : Cert) = .mk (dec a) (dec b) ⟨dec c, dec d⟩ (dec e) := by
 show GX _=_
 cases e <;> try (cases h;done)
 rw[GX,O0]
 rfl
end Go.Pl
namespace Go.Pl
open Enc (enc dec is)
structure Er where
 b:Bool
 deriving DecidableEq
instance:Enc Er where
 sz:=1
 enc x:=if x.b then .ifc else .nili
 dec | .ifc=>⟨true⟩|_=>⟨false⟩
 is | .ifc=>true | .nili=>true|_=>false
 is_enc v:=by obtain⟨b⟩:=v;cases b <;> rfl
 dec_enc v:=by obtain⟨b⟩:=v;cases b <;> rfl
 sub p h:=by cases p <;> first|exact .refl _|cases h
def YD(s:Str):Int×Er:=match Lib.atoiAll s.s with
 | .ok v=>(v,⟨false⟩)
 | .range=>(Lib.atoiSat s.s,⟨true⟩)
 | _=>(0,⟨true⟩)
def MG(n:Int):Str:=⟨Lib.itoa n⟩
def GK(l:Lin)(n:Int):Bool:=l.t.all (fun t=>decide (t.v.s.length<=40))&&decide ((l.t.length:Int)<=n)
abbrev Db(n:Int):Int:=IntKind.i64.wrap n
def X9(s:Str)(c:Int):Bool->List Coef->List Coef
 | put,[]=>if put then []else [⟨s,c⟩]
 | put,t::r=>(if !put&&decide (s.s<t.v.s)then [⟨s,c⟩]else [])++(if t.v=s then⟨t.v,Db (t.c+c)⟩::X9 s c true r else t::X9 s c (put||decide (s.s<t.v.s)) r)
def VD(l:Lin)(s:Str)(c:Int):Lin:=⟨l.k,(X9 s c false l.t).filter fun t=>decide (t.c≠0)⟩
def QA(v:List Coef)(s:Str):Option Int:=(v.find? fun t=>decide (t.v=s)).map (·.c)
def KZ(v:List Coef):Int->List Coef->Int×Int
 | n,[]=>(n,0)
 | n,t::r=>match QA v t.v with
  | none=>(0,7)
  | some x=>if x < -1000000000 then(0,2)else if x>1000000000 then(0,2)else KZ v (Db (n+Db (t.c*x))) r
def Yy(l:Lin)(v:List Coef):Int×Int:=if Zw l then KZ v l.k l.t else(0,1)
def Qr(n:Int):Bool:=decide (-4611686018427387904<=n)&&decide (n<=4611686018427387904)
mutual
def Sv:Cert->Int
 | .mk _ _ _ ks=>DK 1 ks
def DK(n:Int):List Cert->Int
 | []=>n
 | c::cs=>DK (Db (n+Sv c)) cs
end
def YF(l:Lin):Bool:=decide (l.t.length<=9223372036854775807)
def Yz(l:Lin):Bool:=YF l&&l.t.all fun t=>decide (t.v.s.length<=1000000)
mutual
def cOk:Cert->Bool
 | .mk _ m l ks=>decide (m.length<=9223372036854775807)&&YF l&&decide (ks.length<=9223372036854775807)&&a9n ks
def a9n:List Cert->Bool
 | []=>true
 | c::cs=>cOk c&&a9n cs
end
mutual
def c6h:Cert->Nat
 | .mk _ _ _ ks=>Ov ks+1
def Ov:List Cert->Nat
 | []=>0
 | c::cs=>max (c6h c) (Ov cs)
end
end Go.Pl
namespace Go.Pl
open Go.RowKit
open Enc (enc dec is)
open EncL (encL decL isL)
theorem ZB{α:Type}[Enc α]{l:List α}{i:Nat}(h:i<l.length){P:α->Prop}(k:P l[i]):
  ∃ y:α,AV.pv (PV.rptr (PV.cells (List.getD (List.map enc l) (Int.toNat (i:Int)) default)))=AV.pv (PV.rptr (PV.cells (enc y)))∧P y:=⟨l[i],by rw[Jk enc h],k⟩
theorem Zu{α:Type}[Enc α]{l:List α}{i n:Nat}(h:i<l.length)(hn:Enc.sz α=n):(decide (0<=(i:Int))&&decide (Int.toNat (i:Int)<List.length (List.map (enc:α->PV) l))&&Enc.sz α==n)=true:=by simp[hn,h]
theorem Y3{α:Type}[Enc α]{l:List α}{i:Nat}(h:i<l.length):decide ((i:Int)<(List.length (List.map (enc:α->PV) l):Int))=true:=by simp;omega
theorem Xq{α:Type}[Enc α]{l:List α}{i:Nat}(h : ¬ i<l.length): ¬ decide ((i:Int)<(List.length (List.map (enc:α->PV) l):Int))=true:=by simp;omega
theorem Z8{n i:Nat}(h:i<n):decide ((i:Int)<(n:Int))=true:=by simp;omega
theorem Yd{n i:Nat}(h : ¬ i<n): ¬ decide ((i:Int)<(n:Int))=true:=by simp;omega
theorem c5f{P Q:Prop}:(if (!false)=true then P else Q)=P:=rfl
theorem d0q{P Q:Prop}:(if (!true)=true then P else Q)=Q:=rfl
theorem ZN{c:Prop}[Decidable c]{P Q:Prop}(h:c)(k:P):if c then P else Q:=by rw[if_pos h];exact k
theorem ZR{c:Prop}[Decidable c]{P Q:Prop}(h : ¬ c)(k:Q):if c then P else Q:=by rw[if_neg h];exact k
theorem d1w{c:Prop}[Decidable c]{P Q:Prop}(h1:c->P)(h2 : ¬ c->Q):if c then P else Q:=by split;exact h1 ‹_›;exact h2 ‹_›
theorem XU{b:Bool}{P Q:Prop}(h1:b=false->P)(h2:b=true->Q):if (!b)=true then P else Q:=by cases b;exact h1 rfl;exact h2 rfl
theorem XT{b:Bool}{P Q:Prop}(h1:b=true->P)(h2:b=false->Q):if b=true then P else Q:=by cases b;exact h2 rfl;exact h1 rfl
theorem XQ{c:Prop}[Decidable c]{P Q:Prop}(h1:c->P)(h2 : ¬ c->Q):if decide c=true then P else Q:=by by_cases h:c;rw[if_pos (by simpa using h)];exact h1 h;rw[if_neg (by simpa using h)];exact h2 h
theorem Kb{α:Type}[BEq α][LawfulBEq α]{x y:α}{P Q:Prop}(h1:x=y->P)(h2:x≠y->Q):if (x==y)=true then P else Q:=by by_cases h:x=y;rw[if_pos (by simpa using h)];exact h1 h;rw[if_neg (by simpa using h)];exact h2 h
theorem Z0{β:Type}[Enc β]{x y:β}(h:x=y):Zi y (enc x):=⟨Enc.is_enc x,by rw[Enc.dec_enc,h]⟩
theorem ZL{x y:Bool}(h:x=y):Zi y (.bool x):=⟨rfl,h⟩
theorem VQ{x y:Int}(h:x=y):Zi y (.int .i64 x):=⟨rfl,h⟩
section
variable (x:Coef) (f:Fact)
theorem co1:PV.asStr (List.getD (PV.cells (enc x)) 0 default)=x.v.s:=rfl
theorem co2:PV.asInt (List.getD (PV.cells (enc x)) (0+1) default)=x.c:=rfl
theorem co3:PV.asStr (List.getD (List.drop 0 (PV.cells (enc x))) 0 default)=x.v.s:=rfl
theorem co4:PV.asInt (List.getD (List.drop 1 (PV.cells (enc x))) 0 default)=x.c:=rfl
end
theorem c5n{c:UInt8}(n:Nat)(h:c≠UInt8.ofNat n)(hn:n<256): ¬ ((c.toNat:Int)==(n:Int))=true:=by
 intro e
 have e:(c.toNat:Int)=n:=by simpa using e
 have e:c.toNat=n:=by omega
 exact h (UInt8.toNat_inj.1 (by rw[e,UInt8.toNat_ofNat'];omega))
theorem Yr: ∀ a b:List UInt8,Op.bytesLess a b=decide (a<b)
 | [],[]=>by simp[Op.bytesLess]
 | _::_,[]=>by simp[Op.bytesLess]
 | [],_::_=>by simp[Op.bytesLess]
 | x::a,y::b=>by
  rw[Op.bytesLess,Yr a b]
  simp only[List.cons_lt_cons_iff]
  by_cases h1:x<y
  ·simp[h1]
  ·by_cases h2:x=y
   ·subst h2;simp
   ·simp[h1,h2]
theorem Zx.fuel{P:Program}{f:Nat}{α β:Type}[EncL α][Enc β]{pre:α->Bool}{F:α->β}(μ:α->Nat)(h : ∀ N,Zx P f (fun a=>pre a&&decide (μ a<N)) F):Zx P f pre F:=fun ps hps=>by
 refine h (μ (decL ps)+1) ps ?_
 simp only[preT,Bool.and_eq_true,decide_eq_true_eq]at hps ⊢
 exact⟨hps.1,hps.2,by omega⟩
theorem Zx.void{P:Program}{f:Nat}{α β:Type}[EncL α][Enc β]{pre:α->Bool}{F:α->β}(h : ∀ a,pre a=false):Zx P f pre F:=fun ps hps=>by simp[preT,h]at hps
theorem Zx.rec{P:Program}{f:Nat}{α β:Type}[EncL α][Enc β]{pre:α->Bool}{F:α->β}(μ:α->Nat)(h : ∀ N,Zx P f (fun a=>pre a&&decide (μ a<N)) F->Zx P f (fun a=>pre a&&decide (μ a<N+1)) F):Zx P f pre F:=by
 refine Zx.fuel μ fun N=> ?_
 induction N with
 | zero=>exact Zx.void fun a=>by simp
 | succ N ih=>exact h N ih
theorem Zx.or{P:Program}{f:Nat}{α β:Type}[EncL α][Enc β]{pre:α->Bool}{F:α->β}(c:α->Bool)(h1:Zx P f (fun a=>pre a&&c a) F)(h2:Zx P f (fun a=>pre a&& !c a) F):Zx P f pre F:=fun ps hps=>by
 have hps':=hps
 simp only[preT,Bool.and_eq_true]at hps'
 cases hc:c (decL ps)
 ·exact h2 ps (by simp only[preT,hps'.1,hps'.2,hc];rfl)
 ·exact h1 ps (by simp only[preT,hps'.1,hps'.2,hc];rfl)
mutual
def Tp:PV->PV->Bool
 | .bool a,.bool b=>a==b
 | .int k a,.int l b=>H9 k l&&a==b
 | .str a,.str b=>a==b
 | .sl s t xs,.sl s' t' ys=>s==s'&&t==t'&&CS xs ys
 | .agg xs,.agg ys=>CS xs ys
 | .tup xs,.tup ys=>CS xs ys
 | .nilp,.nilp=>true
 | .nilmap,.nilmap=>true
 | .nilfn,.nilfn=>true
 | .nili,.nili=>true
 | .ifc,.ifc=>true
 | .fn a,.fn b=>a==b
 | .rptr xs,.rptr ys=>CS xs ys
 | _,_=>false
def CS:List PV->List PV->Bool
 | [],[]=>true
 | x::xs,y::ys=>Tp x y&&CS xs ys
 | _,_=>false
end
theorem M7(k:IntKind):H9 k k=true:=by cases k <;> rfl
mutual
theorem b7u: ∀ (p q:PV),Tp p q=true->p=q
 | .bool a,q,h=>by cases q <;> simp[Tp]at h;rw[h]
 | .int k a,q,h=>by cases q <;> simp[Tp]at h;rw[Ju h.1,h.2]
 | .str a,q,h=>by cases q <;> simp[Tp]at h;rw[h]
 | .sl s t xs,q,h=>by cases q <;> simp[Tp]at h;rw[h.1.1,h.1.2,GL xs _ h.2]
 | .agg xs,q,h=>by cases q <;> simp[Tp]at h;rw[GL xs _ h]
 | .tup xs,q,h=>by cases q <;> simp[Tp]at h;rw[GL xs _ h]
 | .nilp,q,h=>by cases q <;> simp[Tp]at h;rfl
 | .nilmap,q,h=>by cases q <;> simp[Tp]at h;rfl
 | .nilfn,q,h=>by cases q <;> simp[Tp]at h;rfl
 | .nili,q,h=>by cases q <;> simp[Tp]at h;rfl
 | .ifc,q,h=>by cases q <;> simp[Tp]at h;rfl
 | .fn a,q,h=>by cases q <;> simp[Tp]at h;rw[h]
 | .rptr xs,q,h=>by cases q <;> simp[Tp]at h;rw[GL xs _ h]
theorem GL: ∀ (xs ys:List PV),CS xs ys=true->xs=ys
 | [],ys,h=>by cases ys <;> simp[CS]at h;rfl
 | x::xs,ys,h=>by
  cases ys with
  | nil=>simp[CS]at h
  | cons y ys=>simp[CS]at h;rw[b7u x y h.1,GL xs ys h.2]
end
mutual
theorem OB: ∀ (p:PV),Tp p p=true
 | .bool a | .str a | .fn a=>by simp[Tp]
 | .int k a=>by simp[Tp,M7]
 | .sl s t xs=>by simp[Tp,Cc xs]
 | .agg xs | .tup xs | .rptr xs=>by simp[Tp,Cc xs]
 | .nilp | .nilmap | .nilfn | .nili | .ifc=>by simp[Tp]
theorem Cc: ∀ (xs:List PV),CS xs xs=true
 | []=>by simp[CS]
 | x::xs=>by simp[CS,OB x,Cc xs]
end
def VV(α:Type)[Enc α](p:PV):Bool:=Tp p (enc (dec p:α))
@[simp] theorem Yb {α : Type} [Enc α] (a : α) : VV α (enc a) = true := by unfold VV; rw [Enc.dec_enc]; exact OB _
theorem YB{α:Type}[Enc α]{p:PV}(h:VV α p=true): ∃ a:α,p=enc a:=⟨_,b7u _ _ h⟩
end Go.Pl
namespace Go.Pl
open Enc (enc dec is)
@[irreducible] def Hz (a : Nat) (r : List UInt8) : Nat := r.foldl (fun a c => a * 10 + (c.toNat - 48)) a
theorem GQ(a:Nat):Hz a []=a:=by unfold Hz;rfl
theorem Q6(a:Nat)(c:UInt8)(r:List UInt8):Hz a (c::r)=Hz (a*10+(c.toNat - 48)) r:=by unfold Hz;rfl
theorem VR{c:UInt8}:digB c=true ↔ 48<=c.toNat∧c.toNat<=57:=by
 simp only[digB,Bool.and_eq_true,decide_eq_true_eq,UInt8.le_iff_toNat_le]
 have e1:(48:UInt8).toNat=48:=rfl
 have e2:(57:UInt8).toNat=57:=rfl
 rw[e1,e2]
theorem a4r: ∀ (r:List UInt8) (a:Nat),r.all digB=true->Hz a r<(a+1)*10 ^ r.length
 | [],a,_=>by simp[GQ]
 | c::r,a,h=>by
  simp only[List.all_cons,Bool.and_eq_true,VR]at h
  have:=a4r r (a*10+(c.toNat - 48)) h.2
  rw[Q6,List.length_cons,Nat.pow_succ]
  refine Nat.lt_of_lt_of_le this ?_
  rw[Nat.mul_comm (10 ^ r.length) 10,<- Nat.mul_assoc]
  exact Nat.mul_le_mul_right _ (by omega)
theorem Pz: ∀ (r:List UInt8) (a:Nat),a<=Hz a r
 | [],a=>by rw[GQ];exact Nat.le_refl _
 | c::r,a=>by
  have:=Pz r (a*10+(c.toNat - 48))
  rw[Q6]
  omega
theorem Pd: ∀ (r:List UInt8) (a:Nat),r.all digB=true->Hz a r<1000000000000000000->Lib.parseUint10 a r = .ok (Hz a r)
 | [],a,_,_=>by rw[GQ,Lib.parseUint10]
 | c::r,a,h,hv=>by
  simp only[List.all_cons,Bool.and_eq_true,VR]at h
  rw[Q6]at hv ⊢
  have hge:=Pz r (a*10+(c.toNat - 48))
  rw[Lib.parseUint10,if_pos h.1,if_neg (by omega),if_neg (by omega)]
  exact Pd r _ h.2 hv
theorem b6y{a d:Nat}(ha:1<=a)(hd:d<=9):Lib.decDigits (a*10+d)=Lib.decDigits a++[UInt8.ofNat (48+d)]:=by
 rw[Lib.decDigits,dif_neg (by omega),show(a*10+d) / 10=a by omega,show(a*10+d) % 10=d by omega]
theorem a4f: ∀ (r:List UInt8) (a:Nat),1<=a->r.all digB=true->Lib.decDigits (Hz a r)=Lib.decDigits a++r
 | [],a,_,_=>by simp[GQ]
 | c::r,a,ha,h=>by
  simp only[List.all_cons,Bool.and_eq_true,VR]at h
  rw[Q6,a4f r _ (by omega) h.2,b6y ha (by omega)]
  have:UInt8.ofNat (48+(c.toNat - 48))=c:=by
   rw[show 48+(c.toNat - 48)=c.toNat by omega]
   exact UInt8.ofNat_toNat
  rw[this]
  simp
theorem b6l{n:Nat}(h:n<256):(UInt8.ofNat n).toNat=n:=by rw[UInt8.toNat_ofNat'];omega
theorem a0n: ∀ (u:Nat),1<=u->(Lib.decDigits u).all digB=true∧(Lib.decDigits u).head? ≠ some 48∧Lib.decDigits u≠[]:=by
 intro u
 induction u using Nat.strongRecOn with
 | _ u ih=>
  intro h1
  rw[Lib.decDigits]
  by_cases h:u<10
  ·rw[dif_pos h]
   refine⟨?_,?_,by simp⟩
   ·simp only[List.all_cons,List.all_nil,Bool.and_true]
    rw[VR,b6l (by omega)]
    omega
   ·simp only[List.head?_cons,ne_eq,Option.some.injEq]
    intro e
    have:=congrArg UInt8.toNat e
    rw[b6l (by omega)]at this
    have e48:(48:UInt8).toNat=48:=rfl
    rw[e48]at this
    omega
  ·rw[dif_neg h]
   obtain⟨i1,i2,i3⟩:=ih (u / 10) (by omega) (by omega)
   refine⟨?_,?_,by simp⟩
   ·rw[List.all_append,i1]
    simp only[List.all_cons,List.all_nil,Bool.and_true,Bool.true_and]
    rw[VR,b6l (by omega)]
    omega
   ·cases hd:Lib.decDigits (u / 10)with
    | nil=>exact absurd hd i3
    | cons c r=>rw[hd]at i2;simpa using i2
def Ot(r:List UInt8):Bool:=r.all digB&& !r.isEmpty&&decide (r.head? ≠ some 48)
theorem c5w(b:Bool):U2 (enc (⟨b⟩:Er)) = !b:=by cases b <;> rfl
theorem c5b(e:Er):Ar (enc e)=true:=by obtain⟨b⟩:=e;cases b <;> rfl
theorem a3k(r:List UInt8)(hr:r.length<=9):(U2 (enc (YD ⟨r⟩).2)&&decide ((YD ⟨r⟩).1>0)&&(Lib.itoa (YD ⟨r⟩).1==r))=Ot r:=by
 by_cases hn:Ot r=true
 ·rw[hn]
  simp only[Ot,Bool.and_eq_true,Bool.not_eq_true',decide_eq_true_eq]at hn
  obtain⟨⟨h1,h2⟩,h3⟩:=hn
  cases r with
  | nil=>simp at h2
  | cons c r=>
   have h1':=h1
   simp only[List.all_cons,Bool.and_eq_true,VR]at h1
   have hc:c≠48:=by simpa using h3
   have hc':c.toNat≠48:=fun e=>hc (UInt8.toNat_inj.1 (by rw[e];rfl))
   have hv:=a4r (c::r) 0 h1'
   have hp:10 ^ (c::r).length<=10 ^ 9:=Nat.pow_le_pow_right (by omega) hr
   have hpm:=Pd (c::r) 0 h1' (by omega)
   have hat:Lib.atoiAll (c::r) = .ok (Hz 0 (c::r):Int):=by
    have e1 : ¬ (c.toNat=43∨c.toNat=45):=by omega
    have e2 : ¬ c.toNat=45:=by omega
    simp only[Lib.atoiAll,if_neg e1,Lib.parseMag,if_neg (show ¬ (c::r=[]) by simp),hpm]
    rw[if_neg (by omega),if_neg (fun e=>e2 e.1),if_neg e2]
   have ha:YD ⟨c::r⟩=((Hz 0 (c::r):Int),⟨false⟩):=by simp only[YD,hat]
   have hvd:Hz 0 (c::r)=Hz (c.toNat - 48) r:=by rw[Q6];congr 1;omega
   have hpos:=Pz r (c.toNat - 48)
   rw[ha]
   have h4:Lib.itoa (Hz 0 (c::r):Int)=c::r:=by
    rw[Lib.itoa,if_neg (by omega),Int.toNat_natCast,hvd,a4f r _ (by omega) h1.2,Lib.decDigits,dif_pos (by omega)]
    have:UInt8.ofNat (48+(c.toNat - 48))=c:=by
     rw[show 48+(c.toNat - 48)=c.toNat by omega]
     exact UInt8.ofNat_toNat
    rw[this];rfl
   simp only[c5w,h4,beq_self_eq_true,Bool.and_true,Bool.not_false,Bool.true_and]
   exact decide_eq_true (by omega)
 ·have hn:Ot r=false:=by simpa using hn
  rw[hn]
  by_cases h1:decide ((YD ⟨r⟩).1>0)=true
  ·by_cases h2:(Lib.itoa (YD ⟨r⟩).1==r)=true
   ·exfalso
    have h1:(YD ⟨r⟩).1>0:=by simpa using h1
    have h2:Lib.itoa (YD ⟨r⟩).1=r:=by simpa using h2
    rw[Lib.itoa,if_neg (by omega)]at h2
    obtain⟨d1,d2,d3⟩:=a0n (YD ⟨r⟩).1.toNat (by omega)
    rw[h2]at d1 d2 d3
    have:Ot r=true:=by simp only[Ot,d1,decide_eq_true d2,Bool.true_and,Bool.and_true];cases r <;> simp at d3 ⊢
    rw[this]at hn;cases hn
   ·simp[h2]
  ·simp[h1]
theorem LM(r:List UInt8):ZG ⟨95::r⟩=(Ot r&&decide (r.length<=9)):=by simp[ZG,Ot]
end Go.Pl
namespace Go.Pl
open Go.RowKit
open Enc (enc dec is)
open EncL (encL decL isL)
def a7h(s:Str)(c:Int):List (Str×Int)->List (Str×Int)
 | []=>[(s,c)]
 | p::m=>if s.s=p.1.s then(s,c)::m else p::a7h s c m
def c7b(k:Int):List Coef->List (Str×Int)->List (Str×Int)
 | [],m=>m
 | t::l,m=>c7b k l (a7h t.v (IntKind.i64.wrap (atM m t.v.s+IntKind.i64.wrap (k*t.c))) m)
def Zf(l:List Fact):Bool:=decide (l.length<=9223372036854775807)&&l.all fun f=>Yz f.l
def YC(l:List Fact):Bool:=l.all fun f=>Zw f.l
def VM:AV×List AObj×List AObj:=(.tup [.pv (.int .i64 0),.pv .nilmap,.pv (.bool false)],[],[])
structure FnV (n:Nat) where
 u:Unit:=()
instance (n:Nat):Enc (FnV n) where
  sz:=1
  enc _:=.fn n
  dec _:={}
  is | .fn m=>m==n|_=>false
  is_enc _:=by simp
  dec_enc _:=rfl
  sub p h:=by
    cases p with
    | fn m => have : m = n := by simpa using h
              subst this;exact .refl _
    | _=>cases h
def ZI{α:Type}(p:α->Bool)(l:List α):Int:=match l.findIdx? p with|some i=>i|none=> -1
theorem Wi{α:Type}(p:α->Bool)(l:List α):decide (ZI p l ≥ 0)=l.any p:=by
 unfold ZI
 cases h:l.findIdx? p with
 | none=>
  rw[List.findIdx?_eq_none_iff]at h
  have:l.any p=false:=by rw[List.any_eq_false];intro x hx;simp[h x hx]
  rw[this];rfl
 | some i=>
  have:l.any p=true:=by
   rw[List.findIdx?_eq_some_iff_getElem]at h
   obtain⟨hi,hp,_⟩:=h
   rw[List.any_eq_true]
   exact⟨_,List.getElem_mem hi,hp⟩
  rw[this]
  exact decide_eq_true (by show(i:Int) ≥ 0;omega)
theorem QC{α:Type}(p:α->Bool)(l:List α)(i:Nat)(hlt:i<l.length)(hno : ∀ j (h:j<l.length),j<i->p l[j]=false)(hp:p l[i]=true):ZI p l=i:=by
 unfold ZI
 have:l.findIdx? p=some i:=by
  rw[List.findIdx?_eq_some_iff_getElem]
  exact⟨hlt,hp,fun j hj=>by simp[hno j (by omega) hj]⟩
 rw[this]
theorem Qz{α:Type}(p:α->Bool)(l:List α)(hno : ∀ j (h:j<l.length),p l[j]=false):ZI p l = -1:=by
 unfold ZI
 have:l.findIdx? p=none:=by
  rw[List.findIdx?_eq_none_iff]
  intro x hx
  obtain⟨j,hj,rfl⟩:=List.getElem_of_mem hx
  exact hno j hj
 rw[this]
def Yh(f:Fact)(v:List Coef):Bool:=decide ((Yy f.l v).2=0)&& !decide ((Yy f.l v).1<0)&&(!f.eq||decide ((Yy f.l v).1=0))
def H7:List AV->List AObj->Bool
 | [.pv f,.ptr 0 0],[.box [.pv v]]=>VV Fact f&&VV (List Coef) v&&Yz (dec f:Fact).l&&decide ((dec v:List Coef).length<=9223372036854775807)
 | _,_=>false
def De:List AV->List AObj->AV×List AObj×List AObj
 | [.pv f,_],[.box [.pv v]]=>(.pv (.bool (!Yh (dec f) (dec v))),[.box [.pv v]],[])
 | _,_=>VM
def Vb(g:Nat):List AV->List AObj->Bool
 | [.pv l,.fn g' [] [.ptr 0 0]],[.box [.pv v]]=>g'==g&&VV (List Fact) l&&VV (List Coef) v&&Zf (dec l)&&decide ((dec v:List Coef).length<=9223372036854775807)
 | _,_=>false
def Bn:List AV->List AObj->AV×List AObj×List AObj
 | [.pv l,_],[.box [.pv v]]=>(.pv (.int .i64 (ZI (fun f=> !Yh f (dec v)) (dec l))),[.box [.pv v]],[])
 | _,_=>VM
def Bt:List AV->List AObj->AV×List AObj×List AObj
 | [.pv l,_],[.box [.pv v]]=>(.pv (.bool ((dec l:List Fact).any (fun f=> !Yh f (dec v)))),[.box [.pv v]],[])
 | _,_=>VM
def Sg:List AV->List AObj->Bool
 | [.pv x,.ptr 0 0],[.box [.pv (.str v),.pv (.int .i64 c)]]=>VV Coef x
 | _,_=>false
def Pv:List AV->List AObj->AV×List AObj×List AObj
 | [.pv x,_],[.box [.pv (.str v),.pv (.int .i64 c)]]=>(.pv (.bool ((dec x:Coef).v.s==v)),[.box [.pv (.str v),.pv (.int .i64 c)]],[])
 | _,_=>VM
def KC(g:Nat):List AV->List AObj->Bool
 | [.pv l,.fn g' [] [.ptr 0 0]],[.box [.pv (.str v),.pv (.int .i64 c)]]=>g'==g&&VV (List Coef) l&&decide ((dec l:List Coef).length<=9223372036854775807)
 | _,_=>false
def C8:List AV->List AObj->AV×List AObj×List AObj
 | [.pv l,_],[.box [.pv (.str v),.pv (.int .i64 c)]]=>(.pv (.int .i64 (ZI (fun t:Coef=>t.v.s==v) (dec l))),[.box [.pv (.str v),.pv (.int .i64 c)]],[])
 | _,_=>VM
end Go.Pl
namespace Go.Pl
open Go.RowKit
open Enc (enc dec is)
open EncL (encL decL isL)
set_option maxRecDepth 100000
end Go.Pl
namespace Go.Pl
open Go.RowKit
open Enc (enc dec is)
open EncL (encL decL isL)
set_option maxRecDepth 100000
-- IMPOSSIBLE
end Go.Pl
namespace Go.Pl
open Go.RowKit
open Enc (enc dec is)
open EncL (encL decL isL)
end Go.Pl
namespace Go.Pl
open Go.RowKit
open Enc (enc dec is)
open EncL (encL decL isL)
set_option maxRecDepth 100000
end Go.Pl
namespace Go.Pl
open Go.RowKit
open Enc (enc dec is)
open EncL (encL decL isL)
end Go.Pl
namespace Go.Pl
open Go.RowKit
open Enc (enc dec is)
open EncL (encL decL isL)
set_option maxRecDepth 100000
end Go.Pl
namespace Go.Pl
open Go.RowKit
open Enc (enc dec is)
open EncL (encL decL isL)
end Go.Pl
namespace Go.Pl
open Go.RowKit
open Enc (enc dec is)
open EncL (encL decL isL)
mutual
def cSm:Cert->Bool
 | .mk _ m l ks=>decide (m.length<=9223372036854775807)&&Yz l&&decide (ks.length<=9223372036854775807)&&a6e ks
def a6e:List Cert->Bool
 | []=>true
 | c::cs=>cSm c&&a6e cs
end
mutual
theorem c6m: ∀ {c:Cert},cSm c=true->cOk c=true
 | .mk k m l ks,h=>by
  simp only[cSm,cOk,Yz,Bool.and_eq_true]at h ⊢
  exact⟨⟨⟨h.1.1.1,h.1.1.2.1⟩,h.1.2⟩,a2m h.2⟩
theorem a2m: ∀ {cs:List Cert},a6e cs=true->a9n cs=true
 | [],_=>rfl
 | c::cs,h=>by
  simp only[a6e,a9n,Bool.and_eq_true]at h ⊢
  exact⟨c6m h.1,a2m h.2⟩
end
theorem RU{l:Lin}(h:Zw l=true):l.t.length<=12:=by
 simp only[Zw,Bool.and_eq_true,decide_eq_true_eq]at h
 exact h.2
end Go.Pl
namespace Go.Pl
open Go.RowKit
open Enc (enc dec is)
open EncL (encL decL isL)
theorem X0{n:Int}(h1 : -9223372036854775808<=n)(h2:n<=9223372036854775807):Db n=n:=UI h1 h2
end Go.Pl
namespace Go.Pl
open Go.RowKit
open Enc (enc dec is)
open EncL (encL decL isL)
set_option maxRecDepth 100000
def EF:IC:=(Zh [Za 1 (.box 3 (.t 0)) 0,Za 2 (Xo false) 1] (Zh [Za 3 (.faddr 1 (.t 1)) 0,Za 4 (.load true [(.int .i64),(.sl 2)] (.t 3)) 0,Za 5 (YT 73 [(.t 4)]) 0,Za 6 (.un .not (.t 5)) 2,Za 2 (Zc 6) 2] .ret))
def OQ:List IRes:=[(.tmp 2)]
abbrev c6s:Nat:=7
def b8v:ZO:=Xc [(73,.pure (preT (fun x:Lin×Unit=>Yz x.1)) (Zj (fun x:Lin×Unit=>Zw x.1)))]
theorem d1h{G:PV->Prop}(f:Fact)(h:(Go.Pl.preT (fun(x:Lin×Unit)=>Yz x.1) [(.agg [(.int .i64 (Lin.k f.l)),(.sl 2 false (List.map enc (Lin.t f.l)))])])=true∧(∃ y0:Bool,AV.pv (Zj (fun(x:Lin×Unit)=>Zw x.1) [(.agg [(.int .i64 (Lin.k f.l)),(.sl 2 false (List.map enc (Lin.t f.l)))])])=AV.pv (enc y0)∧(G ((.bool !y0))))):Ze b8v 0 (Zb OQ G) EF [] (Yk 7 [enc f]):=Ze.tp (.req (.abs (Bool) (fun YY=>AV.pv (enc YY)) (.nil))) h (by kernel_rfl)
def Jl:IC:=(Zh [Za 4 (.mv (Zy 0)) 0] (.seq (Zh [Za 6 (Zc 0) 0,Za 7 (.len 1 (.t 6)) 0,Za 8 (.mv (Zy 0)) 0] (.block 0 (.loop [8,7,1,0] (Zh [Za 9 (ZA .lss (.t 8) (.t 7)) 0] (.seq (.cond (.t 9) .skip (.exit 0)) (.seq (.block 1 (Zh [Za 10 (Zc 8) 0,Za 5 (Zc 10) 0] (Zh [Za 11 (Zc 1) 0,Za 12 (Zc 0) 0,Za 13 (Zc 5) 0,Za 14 (.iaddr 3 (.t 12) (.t 13)) 0,Za 15 (.load true [.bool,(.int .i64),(.sl 2)] (.t 14)) 0,Za 16 (.call (.t 11) [(.t 15)]) 0] (.cond (.t 16) (Zh [Za 17 (Zc 5) 0,Za 4 (Zc 17) 0] .ret) .skip)))) (.reg [Za 18 (ZA .add (.t 8) (Zy 1)) 0,Za 8 (Zc 18) 0] none))))))) (Zh [Za 4 (.mv (.c (.int .i64 (-1)))) 0] .ret)))
def Gl:List IRes:=[(.tmp 4)]
abbrev c8q:Nat:=19
def Bz:ZO:=Xc [(162,.pure (preT (fun x:Fact×Unit=>Yz x.1.l)) (Zj (fun x:Fact×Unit=> !(Zw x.1.l))))]
theorem d0e{G:PV->Prop}(l:List Fact)(h:At Bz 0 (Zb Gl G) Jl 0 19 [(0,(.pv (.sl 3 false (List.map enc l)))),(1,(.pv (.fn 162))),(7,(.pv (.int .i64 (↑(List.length (List.map enc l)):Int)))),(8,(.pv (.int .i64 0)))] []):Ze Bz 0 (Zb Gl G) Jl [] (Yk 19 [enc l,.fn 162]):=Ze.tp (.nil) h (by kernel_rfl)
theorem b0g{G:PV->Prop}(l:List Fact)(i:Int)(h:if (decide (i<(↑(List.length l):Int)))=true then(decide (0<=i)&&decide (Int.toNat i<List.length (List.map enc l))&&Enc.sz Fact==3)=true∧(∃ y0:Fact,AV.pv (PV.rptr (PV.cells (List.getD (List.map enc l) (Int.toNat i) default)))=AV.pv (PV.rptr (PV.cells ((enc) y0)))∧((Go.Pl.preT (fun(x:Fact×Unit)=>Yz x.1.l) [(.agg [(.bool (PV.asBool (List.getD (PV.cells (enc y0)) 0 default))),(.int .i64 (PV.asInt (List.getD (PV.cells (enc y0)) (0+1) default))),(.sl 2 false (PV.asXs (List.getD (PV.cells (enc y0)) (0+1+1) default)))])])=true∧(∃ y1:Bool,AV.pv (Zj (fun(x:Fact×Unit)=> !Zw x.1.l) [(.agg [(.bool (PV.asBool (List.getD (PV.cells (enc y0)) 0 default))),(.int .i64 (PV.asInt (List.getD (PV.cells (enc y0)) (0+1) default))),(.sl 2 false (PV.asXs (List.getD (PV.cells (enc y0)) (0+1+1) default)))])])=AV.pv (enc y1)∧(if (y1)=true then G ((.int .i64 i))else(At Bz 0 (Zb Gl G) Jl 0 19 [(0,(.pv (.sl 3 false (List.map enc l)))),(1,(.pv (.fn 162))),(7,(.pv (.int .i64 (↑(List.length l):Int)))),(8,(.pv (.int .i64 (IntKind.wrap IntKind.i64 (i+1)))))] [])))))else(G ((.int .i64 (-1))))):At Bz 0 (Zb Gl G) Jl 0 19 [(0,.pv (enc l)),(1,.pv (.fn 162)),(7,.pv (.int .i64 l.length)),(8,.pv (.int .i64 i))] []:=At.tp (.lit (.ask (.req (.abs (Fact) (fun YY=>AV.pv (PV.rptr (PV.cells ((enc) YY)))) (.lit (.req (.abs (Bool) (fun YY=>AV.pv (enc YY)) (.ask (.nil) (.lit (.nil)))))))) (.nil))) h (by kernel_rfl)
def NQ:IC:=(Zh [Za 4 (Xo false) 0] (Zh [Za 5 (Zc 0) 0,Za 6 (Zc 1) 0,Za 7 (YT 227 [(.t 5),(.t 6)]) 0,Za 8 (ZA .geq (.t 7) (Zy 0)) 2,Za 4 (Zc 8) 2] .ret))
def a0p:List IRes:=[(.tmp 4)]
abbrev c7r:Nat:=9
def b3a:ZO:=Xc [(227,.pure (preT (fun x:List Fact×FnV 162×Unit=>Zf x.1)) (Zj (fun x:List Fact×FnV 162×Unit=>ZI (fun f:Fact=> !(Zw f.l)) x.1)))]
theorem d1v{G:PV->Prop}(l:List Fact)(h:(Go.Pl.preT (fun(x:List Fact×FnV 162×Unit)=>Zf x.1) [(.sl 3 false (List.map enc l)),(.fn 162)])=true∧(∃ y0:Int,AV.pv (Zj (fun(x:List Fact×FnV 162×Unit)=>ZI (fun(f:Fact)=> !Zw f.l) x.1) [(.sl 3 false (List.map enc l)),(.fn 162)])=AV.pv (enc y0)∧(G ((.bool (decide (y0 ≥ 0))))))):Ze b3a 0 (Zb a0p G) NQ [] (Yk 9 [enc l,.fn 162]):=Ze.tp (.req (.abs (Int) (fun YY=>AV.pv (enc YY)) (.lit (.nil)))) h (by kernel_rfl)
def Dl:IC:=(Zh [Za 2 (Xo false) 0] (Zh [Za 3 (Zc 0) 0,Za 4 (YT 161 [(.t 3),(.c (.fn 162))]) 0,Za 5 (.un .not (.t 4)) 2,Za 2 (Zc 5) 2] .ret))
def Dn:List IRes:=[(.tmp 2)]
abbrev a7e:Nat:=6
def SV:ZO:=Xc [(161,.pure (preT (fun x:List Fact×FnV 162×Unit=>Zf x.1)) (Zj (fun x:List Fact×FnV 162×Unit=>x.1.any fun f:Fact=> !(Zw f.l))))]
theorem b8k{G:PV->Prop}(l:List Fact)(h:(Go.Pl.preT (fun(x:List Fact×FnV 162×Unit)=>Zf x.1) [(.sl 3 false (List.map enc l)),(.fn 162)])=true∧(∃ y0:Bool,AV.pv (Zj (fun(x:List Fact×FnV 162×Unit)=>List.any x.1 fun(f:Fact)=> !Zw f.l) [(.sl 3 false (List.map enc l)),(.fn 162)])=AV.pv (enc y0)∧(G ((.bool !y0))))):Ze SV 0 (Zb Dn G) Dl [] (Yk 6 [enc l]):=Ze.tp (.req (.abs (Bool) (fun YY=>AV.pv (enc YY)) (.nil))) h (by kernel_rfl)
def EC:IC:=(Zh [Za 2 (.box 2 (.t 0)) 0,Za 3 (Xo false) 1] (Zh [Za 4 (.faddr 0 (.t 2)) 0,Za 5 (.load false [.str] (.t 4)) 0,Za 6 (.faddr 0 (.t 1)) 0,Za 7 (.load false [.str] (.t 6)) 0,Za 8 (ZA .eql (.t 5) (.t 7)) 0,Za 3 (Zc 8) 0] .ret))
def Ev:List IRes:=[(.tmp 3)]
abbrev c6p:Nat:=9
def b1c:ZO:=Xc []
theorem d0g{G:AV×List AObj×List AObj->Prop}(x:Coef)(v:List UInt8)(c:Int)(h:G (((.pv (.bool (Str.s x.v==v))),([(.box [(.pv (.str v)),(.pv (.int .i64 c))])],[])))):Ze b1c 1 (Zt 1 Ev G) EC [] (YV 9 [.pv (enc x),.ptr 0 0] [.box [.pv (.str v),.pv (.int .i64 c)]]):=Ze.to (.lit (.nil)) h (by kernel_rfl)
def KO:IC:=(Zh [Za 4 (.mv (Zy 0)) 0] (.seq (Zh [Za 6 (Zc 0) 0,Za 7 (.len 1 (.t 6)) 0,Za 8 (.mv (Zy 0)) 0] (.block 0 (.loop [8,7,1,0] (Zh [Za 9 (ZA .lss (.t 8) (.t 7)) 0] (.seq (.cond (.t 9) .skip (.exit 0)) (.seq (.block 1 (Zh [Za 10 (Zc 8) 0,Za 5 (Zc 10) 0] (Zh [Za 11 (Zc 1) 0,Za 12 (Zc 0) 0,Za 13 (Zc 5) 0,Za 14 (.iaddr 2 (.t 12) (.t 13)) 0,Za 15 (.load true [.str,(.int .i64)] (.t 14)) 0,Za 16 (.call (.t 11) [(.t 15)]) 0] (.cond (.t 16) (Zh [Za 17 (Zc 5) 0,Za 4 (Zc 17) 0] .ret) .skip)))) (.reg [Za 18 (ZA .add (.t 8) (Zy 1)) 0,Za 8 (Zc 18) 0] none))))))) (Zh [Za 4 (.mv (.c (.int .i64 (-1)))) 0] .ret)))
def H6:List IRes:=[(.tmp 4)]
abbrev c6d:Nat:=19
def BB:ZO:=Xc [(110,.own Sg Pv)]
theorem d1c{G:AV×List AObj×List AObj->Prop}(l:List Coef)(v:List UInt8)(c:Int)(h:At BB 1 (Zt 1 H6 G) KO 0 19 [(0,(.pv (.sl 2 false (List.map enc l)))),(1,(.fn 110 [] [(.ptr 0 0)])),(7,(.pv (.int .i64 (↑(List.length (List.map enc l)):Int)))),(8,(.pv (.int .i64 0)))] [(.obj (.box [(.pv (.str v)),(.pv (.int .i64 c))]))]):Ze BB 1 (Zt 1 H6 G) KO [] (YV 19 [.pv (enc l),.fn 110 [] [.ptr 0 0]] [.box [.pv (.str v),.pv (.int .i64 c)]]):=Ze.to (.nil) h (by kernel_rfl)
theorem b2c{G:AV×List AObj×List AObj->Prop}(l:List Coef)(v:List UInt8)(c:Int)(i:Int)(h:if (decide (i<(↑(List.length l):Int)))=true then(decide (0<=i)&&decide (Int.toNat i<List.length (List.map enc l))&&Enc.sz Coef==2)=true∧(∃ y0:Coef,AV.pv (PV.rptr (PV.cells (List.getD (List.map enc l) (Int.toNat i) default)))=AV.pv (PV.rptr (PV.cells ((enc) y0)))∧((Sg [(.pv (.agg [(.str (PV.asStr (List.getD (PV.cells (enc y0)) 0 default))),(.int .i64 (PV.asInt (List.getD (PV.cells (enc y0)) (0+1) default)))])),(.ptr 0 0)] [(.box [(.pv (.str v)),(.pv (.int .i64 c))])])=true∧(if (Str.s (Coef.v (dec (PV.agg (VT (PV.cells (enc y0)) 0 [Sh.str,Sh.int .i64]))))==v)=true then G (((.pv (.int .i64 i)),([(.box [(.pv (.str v)),(.pv (.int .i64 c))])],[])))else(At BB 1 (Zt 1 H6 G) KO 0 19 [(0,(.pv (.sl 2 false (List.map enc l)))),(1,(.fn 110 [] [(.ptr 0 0)])),(7,(.pv (.int .i64 (↑(List.length l):Int)))),(8,(.pv (.int .i64 (IntKind.wrap IntKind.i64 (i+1)))))] [(.obj (.box [(.pv (.str v)),(.pv (.int .i64 c))]))]))))else(G (((.pv (.int .i64 (-1))),([(.box [(.pv (.str v)),(.pv (.int .i64 c))])],[]))))):At BB 1 (Zt 1 H6 G) KO 0 19 [(0,.pv (enc l)),(1,.fn 110 [] [.ptr 0 0]),(7,.pv (.int .i64 l.length)),(8,.pv (.int .i64 i))] [.obj (.box [.pv (.str v),.pv (.int .i64 c)])]:=At.to (.lit (.ask (.req (.abs (Coef) (fun YY=>AV.pv (PV.rptr (PV.cells ((enc) YY)))) (.lit (.req (.keep (.ask (.nil) (.lit (.nil)))))))) (.nil))) h (by kernel_rfl)
def K9:IC:=(Zh [Za 2 (.box 2 (.t 0)) 0,Za 4 (.mv (Zy 0)) 1,Za 5 (.mv (Zy 0)) 1] (.seq (Zh [Za 11 (.load true [(.int .i64),(.sl 2)] (.t 2)) 0,Za 12 (YT 73 [(.t 11)]) 0,Za 13 (.un .not (.t 12)) 2] (.cond (.t 13) (Zh [Za 4 (.mv (Zy 0)) 0,Za 5 (.mv (Zy 1)) 0] .ret) .skip)) (Zh [Za 14 (.faddr 0 (.t 2)) 0,Za 15 (Yl [(.int .i64)] (.t 14)) 0,Za 6 (Zc 15) 0] (.seq (Zh [Za 16 (.faddr 1 (.t 2)) 0,Za 17 (Yl [(.sl 2)] (.t 16)) 0,Za 18 (.len 1 (.t 17)) 0,Za 19 (.mv (Zy 0)) 0] (.block 0 (.loop [19,18,17,1,6] (Zh [Za 20 (ZA .lss (.t 19) (.t 18)) 0] (.seq (.cond (.t 20) .skip (.exit 0)) (.seq (.block 1 (Zh [Za 21 (.iaddr 2 (.t 17) (.t 19)) 0,Za 22 (.load true [.str,(.int .i64)] (.t 21)) 0,Za 8 (.alloc (.agg [(.str []),(.int .i64 0)])) 0,Ui (.store 2 (.t 8) (.t 22)) 1] (Zh [Za 23 (Zc 1) 0,Za 24 (.mkfn 110 [] [(.t 8)]) 0,Za 25 (YT 109 [(.t 23),(.t 24)]) 0,Za 9 (Zc 25) 2] (.seq (Zh [Za 26 (Zc 9) 0,Za 27 (ZA .lss (.t 26) (Zy 0)) 0] (.cond (.t 27) (Zh [Za 4 (.mv (Zy 0)) 0,Za 5 (.mv (Zy 7)) 0] .ret) .skip)) (.seq (Zh [Za 28 (Zc 1) 0,Za 29 (Zc 9) 0,Za 30 (.iaddr 2 (.t 28) (.t 29)) 0,Za 31 (.faddr 1 (.t 30)) 0,Za 32 (Yl [(.int .i64)] (.t 31)) 0,Za 10 (Zc 32) 0] (Zh [Za 33 (Zc 10) 0,Za 34 (ZA .lss (.t 33) (.c (.int .i64 (-1000000000)))) 0,Za 35 (Zc 34) 0,ZX 36 (Zc 10) 0 35,ZX 37 (ZA .gtr (.t 36) (Zy 1000000000)) 0 35,Za 38 (.pick (.t 35) (.c (.bool true)) (.t 37)) 0] (.cond (.t 38) (Zh [Za 4 (.mv (Zy 0)) 0,Za 5 (.mv (Zy 2)) 0] .ret) .skip))) (.reg [Za 39 (Zc 6) 0,Za 40 (.faddr 1 (.t 8)) 0,Za 41 (Yl [(.int .i64)] (.t 40)) 0,Za 42 (Zc 1) 0,Za 43 (Zc 9) 0,Za 44 (.iaddr 2 (.t 42) (.t 43)) 0,Za 45 (.faddr 1 (.t 44)) 0,Za 46 (Yl [(.int .i64)] (.t 45)) 0,Za 47 (ZA .mul (.t 41) (.t 46)) 0,Za 48 (ZA .add (.t 39) (.t 47)) 0,Za 6 (Zc 48) 0] (some [[],[],[1],[],[],[3,4],[5,3,4],[6,5,3,4],[2,7,1,6,5,3,4],[0,8,2,7,1,6,5,3,4],[9,0,1,2,3,4,5,6,7,8]]))))))) (.reg [Za 49 (ZA .add (.t 19) (Zy 1)) 0,Za 19 (Zc 49) 0] none))))))) (Zh [Za 50 (Zc 6) 0,Za 4 (Zc 50) 0,Za 5 (.mv (Zy 0)) 0] .ret)))))
def KU:List IRes:=[(.tmp 4),(.tmp 5)]
abbrev c7e:Nat:=51
def Ch:ZO:=Xc [(73,.pure (preT (fun x:Lin×Unit=>Yz x.1)) (Zj (fun x:Lin×Unit=>Zw x.1))),(109,.own (KC 110) C8)]
theorem d1a{G:PV->Prop}(l:Lin)(v:List Coef)(h:(Go.Pl.preT (fun(x:Lin×Unit)=>Yz x.1) [(.agg [(.int .i64 l.k),(.sl 2 false (List.map enc l.t))])])=true∧(∃ y0:Bool,AV.pv (Zj (fun(x:Lin×Unit)=>Zw x.1) [(.agg [(.int .i64 l.k),(.sl 2 false (List.map enc l.t))])])=AV.pv (enc y0)∧(if (!y0)=true then G ((.tup [(.int .i64 0),(.int .i64 1)]))else(At Ch 0 (Zb KU G) K9 0 51 [(1,(.pv (.sl 2 false (List.map enc v)))),(6,(.pv (.int .i64 l.k))),(17,(.pv (.sl 2 false (List.map enc l.t)))),(18,(.pv (.int .i64 (↑(List.length (List.map enc l.t)):Int)))),(19,(.pv (.int .i64 0)))] [])))):Ze Ch 0 (Zb KU G) K9 [] (Yk 51 [enc l,enc v]):=Ze.tp (.req (.abs (Bool) (fun YY=>AV.pv (enc YY)) (.ask (.nil) (.nil)))) h (by kernel_rfl)
theorem b1j{G:PV->Prop}(l:Lin)(v:List Coef)(n i:Int)(h:if (decide (i<(↑(List.length l.t):Int)))=true then(decide (0<=i)&&decide (Int.toNat i<List.length (List.map enc l.t))&&Enc.sz Coef==2)=true∧(∃ y0:Coef,AV.pv (PV.rptr (PV.cells (List.getD (List.map enc l.t) (Int.toNat i) default)))=AV.pv (PV.rptr (PV.cells ((enc) y0)))∧((KC 110 [(.pv (.sl 2 false (List.map enc v))),(.fn 110 [] [(.ptr 0 0)])] [(.box [(.pv (.str (PV.asStr (List.getD (PV.cells (enc y0)) 0 default)))),(.pv (.int .i64 (PV.asInt (List.getD (PV.cells (enc y0)) (0+1) default))))])])=true∧(if (decide (ZI (fun(t:Coef)=>Str.s t.v==PV.asStr (List.getD (PV.cells (enc y0)) 0 default)) (dec (enc v))<0))=true then G ((.tup [(.int .i64 0),(.int .i64 7)]))else((decide (0<=ZI (fun(t:Coef)=>Str.s t.v==PV.asStr (List.getD (PV.cells (enc y0)) 0 default)) (dec (enc v)))&&decide (Int.toNat (ZI (fun(t:Coef)=>Str.s t.v==PV.asStr (List.getD (PV.cells (enc y0)) 0 default)) (dec (enc v)))<List.length (List.map enc v))&&Enc.sz Coef==2)=true∧(∃ y1:Coef,AV.pv (PV.rptr (PV.cells (List.getD (List.map enc v) (Int.toNat (ZI (fun(t:Coef)=>Str.s t.v==PV.asStr (List.getD (PV.cells (enc y0)) 0 default)) (dec (enc v)))) default)))=AV.pv (PV.rptr (PV.cells ((enc) y1)))∧(if (decide (PV.asInt (List.getD (List.drop 1 (PV.cells (enc y1))) 0 default)<(-1000000000:Int)))=true then G ((.tup [(.int .i64 0),(.int .i64 2)]))else(if (decide (PV.asInt (List.getD (List.drop 1 (PV.cells (enc y1))) 0 default)>1000000000))=true then G ((.tup [(.int .i64 0),(.int .i64 2)]))else((decide (0<=ZI (fun(t:Coef)=>Str.s t.v==PV.asStr (List.getD (PV.cells (enc y0)) 0 default)) (dec (enc v)))&&decide (Int.toNat (ZI (fun(t:Coef)=>Str.s t.v==PV.asStr (List.getD (PV.cells (enc y0)) 0 default)) (dec (enc v)))<List.length (List.map enc v))&&Enc.sz Coef==2)=true∧(∃ y2:Coef,AV.pv (PV.rptr (PV.cells (List.getD (List.map enc v) (Int.toNat (ZI (fun(t:Coef)=>Str.s t.v==PV.asStr (List.getD (PV.cells (enc y0)) 0 default)) (dec (enc v)))) default)))=AV.pv (PV.rptr (PV.cells ((enc) y2)))∧(At Ch 0 (Zb KU G) K9 0 51 [(1,(.pv (.sl 2 false (List.map enc v)))),(6,(.pv (.int .i64 (IntKind.wrap IntKind.i64 (n+IntKind.wrap IntKind.i64 (PV.asInt (List.getD (PV.cells (enc y0)) (0+1) default)*PV.asInt (List.getD (List.drop 1 (PV.cells (enc y2))) 0 default))))))),(17,(.pv (.sl 2 false (List.map enc l.t)))),(18,(.pv (.int .i64 (↑(List.length l.t):Int)))),(19,(.pv (.int .i64 (IntKind.wrap IntKind.i64 (i+1)))))] []))))))))))else(G ((.tup [(.int .i64 n),(.int .i64 0)])))):At Ch 0 (Zb KU G) K9 0 51 [(1,.pv (enc v)),(6,.pv (.int .i64 n)),(17,.pv (enc l.t)),(18,.pv (.int .i64 l.t.length)),(19,.pv (.int .i64 i))] []:=At.tp (.lit (.ask (.req (.abs (Coef) (fun YY=>AV.pv (PV.rptr (PV.cells ((enc) YY)))) (.lit (.req (.keep (.lit (.ask (.nil) (.req (.abs (Coef) (fun YY=>AV.pv (PV.rptr (PV.cells ((enc) YY)))) (.lit (.lit (.ask (.lit (.lit (.lit (.nil)))) (.lit (.lit (.lit (.ask (.nil) (.req (.abs (Coef) (fun YY=>AV.pv (PV.rptr (PV.cells ((enc) YY)))) (.lit (.lit (.lit (.lit (.nil))))))))))))))))))))))) (.nil))) h (by kernel_rfl)
def b8q:IC:=(Zh [Za 2 (.box 3 (.t 0)) 0,Za 3 (Xo false) 1] (Zh [Za 7 (.faddr 1 (.t 2)) 0,Za 8 (.load true [(.int .i64),(.sl 2)] (.t 7)) 0,Za 9 (Yl [(.sl 2)] (.t 1)) 0,Za 10 (YT 38 [(.t 8),(.t 9)]) 0,Za 6 (Zc 10) 2,Za 11 (.extract (.t 6) 0) 2,Za 12 (.extract (.t 6) 1) 2,Za 4 (Zc 11) 2,Za 5 (Zc 12) 2] (Zh [Za 13 (Zc 5) 0,Za 14 (ZA .neq (.t 13) (Zy 0)) 0,Za 15 (Zc 14) 0,ZX 16 (Zc 4) 0 15,ZX 17 (ZA .lss (.t 16) (Zy 0)) 0 15,Za 18 (.pick (.t 15) (.c (.bool true)) (.t 17)) 0,Za 19 (Zc 18) 0,ZX 20 (.faddr 0 (.t 2)) 0 19,ZX 21 (.load false [.bool] (.t 20)) 0 19,ZX 22 (Zc 21) 0 19,Z6 23 (Zc 4) 0 22,Z6 24 (ZA .neq (.t 23) (Zy 0)) 0 22,ZX 25 (.pick (.t 22) (.t 24) (.c (.bool false))) 0 19,Za 26 (.pick (.t 19) (.c (.bool true)) (.t 25)) 0,Za 3 (Zc 26) 0] .ret)))
def b4b:List IRes:=[(.tmp 3)]
abbrev d1r:Nat:=27
def c6w:ZO:=Xc [(38,.pure (preT (fun x:Lin×List Coef×Unit=>Yz x.1&&decide (x.2.1.length<=9223372036854775807))) (Zj (fun x:Lin×List Coef×Unit=>Yy x.1 x.2.1)))]
theorem d2u{G:AV×List AObj×List AObj->Prop}(f:Fact)(v:List Coef)(h:(Go.Pl.preT (fun(x:Lin×List Coef×Unit)=>Yz x.1&&decide (List.length x.2.1<=9223372036854775807)) [(.agg [(.int .i64 (Lin.k f.l)),(.sl 2 false (List.map enc (Lin.t f.l)))]),(.sl 2 false (List.map enc v))])=true∧(∃ y0:Int×Int,AV.pv (Zj (fun(x:Lin×List Coef×Unit)=>Yy x.1 x.2.1) [(.agg [(.int .i64 (Lin.k f.l)),(.sl 2 false (List.map enc (Lin.t f.l)))]),(.sl 2 false (List.map enc v))])=AV.pv (enc y0)∧(if (y0.2 != 0)=true then G (((.pv (.bool true)),([(.box [(.pv (.sl 2 false (List.map enc v)))])],[])))else(if (decide (y0.1<0))=true then G (((.pv (.bool true)),([(.box [(.pv (.sl 2 false (List.map enc v)))])],[])))else(if f.eq=true then G (((.pv (.bool (y0.1 != 0))),([(.box [(.pv (.sl 2 false (List.map enc v)))])],[])))else(G (((.pv (.bool false)),([(.box [(.pv (.sl 2 false (List.map enc v)))])],[]))))))))):Ze c6w 1 (Zt 1 b4b G) b8q [] (YV 27 [.pv (enc f),.ptr 0 0] [.box [.pv (enc v)]]):=Ze.to (.req (.abs (Int×Int) (fun YY=>AV.pv (enc YY)) (.lit (.ask (.lit (.lit (.lit (.lit (.lit (.lit (.lit (.nil)))))))) (.lit (.lit (.lit (.ask (.lit (.lit (.lit (.lit (.nil))))) (.lit (.lit (.ask (.lit (.lit (.lit (.lit (.lit (.nil)))))) (.lit (.lit (.lit (.lit (.nil)))))))))))))))) h (by kernel_rfl)
def J9:IC:=Jl
def J6:List IRes:=[(.tmp 4)]
abbrev c6r:Nat:=19
def SH:ZO:=Xc [(239,.own H7 De)]
theorem d0o{G:AV×List AObj×List AObj->Prop}(l:List Fact)(v:List Coef)(h:At SH 1 (Zt 1 J6 G) J9 0 19 [(0,(.pv (.sl 3 false (List.map enc l)))),(1,(.fn 239 [] [(.ptr 0 0)])),(7,(.pv (.int .i64 (↑(List.length (List.map enc l)):Int)))),(8,(.pv (.int .i64 0)))] [(.obj (.box [(.pv (.sl 2 false (List.map enc v)))]))]):Ze SH 1 (Zt 1 J6 G) J9 [] (YV 19 [.pv (enc l),.fn 239 [] [.ptr 0 0]] [.box [.pv (enc v)]]):=Ze.to (.nil) h (by kernel_rfl)
theorem b8f{G:AV×List AObj×List AObj->Prop}(l:List Fact)(v:List Coef)(i:Int)(h:if (decide (i<(↑(List.length l):Int)))=true then(decide (0<=i)&&decide (Int.toNat i<List.length (List.map enc l))&&Enc.sz Fact==3)=true∧(∃ y0:Fact,AV.pv (PV.rptr (PV.cells (List.getD (List.map enc l) (Int.toNat i) default)))=AV.pv (PV.rptr (PV.cells ((enc) y0)))∧((H7 [(.pv (.agg [(.bool (PV.asBool (List.getD (PV.cells (enc y0)) 0 default))),(.int .i64 (PV.asInt (List.getD (PV.cells (enc y0)) (0+1) default))),(.sl 2 false (PV.asXs (List.getD (PV.cells (enc y0)) (0+1+1) default)))])),(.ptr 0 0)] [(.box [(.pv (.sl 2 false (List.map enc v)))])])=true∧(if (!Yh (dec (PV.agg (VT (PV.cells (enc y0)) 0 [Sh.bool,Sh.int .i64,Sh.sl 2]))) (dec (enc v)))=true then G (((.pv (.int .i64 i)),([(.box [(.pv (.sl 2 false (List.map enc v)))])],[])))else(At SH 1 (Zt 1 J6 G) J9 0 19 [(0,(.pv (.sl 3 false (List.map enc l)))),(1,(.fn 239 [] [(.ptr 0 0)])),(7,(.pv (.int .i64 (↑(List.length l):Int)))),(8,(.pv (.int .i64 (IntKind.wrap IntKind.i64 (i+1)))))] [(.obj (.box [(.pv (.sl 2 false (List.map enc v)))]))]))))else(G (((.pv (.int .i64 (-1))),([(.box [(.pv (.sl 2 false (List.map enc v)))])],[]))))):At SH 1 (Zt 1 J6 G) J9 0 19 [(0,.pv (enc l)),(1,.fn 239 [] [.ptr 0 0]),(7,.pv (.int .i64 l.length)),(8,.pv (.int .i64 i))] [.obj (.box [.pv (enc v)])]:=At.to (.lit (.ask (.req (.abs (Fact) (fun YY=>AV.pv (PV.rptr (PV.cells ((enc) YY)))) (.lit (.req (.keep (.ask (.nil) (.lit (.nil)))))))) (.nil))) h (by kernel_rfl)
def a0c:IC:=NQ
def En:List IRes:=[(.tmp 4)]
abbrev c7d:Nat:=9
def b3x:ZO:=Xc [(227,.own (Vb 239) Bn)]
theorem d0v{G:AV×List AObj×List AObj->Prop}(l:List Fact)(v:List Coef)(h:(Vb 239 [(.pv (.sl 3 false (List.map enc l))),(.fn 239 [] [(.ptr 0 0)])] [(.box [(.pv (.sl 2 false (List.map enc v)))])])=true∧(G (((.pv (.bool (decide (ZI (fun(f:Fact)=> !Yh f (dec (enc v))) (dec (enc l)) ≥ 0)))),([(.box [(.pv (.sl 2 false (List.map enc v)))])],[]))))):Ze b3x 1 (Zt 1 En G) a0c [] (YV 9 [.pv (enc l),.fn 239 [] [.ptr 0 0]] [.box [.pv (enc v)]]):=Ze.to (.req (.keep (.lit (.nil)))) h (by kernel_rfl)
def DY:IC:=(Zh [Za 3 (.box 1 (.t 1)) 0,Za 4 (Xo false) 1] (Zh [Za 5 (Zc 0) 0,Za 6 (.mkfn 239 [] [(.t 3)]) 0,Za 7 (YT 161 [(.t 5),(.t 6)]) 0,Za 8 (.un .not (.t 7)) 2,Za 4 (Zc 8) 2] .ret))
def Dq:List IRes:=[(.tmp 4)]
abbrev a7b:Nat:=9
def Av:ZO:=Xc [(161,.own (Vb 239) Bt)]
theorem b8p{G:PV->Prop}(l:List Fact)(v:List Coef)(h:(Vb 239 [(.pv (.sl 3 false (List.map enc l))),(.fn 239 [] [(.ptr 0 0)])] [(.box [(.pv (.sl 2 false (List.map enc v)))])])=true∧(G ((.bool (!List.any (dec (enc l)) fun(f:Fact)=> !Yh f (dec (enc v))))))):Ze Av 0 (Zb Dq G) DY [] (Yk 9 [enc l,enc v]):=Ze.tp (.req (.keep (.nil))) h (by kernel_rfl)
end Go.Pl
namespace Go.Pl
open Go.RowKit
open Enc (enc dec is)
open EncL (encL decL isL)
theorem c4a: ∀ a:Fact×Unit,Yz a.1.l=true->Ze b8v 0 (Zb OQ (Zi (!(Zw a.1.l)))) EF [] (Yk c6s (encL a)):=by
 rintro⟨f,⟨⟩⟩ h
 exact d1h f ⟨Zl (f.l,()) rfl h,Zk (f.l,()) rfl (ZL rfl)⟩
theorem Cr{l:List Fact}(h:Zf l=true):l.length<=9223372036854775807∧ ∀ f∈l,Yz f.l=true:=by
 simp only[Zf,Bool.and_eq_true,decide_eq_true_eq,List.all_eq_true]at h
 exact h
theorem b5i(l:List Fact)(h:Zf l=true): ∀ (m i:Nat),m+i=l.length->(∀ j (hj:j<l.length),j<i->(!(Zw l[j].l))=false) ->
  At Bz 0 (Zb Gl (Zi (ZI (fun f:Fact=> !(Zw f.l)) l))) Jl 0 19 [(0,.pv (enc l)),(1,.pv (.fn 162)),(7,.pv (.int .i64 l.length)),(8,.pv (.int .i64 i))] []:=by
 obtain⟨hl,hs⟩:=Cr h
 intro m
 induction m with
 | zero=>
  intro i hi hno
  refine b0g l i (ZR (Yd (by omega)) (VQ ?_))
  rw[Qz _ _ (fun j hj=>hno j hj (by omega))]
 | succ m ih=>
  intro i hi hno
  have hlt:i<l.length:=by omega
  refine b0g l i (ZN (Z8 hlt) ⟨Zu hlt rfl,ZB hlt ⟨Zl (l[i],()) rfl (hs _ (List.getElem_mem hlt)),Zk (l[i],()) rfl (XT (fun hb=> ?_) fun hb=> ?_)⟩⟩)
  ·exact VQ (QC (fun f:Fact=> !(Zw f.l)) l i hlt hno hb).symm
  ·rw[next (by omega)]
   refine ih (i+1) (by omega) fun j hj hji=> ?_
   by_cases e:j=i
   ·subst e;exact hb
   ·exact hno j hj (by omega)
theorem c3m: ∀ a:List Fact×FnV 162×Unit,Zf a.1=true->Ze Bz 0 (Zb Gl (Zi (ZI (fun f:Fact=> !(Zw f.l)) a.1))) Jl [] (Yk c8q (encL a)):=by
 rintro⟨l,g,⟨⟩⟩ h
 refine d0e l ?_
 rw[List.length_map]
 exact b5i l h l.length 0 (by omega) (fun j hj h=>by omega)
theorem c2q: ∀ a:List Fact×FnV 162×Unit,Zf a.1=true->Ze b3a 0 (Zb a0p (Zi (a.1.any fun f:Fact=> !(Zw f.l)))) NQ [] (Yk c7r (encL a)):=by
 rintro⟨l,g,⟨⟩⟩ h
 exact d1v l ⟨Zl (l,{},()) rfl h,Zk (l,{},()) rfl (ZL (Wi _ _))⟩
theorem a3t(l:List Fact)(p:Fact->Bool):(!(l.any fun f=> !(p f)))=l.all p:=by
 induction l with
 | nil=>rfl
 | cons x l ih=>simp only[List.any_cons,List.all_cons,Bool.not_or,Bool.not_not,ih]
theorem a0l: ∀ a:List Fact×Unit,Zf a.1=true->Ze SV 0 (Zb Dn (Zi (YC a.1))) Dl [] (Yk a7e (encL a)):=by
 rintro⟨l,⟨⟩⟩ h
 exact b8k l ⟨Zl (l,{},()) rfl h,Zk (l,{},()) rfl (ZL (a3t l _))⟩
theorem c3h: ∀ args os,Sg args os=true->Ze b1c os.length (Zt os.length Ev fun r=>r=Pv args os) EC [] (YV c6p args os):=by
 intro args os h
 unfold Sg at h
 split at h
 ·rename_i x v c
  obtain⟨x,rfl⟩:=YB h
  exact d0g x v c (by simp only[Pv,Enc.dec_enc])
 ·cases h
theorem b8t(l:List Coef)(v:List UInt8)(c:Int)(hl:l.length<=9223372036854775807)(H:AV×List AObj×List AObj)(hH:H=(.pv (.int .i64 (ZI (fun t:Coef=>t.v.s==v) l)),[.box [.pv (.str v),.pv (.int .i64 c)]],[])): ∀ (m i:Nat),m+i=l.length->(∀ j (hj:j<l.length),j<i->(l[j].v.s==v)=false) ->
  At BB 1 (Zt 1 H6 fun r=>r=H) KO 0 19 [(0,.pv (enc l)),(1,.fn 110 [] [.ptr 0 0]),(7,.pv (.int .i64 l.length)),(8,.pv (.int .i64 i))] [.obj (.box [.pv (.str v),.pv (.int .i64 c)])]:=by
 subst hH
 intro m
 induction m with
 | zero=>
  intro i hi hno
  refine b2c l v c i (ZR (Yd (by omega)) ?_)
  rw[Qz _ _ (fun j hj=>hno j hj (by omega))]
 | succ m ih=>
  intro i hi hno
  have hlt:i<l.length:=by omega
  refine b2c l v c i (ZN (Z8 hlt) ⟨Zu hlt rfl,ZB hlt ⟨Yb l[i],XT (fun hb=> ?_) fun hb=> ?_⟩⟩)
  ·rw[QC (fun t:Coef=>t.v.s==v) l i hlt hno hb]
  ·rw[next (by omega)]
   refine ih (i+1) (by omega) fun j hj hji=> ?_
   by_cases e:j=i
   ·subst e;exact hb
   ·exact hno j hj (by omega)
theorem c3s: ∀ args os,KC 110 args os=true->Ze BB os.length (Zt os.length H6 fun r=>r=C8 args os) KO [] (YV c6d args os):=by
 intro args os h
 unfold KC at h
 split at h
 ·rename_i l g v c
  simp only[Bool.and_eq_true,beq_iff_eq,decide_eq_true_eq]at h
  obtain⟨⟨rfl,hl⟩,h2⟩:=h
  obtain⟨l,rfl⟩:=YB hl
  rw[Enc.dec_enc]at h2
  refine d1c l v c ?_
  rw[List.length_map]
  exact b8t l v c h2 _ (by simp only[C8,Enc.dec_enc]) l.length 0 (by omega) (fun j hj h=>by omega)
 ·cases h
theorem Mt(v:List Coef)(s:Str):(ZI (fun t:Coef=>t.v.s==s.s) v<0∧QA v s=none) ∨ ∃ (i:Nat) (hi:i<v.length),ZI (fun t:Coef=>t.v.s==s.s) v=i∧QA v s=some v[i].c:=by
 unfold ZI QA
 have hp:(fun t:Coef=>decide (t.v=s))=fun t:Coef=>t.v.s==s.s:=by
  funext t
  by_cases h:t.v=s
  ·simp[h]
  ·have : ¬ t.v.s=s.s:=fun e=>h (by cases hv:t.v;cases s;rw[hv]at e;cases e;rfl)
   simp[h,this]
 rw[hp]
 cases h:v.findIdx? (fun t:Coef=>t.v.s==s.s)with
 | none=>
  left
  refine⟨by show(-1:Int)<0;omega,?_⟩
  rw[List.findIdx?_eq_none_iff]at h
  have:v.find? (fun t:Coef=>t.v.s==s.s)=none:=List.find?_eq_none.2 fun x hx=>by simp[h x hx]
  rw[this];rfl
 | some i=>
  right
  have h':=h
  rw[List.findIdx?_eq_some_iff_getElem]at h
  obtain⟨hi,h1,h2⟩:=h
  refine⟨i,hi,rfl,?_⟩
  have:v.find? (fun t:Coef=>t.v.s==s.s)=some v[i]:=by
   rw[List.find?_eq_some_iff_getElem]
   exact⟨h1,i,hi,rfl,fun j hj=>by simpa using h2 j hj⟩
  rw[this];rfl
theorem b6b(l:Lin)(v:List Coef)(hl:l.t.length<=9223372036854775807)(hv:v.length<=9223372036854775807): ∀ (m i:Nat) (n:Int),m+i=l.t.length ->
  At Ch 0 (Zb KU (Zi (KZ v n (l.t.drop i)))) K9 0 51 [(1,.pv (enc v)),(6,.pv (.int .i64 n)),(17,.pv (enc l.t)),(18,.pv (.int .i64 l.t.length)),(19,.pv (.int .i64 i))] []:=by
 intro m
 induction m with
 | zero=>
  intro i n hi
  refine b1j l v n i (ZR (Yd (by omega)) ?_)
  rw[List.drop_of_length_le (show l.t.length<=i by omega)]
  exact⟨rfl,rfl⟩
 | succ m ih=>
  intro i n hi
  have hlt:i<l.t.length:=by omega
  refine b1j l v n i (ZN (Z8 hlt) ⟨Zu hlt rfl,ZB hlt ?_⟩)
  rw[List.drop_eq_getElem_cons hlt,KZ,next (by omega)]
  have e0:PV.asStr (List.getD (PV.cells (enc l.t[i])) 0 default)=l.t[i].v.s:=rfl
  simp only[e0,Enc.dec_enc]
  refine⟨by show KC _ [.pv (enc v),_] _=true;simp[KC,hv],?_⟩
  rcases Mt v l.t[i].v with ⟨h1,h2⟩|⟨k,hk,h1,h2⟩
  ·rw[h2]
   exact ZN (by simpa using h1) ⟨rfl,rfl⟩
  ·rw[h2]
   simp only[h1]
   refine ZR (by simp) ⟨Zu hk rfl,ZB hk ?_⟩
   refine XQ (fun h3=> ?_) fun h3=>XQ (fun h4=> ?_) fun h4=>⟨Zu hk rfl,ZB hk ?_⟩
   ·have h3:v[k].c < -1000000000:=h3
    rw[if_pos h3];exact⟨rfl,rfl⟩
   ·have h3 : ¬ v[k].c < -1000000000:=h3
    have h4:v[k].c>1000000000:=h4
    rw[if_neg h3,if_pos h4];exact⟨rfl,rfl⟩
   ·have h3 : ¬ v[k].c < -1000000000:=h3
    have h4 : ¬ v[k].c>1000000000:=h4
    rw[if_neg h3,if_neg h4]
    exact ih (i+1) _ (by omega)
theorem c2n: ∀ a:Lin×List Coef×Unit,(Yz a.1&&decide (a.2.1.length<=9223372036854775807))=true->Ze Ch 0 (Zb KU (Zi (Yy a.1 a.2.1))) K9 [] (Yk c7e (encL a)):=by
 rintro⟨l,v,⟨⟩⟩ h
 simp only[Bool.and_eq_true,decide_eq_true_eq]at h
 have hl:l.t.length<=9223372036854775807:=by
  have:=h.1
  simp only[Yz,YF,Bool.and_eq_true,decide_eq_true_eq]at this
  exact this.1
 refine d1a l v ⟨Zl (l,()) rfl h.1,Zk (l,()) rfl ?_⟩
 show if (!Zw l)=true then Zi (Yy l v) _ else At Ch 0 (Zb KU (Zi (Yy l v))) K9 0 51 _ _
 unfold Yy
 refine XU (fun hv=> ?_) fun hv=> ?_
 ·rw[if_neg (by rw[hv];simp)]
  exact⟨rfl,rfl⟩
 ·rw[if_pos hv,List.length_map]
  exact b6b l v hl h.2 l.t.length 0 l.k (by omega)
theorem c9k: ∀ args os,H7 args os=true->Ze c6w os.length (Zt os.length b4b fun r=>r=De args os) b8q [] (YV d1r args os):=by
 intro args os h
 unfold H7 at h
 split at h
 ·rename_i f v
  simp only[Bool.and_eq_true,decide_eq_true_eq]at h
  obtain⟨⟨⟨hf,hv⟩,h1⟩,h2⟩:=h
  obtain⟨f,rfl⟩:=YB hf
  obtain⟨v,rfl⟩:=YB hv
  rw[Enc.dec_enc]at h1 h2
  refine d2u f v ⟨Zl (f.l,v,()) rfl (by simp only[h1,Bool.true_and];exact decide_eq_true h2),Zk (f.l,v,()) rfl ?_⟩
  show if ((Yy f.l v).2 != 0)=true then(_:AV×List AObj×List AObj)=De _ _ else _
  have hval:De [.pv (enc f),.ptr 0 0] [.box [.pv (enc v)]]=(.pv (.bool (!Yh f v)),[.box [.pv (enc v)]],[]):=by simp only[De,Enc.dec_enc]
  rw[hval]
  unfold Yh
  by_cases a1:(Yy f.l v).2=0
  ·refine ZR (by simp[a1]) (XQ (fun a2=> ?_) fun a2=>XT (fun a3=> ?_) fun a3=> ?_)
   ·have a2:(Yy f.l v).1<0:=a2
    simp[a2];rfl
   ·have a2 : ¬ (Yy f.l v).1<0:=a2
    rw[decide_eq_true a1,decide_eq_false a2,a3]
    simp only[Bool.not_false,Bool.true_and,Bool.not_true,Bool.false_or]
    rfl
   ·have a2 : ¬ (Yy f.l v).1<0:=a2
    rw[decide_eq_true a1,decide_eq_false a2,a3]
    rfl
  ·refine ZN (by simpa using a1) ?_
   rw[decide_eq_false a1]
   rfl
 ·cases h
theorem b5h(l:List Fact)(v:List Coef)(hl:Zf l=true)(hv:v.length<=9223372036854775807)(H:AV×List AObj×List AObj)(hH:H=(.pv (.int .i64 (ZI (fun f=> !Yh f v) l)),[.box [.pv (enc v)]],[])): ∀ (m i:Nat),m+i=l.length->(∀ j (hj:j<l.length),j<i->(!Yh l[j] v)=false) ->
  At SH 1 (Zt 1 J6 fun r=>r=H) J9 0 19 [(0,.pv (enc l)),(1,.fn 239 [] [.ptr 0 0]),(7,.pv (.int .i64 l.length)),(8,.pv (.int .i64 i))] [.obj (.box [.pv (enc v)])]:=by
 subst hH
 obtain⟨hl,hs⟩:=Cr hl
 intro m
 induction m with
 | zero=>
  intro i hi hno
  refine b8f l v i (ZR (Yd (by omega)) ?_)
  rw[Qz _ _ (fun j hj=>hno j hj (by omega))]
  rfl
 | succ m ih=>
  intro i hi hno
  have hlt:i<l.length:=by omega
  have hsi:=hs _ (List.getElem_mem hlt)
  refine b8f l v i (ZN (Z8 hlt) ⟨Zu hlt rfl,ZB hlt ⟨?_,?_⟩⟩)
  ·show H7 [.pv (enc l[i]),.ptr 0 0] [.box [.pv (enc v)]]=true
   simp[H7,hsi,hv]
  ·have e:Yh (dec (enc l[i]:PV)) (dec (enc v:PV))=Yh l[i] v:=by rw[Enc.dec_enc,Enc.dec_enc]
   show if (!Yh (dec (enc l[i]:PV)) (dec (enc v:PV)))=true then _ else _
   rw[e]
   refine XT (fun hb=> ?_) fun hb=> ?_
   ·rw[QC (fun f=> !Yh f v) l i hlt hno hb]
    rfl
   ·rw[next (by omega)]
    refine ih (i+1) (by omega) fun j hj hji=> ?_
    by_cases e:j=i
    ·subst e;exact hb
    ·exact hno j hj (by omega)
theorem c4u: ∀ args os,Vb 239 args os=true->Ze SH os.length (Zt os.length J6 fun r=>r=Bn args os) J9 [] (YV c6r args os):=by
 intro args os h
 unfold Vb at h
 split at h
 ·rename_i l g v
  simp only[Bool.and_eq_true,beq_iff_eq,decide_eq_true_eq]at h
  obtain⟨⟨⟨⟨rfl,hl⟩,hv⟩,h1⟩,h2⟩:=h
  obtain⟨l,rfl⟩:=YB hl
  obtain⟨v,rfl⟩:=YB hv
  rw[Enc.dec_enc]at h1 h2
  refine d0o l v ?_
  rw[List.length_map]
  exact b5h l v h1 h2 _ (by simp only[Bn,Enc.dec_enc]) l.length 0 (by omega) (fun j hj h=>by omega)
 ·cases h
theorem c1b: ∀ args os,Vb 239 args os=true->Ze b3x os.length (Zt os.length En fun r=>r=Bt args os) a0c [] (YV c7d args os):=by
 intro args os h
 have h':=h
 unfold Vb at h
 split at h
 ·rename_i l g v
  simp only[Bool.and_eq_true,beq_iff_eq,decide_eq_true_eq]at h
  obtain⟨⟨⟨⟨rfl,hl⟩,hv⟩,h1⟩,h2⟩:=h
  obtain⟨l,rfl⟩:=YB hl
  obtain⟨v,rfl⟩:=YB hv
  refine d0v l v ⟨h',?_⟩
  simp only[Bt,Enc.dec_enc,Wi]
  rfl
 ·cases h
theorem Em: ∀ a:List Fact×List Coef×Unit,(Zf a.1&&decide (a.2.1.length<=9223372036854775807))=true->Ze Av 0 (Zb Dq (Zi (a.1.all fun f=>Yh f a.2.1))) DY [] (Yk a7b (encL a)):=by
 rintro⟨l,v,⟨⟩⟩ h
 refine b8p l v ⟨?_,?_⟩
 ·show Vb _ [.pv (enc l),_] [.box [.pv (enc v)]]=true
  simpa [Vb]using h
 ·rw[Enc.dec_enc,Enc.dec_enc]
  exact ZL (a3t l _)
end Go.Pl
namespace Go.Pl
open Go.RowKit
open Enc (enc dec is)
open EncL (encL decL isL)
set_option maxRecDepth 100000
end Go.Pl
namespace Go.Pl
open Go.RowKit
open Enc (enc dec is)
open EncL (encL decL isL)
end Go.Pl
namespace Go.Pl
open Go.RowKit
open Enc (enc dec is)
open EncL (encL decL isL)
mutual
def a2a:Cert->Int->Bool
 | .mk _ m l ks,n=> !decide ((m.length:Int)>60)&&(GK l 8&&(!decide (n<1)&&(!decide ((ks.length:Int)>n)&&Bd ks n)))
def Bd:List Cert->Int->Bool
 | [],_=>true
 | c::cs,n=>a2a c (Db (n - 1))&&Bd cs (Db (n - Sv c))
end
end Go.Pl
namespace Go.Pl
open Go.RowKit
open Enc (enc dec is)
open EncL (encL decL isL)
set_option maxRecDepth 100000
def U7:IC:=(Zh [Za 2 (Xo false) 0] (.seq (Zh [Za 3 (.mv (Zy 0)) 0] (.block 0 (.loop [3,0] (.seq (Zh [Za 4 (Zc 3) 0,Za 5 (Zc 0) 0,Za 6 (.len 1 (.t 5)) 0,Za 7 (ZA .lss (.t 4) (.t 6)) 0] (.cond (.t 7) .skip (.exit 0))) (.seq (.block 1 (Zh [Za 10 (Zc 0) 0,Za 11 (Zc 3) 0,Za 12 (.iaddr 3 (.t 10) (.t 11)) 0,Za 13 (.faddr 1 (.t 12)) 0,Za 14 (.load true [(.int .i64),(.sl 2)] (.t 13)) 0,Za 15 (YT 20 [(.t 14)]) 0,Za 16 (.un .not (.t 15)) 2] (.cond (.t 16) (Zh [Za 2 (Xo false) 0] .ret) .skip))) (.reg [Za 8 (Zc 3) 0,Za 9 (ZA .add (.t 8) (Zy 1)) 0,Za 3 (Zc 9) 0] none)))))) (Zh [Za 2 (Xo true) 0] .ret)))
def Ql:List IRes:=[(.tmp 2)]
abbrev b1m:Nat:=17
def Kl:ZO:=Xc [(20,.pure (preT (fun x:Lin×Unit=>YF x.1)) (Zj (fun x:Lin×Unit=>Zw x.1)))]
theorem b9x{G:PV->Prop}(l:List Fact)(h:At Kl 0 (Zb Ql G) U7 0 17 [(0,(.pv (.sl 3 false (List.map enc l)))),(3,(.pv (.int .i64 0)))] []):Ze Kl 0 (Zb Ql G) U7 [] (Yk 17 [enc l]):=Ze.tp (.nil) h (by kernel_rfl)
theorem LQ{G:PV->Prop}(l:List Fact)(i:Int)(h:if (decide (i<(↑(List.length (List.map enc l)):Int)))=true then(decide (0<=i)&&decide (Int.toNat i<List.length (List.map enc l))&&Enc.sz Fact==3)=true∧(∃ y0:Fact,AV.pv (PV.rptr (PV.cells (List.getD (List.map enc l) (Int.toNat i) default)))=AV.pv (PV.rptr (PV.cells ((enc) y0)))∧((Go.Pl.preT (fun(x:Lin×Unit)=>YF x.1) [(.agg [(.int .i64 (PV.asInt (List.getD (List.drop 1 (PV.cells (enc y0))) 0 default))),(.sl 2 false (PV.asXs (List.getD (List.drop 1 (PV.cells (enc y0))) (0+1) default)))])])=true∧(∃ y1:Bool,AV.pv (Zj (fun(x:Lin×Unit)=>Zw x.1) [(.agg [(.int .i64 (PV.asInt (List.getD (List.drop 1 (PV.cells (enc y0))) 0 default))),(.sl 2 false (PV.asXs (List.getD (List.drop 1 (PV.cells (enc y0))) (0+1) default)))])])=AV.pv (enc y1)∧(if (!y1)=true then G ((.bool false))else(At Kl 0 (Zb Ql G) U7 0 17 [(0,(.pv (.sl 3 false (List.map enc l)))),(3,(.pv (.int .i64 (IntKind.wrap IntKind.i64 (i+1)))))] [])))))else(G ((.bool true)))):At Kl 0 (Zb Ql G) U7 0 17 [(0,.pv (enc l)),(3,.pv (.int .i64 i))] []:=At.tp (.lit (.ask (.req (.abs (Fact) (fun YY=>AV.pv (PV.rptr (PV.cells ((enc) YY)))) (.lit (.req (.abs (Bool) (fun YY=>AV.pv (enc YY)) (.ask (.nil) (.lit (.nil)))))))) (.nil))) h (by kernel_rfl)
end Go.Pl
namespace Go.Pl
open Go.RowKit
open Enc (enc dec is)
open EncL (encL decL isL)
set_option maxRecDepth 100000
def PO:IC:=(Zh [Za 2 (Xo false) 0] (Zh [Za 3 (Zc 0) 0,Za 4 (ZA .geq (.t 3) (.c (.int .u8 48))) 0,Za 5 (Zc 4) 0,Z6 6 (Zc 0) 0 5,Z6 7 (ZA .leq (.t 6) (.c (.int .u8 57))) 0 5,Za 8 (.pick (.t 5) (.t 7) (.c (.bool false))) 0,Za 2 (Zc 8) 0] .ret))
def Mj:List IRes:=[(.tmp 2)]
abbrev c0h:Nat:=9
def a0g:ZO:=Xc []
theorem c9j{G:PV->Prop}(c:UInt8)(h:if (decide ((↑(UInt8.toNat c):Int) ≥ 48))=true then G ((.bool (decide ((↑(UInt8.toNat c):Int)<=57))))else(G ((.bool false)))):Ze a0g 0 (Zb Mj G) PO [] (Yk 9 [enc c]):=Ze.tp (.lit (.ask (.lit (.lit (.lit (.nil)))) (.lit (.lit (.nil))))) h (by kernel_rfl)
def PU:IC:=(Zh [Za 2 (Xo false) 0] (Zh [Za 3 (Zc 0) 0,Za 4 (ZA .geq (.t 3) (.c (.int .u8 97))) 0,Za 5 (Zc 4) 0,Z6 6 (Zc 0) 0 5,Z6 7 (ZA .leq (.t 6) (.c (.int .u8 122))) 0 5,Za 8 (.pick (.t 5) (.t 7) (.c (.bool false))) 0,Za 2 (Zc 8) 0] .ret))
def NY:List IRes:=[(.tmp 2)]
abbrev c2w:Nat:=9
def a1j:ZO:=Xc []
theorem c8b{G:PV->Prop}(c:UInt8)(h:if (decide ((↑(UInt8.toNat c):Int) ≥ 97))=true then G ((.bool (decide ((↑(UInt8.toNat c):Int)<=122))))else(G ((.bool false)))):Ze a1j 0 (Zb NY G) PU [] (Yk 9 [enc c]):=Ze.tp (.lit (.ask (.lit (.lit (.lit (.nil)))) (.lit (.lit (.nil))))) h (by kernel_rfl)
def JD:IC:=(Zh [Za 2 (Xo false) 0] (Zh [Za 3 (Zc 0) 0,Za 4 (ZA .geq (.t 3) (.c (.int .i64 (-1000000)))) 0,Za 5 (Zc 4) 0,Z6 6 (Zc 0) 0 5,Z6 7 (ZA .leq (.t 6) (Zy 1000000)) 0 5,Za 8 (.pick (.t 5) (.t 7) (.c (.bool false))) 0,Za 2 (Zc 8) 0] .ret))
def DJ:List IRes:=[(.tmp 2)]
abbrev a6k:Nat:=9
def BK:ZO:=Xc []
theorem b7l{G:PV->Prop}(n:Int)(h:if (decide (n ≥ (-1000000:Int)))=true then G ((.bool (decide (n<=1000000))))else(G ((.bool false)))):Ze BK 0 (Zb DJ G) JD [] (Yk 9 [enc n]):=Ze.tp (.lit (.ask (.lit (.lit (.lit (.nil)))) (.lit (.lit (.nil))))) h (by kernel_rfl)
def a1f:IC:=JD
def EU:List IRes:=[(.tmp 2)]
abbrev c8n:Nat:=9
def b7t:ZO:=Xc []
theorem d1f{G:PV->Prop}(n:Int)(h:if (decide (n ≥ (-1000000:Int)))=true then G ((.bool (decide (n<=1000000))))else(G ((.bool false)))):Ze b7t 0 (Zb EU G) a1f [] (Yk 9 [enc n]):=Ze.tp (.lit (.ask (.lit (.lit (.lit (.nil)))) (.lit (.lit (.nil))))) h (by kernel_rfl)
def X7:IC:=(Zh [Za 2 (Xo false) 0] (.seq (Zh [Za 5 (Zc 0) 0,Za 6 (.len 0 (.t 5)) 0,Za 7 (ZA .eql (.t 6) (Zy 0)) 0,Za 8 (Zc 7) 0,ZX 9 (Zc 0) 0 8,ZX 10 (.len 0 (.t 9)) 0 8,ZX 11 (ZA .gtr (.t 10) (Zy 30)) 0 8,Za 12 (.pick (.t 8) (.c (.bool true)) (.t 11)) 0] (.cond (.t 12) (Zh [Za 2 (Xo false) 0] .ret) .skip)) (.seq (Zh [Za 13 (Zc 0) 0,Za 14 (.index (.t 13) (Zy 0)) 0,Za 15 (ZA .eql (.t 14) (.c (.int .u8 95))) 0] (.cond (.t 15) (.seq (Zh [Za 16 (Zc 0) 0,Za 17 (.len 0 (.t 16)) 0,Za 18 (ZA .lss (.t 17) (Zy 2)) 0,Za 19 (Zc 18) 0,ZX 20 (Zc 0) 0 19,ZX 21 (.len 0 (.t 20)) 0 19,ZX 22 (ZA .gtr (.t 21) (Zy 10)) 0 19,Za 23 (.pick (.t 19) (.c (.bool true)) (.t 22)) 0,Za 24 (Zc 23) 0,ZX 25 (Zc 0) 0 24,ZX 26 (.index (.t 25) (Zy 1)) 0 24,ZX 27 (ZA .eql (.t 26) (.c (.int .u8 48))) 0 24,Za 28 (.pick (.t 24) (.c (.bool true)) (.t 27)) 0] (.cond (.t 28) (Zh [Za 2 (Xo false) 0] .ret) .skip)) (.seq (Zh [Za 3 (.mv (Zy 1)) 0] (.block 0 (.loop [3,0] (.seq (Zh [Za 29 (Zc 3) 0,Za 30 (Zc 0) 0,Za 31 (.len 0 (.t 30)) 0,Za 32 (ZA .lss (.t 29) (.t 31)) 0] (.cond (.t 32) .skip (.exit 0))) (.seq (.block 1 (Zh [Za 35 (Zc 0) 0,Za 36 (Zc 3) 0,Za 37 (.index (.t 35) (.t 36)) 0,Za 38 (YT 155 [(.t 37)]) 0,Za 39 (.un .not (.t 38)) 2] (.cond (.t 39) (Zh [Za 2 (Xo false) 0] .ret) .skip))) (.reg [Za 33 (Zc 3) 0,Za 34 (ZA .add (.t 33) (Zy 1)) 0,Za 3 (Zc 34) 0] none)))))) (Zh [Za 2 (Xo true) 0] .ret))) .skip)) (.seq (Zh [Za 4 (.mv (Zy 0)) 0] (.block 2 (.loop [4,0] (.seq (Zh [Za 40 (Zc 4) 0,Za 41 (Zc 0) 0,Za 42 (.len 0 (.t 41)) 0,Za 43 (ZA .lss (.t 40) (.t 42)) 0] (.cond (.t 43) .skip (.exit 2))) (.seq (.block 3 (Zh [Za 46 (Zc 0) 0,Za 47 (Zc 4) 0,Za 48 (.index (.t 46) (.t 47)) 0,Za 49 (YT 156 [(.t 48)]) 0,Za 50 (.un .not (.t 49)) 2,Za 51 (Zc 50) 2,Z6 52 (Zc 4) 2 51,Z6 53 (ZA .eql (.t 52) (Zy 0)) 2 51,Z6 54 (Zc 53) 2 51,ZX 55 (Zc 0) 2 54,ZX 56 (Zc 4) 2 54,ZX 57 (.index (.t 55) (.t 56)) 2 54,ZX 58 (YT 155 [(.t 57)]) 2 54,ZX 59 (.un .not (.t 58)) 4 54,Z6 60 (.pick (.t 54) (.c (.bool true)) (.t 59)) 4 51,Za 61 (.pick (.t 51) (.t 60) (.c (.bool false))) 4] (.cond (.t 61) (Zh [Za 2 (Xo false) 0] .ret) .skip))) (.reg [Za 44 (Zc 4) 0,Za 45 (ZA .add (.t 44) (Zy 1)) 0,Za 4 (Zc 45) 0] none)))))) (Zh [Za 2 (Xo true) 0] .ret)))))
def X3:List IRes:=[(.tmp 2)]
abbrev b4t:Nat:=62
def Vg:ZO:=Xc [(155,.pure (preT (fun _:UInt8×Unit=>true)) (Zj (fun x:UInt8×Unit=>digB x.1))),(156,.pure (preT (fun _:UInt8×Unit=>true)) (Zj (fun x:UInt8×Unit=>WW x.1)))]
theorem c4q{G:PV->Prop}(s:List UInt8)(h:if ((↑(List.length s):Int)==0)=true then G ((.bool false))else(if (decide ((↑(List.length s):Int)>30))=true then G ((.bool false))else((decide (0<=0)&&decide (Int.toNat 0<List.length s))=true∧(if ((↑(UInt8.toNat (List.getD s (Int.toNat 0) (0:UInt8))):Int)==95)=true then if (decide ((↑(List.length s):Int)<2))=true then G ((.bool false))else(if (decide ((↑(List.length s):Int)>10))=true then G ((.bool false))else((decide (0<=1)&&decide (Int.toNat 1<List.length s))=true∧(if ((↑(UInt8.toNat (List.getD s (Int.toNat 1) (0:UInt8))):Int)==48)=true then G ((.bool false))else(At Vg 0 (Zb X3 G) X7 0 62 [(0,(.pv (.str s))),(3,(.pv (.int .i64 1)))] []))))else(At Vg 0 (Zb X3 G) X7 1 62 [(0,(.pv (.str s))),(4,(.pv (.int .i64 0)))] []))))):Ze Vg 0 (Zb X3 G) X7 [] (Yk 62 [.str s]):=Ze.tp (.lit (.ask (.lit (.lit (.lit (.lit (.nil))))) (.lit (.lit (.lit (.lit (.ask (.nil) (.req (.lit (.ask (.lit (.ask (.lit (.lit (.lit (.lit (.lit (.lit (.lit (.lit (.nil))))))))) (.lit (.lit (.lit (.lit (.ask (.lit (.lit (.lit (.lit (.nil))))) (.lit (.req (.lit (.lit (.lit (.ask (.nil) (.nil)))))))))))))) (.nil))))))))))) h (by kernel_rfl)
theorem Oa{G:PV->Prop}(s:List UInt8)(i:Int)(h:if (decide (i<(↑(List.length s):Int)))=true then(decide (0<=i)&&decide (Int.toNat i<List.length s))=true∧((Go.Pl.preT (fun(x:UInt8×Unit)=>true) [(.int IntKind.u8 (↑(UInt8.toNat (List.getD s (Int.toNat i) (0:UInt8))):Int))])=true∧(∃ y0:Bool,AV.pv (Zj (fun(x:UInt8×Unit)=>digB x.1) [(.int IntKind.u8 (↑(UInt8.toNat (List.getD s (Int.toNat i) (0:UInt8))):Int))])=AV.pv (enc y0)∧(if (!y0)=true then G ((.bool false))else(At Vg 0 (Zb X3 G) X7 0 62 [(0,(.pv (.str s))),(3,(.pv (.int .i64 (IntKind.wrap IntKind.i64 (i+1)))))] []))))else(G ((.bool true)))):At Vg 0 (Zb X3 G) X7 0 62 [(0,.pv (.str s)),(3,.pv (.int .i64 i))] []:=At.tp (.lit (.ask (.req (.req (.abs (Bool) (fun YY=>AV.pv (enc YY)) (.ask (.nil) (.lit (.nil)))))) (.nil))) h (by kernel_rfl)
theorem Tj{G:PV->Prop}(s:List UInt8)(i:Int)(h:if (decide (i<(↑(List.length s):Int)))=true then(decide (0<=i)&&decide (Int.toNat i<List.length s))=true∧((Go.Pl.preT (fun(x:UInt8×Unit)=>true) [(.int IntKind.u8 (↑(UInt8.toNat (List.getD s (Int.toNat i) (0:UInt8))):Int))])=true∧(∃ y0:Bool,AV.pv (Zj (fun(x:UInt8×Unit)=>WW x.1) [(.int IntKind.u8 (↑(UInt8.toNat (List.getD s (Int.toNat i) (0:UInt8))):Int))])=AV.pv (enc y0)∧(if (!y0)=true then if (i==0)=true then G ((.bool false))else((decide (0<=i)&&decide (Int.toNat i<List.length s))=true∧((Go.Pl.preT (fun(x:UInt8×Unit)=>true) [(.int IntKind.u8 (↑(UInt8.toNat (List.getD s (Int.toNat i) (0:UInt8))):Int))])=true∧(∃ y1:Bool,AV.pv (Zj (fun(x:UInt8×Unit)=>digB x.1) [(.int IntKind.u8 (↑(UInt8.toNat (List.getD s (Int.toNat i) (0:UInt8))):Int))])=AV.pv (enc y1)∧(if (!y1)=true then G ((.bool false))else(At Vg 0 (Zb X3 G) X7 1 62 [(0,(.pv (.str s))),(4,(.pv (.int .i64 (IntKind.wrap IntKind.i64 (i+1)))))] [])))))else(At Vg 0 (Zb X3 G) X7 1 62 [(0,(.pv (.str s))),(4,(.pv (.int .i64 (IntKind.wrap IntKind.i64 (i+1)))))] []))))else(G ((.bool true)))):At Vg 0 (Zb X3 G) X7 1 62 [(0,.pv (.str s)),(4,.pv (.int .i64 i))] []:=At.tp (.lit (.ask (.req (.req (.abs (Bool) (fun YY=>AV.pv (enc YY)) (.ask (.lit (.lit (.lit (.ask (.lit (.lit (.lit (.lit (.lit (.lit (.lit (.lit (.nil))))))))) (.lit (.lit (.req (.lit (.req (.abs (Bool) (fun YY=>AV.pv (enc YY)) (.lit (.lit (.lit (.lit (.ask (.nil) (.lit (.nil))))))))))))))))) (.lit (.lit (.lit (.lit (.lit (.lit (.nil))))))))))) (.nil))) h (by kernel_rfl)
def WE:IC:=(Zh [Za 1 (.box 2 (.t 0)) 0,Za 2 (Xo false) 1] (.seq (Zh [Za 5 (.faddr 0 (.t 1)) 0,Za 6 (Yl [(.int .i64)] (.t 5)) 0,Za 7 (YT 83 [(.t 6)]) 0,Za 8 (.un .not (.t 7)) 2,Za 9 (Zc 8) 2,ZX 10 (.faddr 1 (.t 1)) 2 9,ZX 11 (Yl [(.sl 2)] (.t 10)) 2 9,ZX 12 (.len 1 (.t 11)) 2 9,ZX 13 (ZA .gtr (.t 12) (Zy 12)) 2 9,Za 14 (.pick (.t 9) (.c (.bool true)) (.t 13)) 2] (.cond (.t 14) (Zh [Za 2 (Xo false) 0] .ret) .skip)) (.seq (Zh [Za 3 (.mv (Zy 0)) 0] (.block 0 (.loop [3,1] (.seq (Zh [Za 15 (Zc 3) 0,Za 16 (.faddr 1 (.t 1)) 0,Za 17 (Yl [(.sl 2)] (.t 16)) 0,Za 18 (.len 1 (.t 17)) 0,Za 19 (ZA .lss (.t 15) (.t 18)) 0] (.cond (.t 19) .skip (.exit 0))) (.seq (.block 1 (Zh [Za 22 (.faddr 1 (.t 1)) 0,Za 23 (Yl [(.sl 2)] (.t 22)) 0,Za 24 (Zc 3) 0,Za 25 (.iaddr 2 (.t 23) (.t 24)) 0,Za 26 (.load true [.str,(.int .i64)] (.t 25)) 0,Za 4 (.alloc (.agg [(.str []),(.int .i64 0)])) 0,Ui (.store 2 (.t 4) (.t 26)) 1] (.seq (.reg [Za 27 (.faddr 0 (.t 4)) 0,Za 28 (.load false [.str] (.t 27)) 0,Za 29 (YT 84 [(.t 28)]) 0,Za 30 (.un .not (.t 29)) 2,Za 31 (Zc 30) 2,ZX 32 (.faddr 1 (.t 4)) 2 31,ZX 33 (Yl [(.int .i64)] (.t 32)) 2 31,ZX 34 (ZA .eql (.t 33) (Zy 0)) 2 31,Za 35 (.pick (.t 31) (.c (.bool true)) (.t 34)) 2,Za 36 (Zc 35) 2,ZX 37 (.faddr 1 (.t 4)) 2 36,ZX 38 (Yl [(.int .i64)] (.t 37)) 2 36,ZX 39 (YT 83 [(.t 38)]) 2 36,ZX 40 (.un .not (.t 39)) 4 36,Za 41 (.pick (.t 36) (.c (.bool true)) (.t 40)) 4,Za 42 (Zc 41) 4,ZX 43 (Zc 3) 4 42,ZX 44 (ZA .gtr (.t 43) (Zy 0)) 4 42,ZX 45 (Zc 44) 4 42,Z6 46 (.faddr 1 (.t 1)) 4 45,Z6 47 (Yl [(.sl 2)] (.t 46)) 4 45,Z6 48 (Zc 3) 4 45,Z6 49 (ZA .sub (.t 48) (Zy 1)) 4 45,Z6 50 (.iaddr 2 (.t 47) (.t 49)) 4 45,Z6 51 (.faddr 0 (.t 50)) 4 45,Z6 52 (.load false [.str] (.t 51)) 4 45,Z6 53 (.faddr 0 (.t 4)) 4 45,Z6 54 (.load false [.str] (.t 53)) 4 45,Z6 55 (ZA .geq (.t 52) (.t 54)) 4 45,ZX 56 (.pick (.t 45) (.t 55) (.c (.bool false))) 4 42,Za 57 (.pick (.t 42) (.c (.bool true)) (.t 56)) 4] (some [[],[0],[1,0],[2,1,0],[3,2,1,0],[4,3,2,1,0],[5,4,3,2,1,0],[6,4,5,3,2,1,0],[4,7,3,2,1,0,6,5],[8,4,7,3,2,1,0,6,5],[9,8,4,7,3,2,1,0,6,5],[10,9,8,4,7,3,2,1,0,6,5],[11,9,10,8,4,7,3,2,1,0,6,5],[12,9,11,10,8,4,7,3,2,1,0,6,5],[9,13,8,4,7,3,2,1,0,6,5,12,11,10],[14,12,9,13,8,4,7,3,2,1,0,6,5,11,10],[15,14,12,9,13,8,4,7,3,2,1,0,6,5,11,10],[16,15,14,12,9,13,8,4,7,3,2,1,0,6,5,11,10],[17,15,16,14,12,9,13,8,4,7,3,2,1,0,6,5,11,10],[18,17,15,16,14,12,9,13,8,4,7,3,2,1,0,6,5,11,10],[19,18,17,15,16,14,12,9,13,8,4,7,3,2,1,0,6,5,11,10],[18,17,15,16,14,12,9,13,8,4,7,3,2,1,0,6,5,11,10],[21,18,17,15,16,14,12,9,13,8,4,7,3,2,1,0,6,5,11,10],[20,22,18,19,17,15,16,14,12,9,13,8,4,7,3,2,1,0,6,5,11,10,21],[23,18,20,22,19,17,15,16,14,12,9,13,8,4,7,3,2,1,0,6,5,11,10,21],[24,18,23,20,22,19,17,15,16,14,12,9,13,8,4,7,3,2,1,0,6,5,11,10,21],[18,17,15,16,14,12,9,13,8,4,7,3,2,1,0,6,5,11,10],[26,18,17,15,16,14,12,9,13,8,4,7,3,2,1,0,6,5,11,10],[25,27,18,24,23,20,22,19,17,15,16,14,12,9,13,8,4,7,3,2,1,0,6,5,11,10,21,26],[18,28,15,17,16,14,12,9,13,8,4,7,3,2,1,0,6,5,11,10,25,27,24,23,20,22,19,21,26],[15,29,14,12,9,13,8,4,7,3,2,1,0,6,5,11,10,18,28,17,16,25,27,24,23,20,22,19,21,26]])) (.cond (.t 57) (Zh [Za 2 (Xo false) 0] .ret) .skip)))) (.reg [Za 20 (Zc 3) 0,Za 21 (ZA .add (.t 20) (Zy 1)) 0,Za 3 (Zc 21) 0] none)))))) (Zh [Za 2 (Xo true) 0] .ret))))
def WI:List IRes:=[(.tmp 2)]
abbrev a9t:Nat:=58
def Vy:ZO:=Xc [(83,.pure (preT (fun _:Int×Unit=>true)) (Zj (fun x:Int×Unit=>YP x.1))),(84,.pure (preT (fun _:Str×Unit=>true)) (Zj (fun x:Str×Unit=>ZG x.1)))]
theorem b6g{G:PV->Prop}(l:Lin)(h : ∃ y0:Bool,AV.pv (Zj (fun(x:Int×Unit)=>YP x.1) [(.int .i64 l.k)])=AV.pv (enc y0)∧(if (!y0)=true then G ((.bool false))else(if (decide ((↑(List.length (List.map enc l.t)):Int)>12))=true then G ((.bool false))else(At Vy 0 (Zb WI G) WE 0 58 [(1,(.ptr 0 0)),(3,(.pv (.int .i64 0)))] [(.obj (.box [(.pv (.int .i64 l.k)),(.pv (.sl 2 false (List.map enc l.t)))]))])))):Ze Vy 0 (Zb WI G) WE [] (Yk 58 [enc l]):=Ze.tp (.lit (.abs (Bool) (fun YY=>AV.pv (enc YY)) (.ask (.lit (.lit (.lit (.lit (.lit (.nil)))))) (.lit (.lit (.lit (.lit (.lit (.ask (.nil) (.nil)))))))))) h (by kernel_rfl)
theorem Pb{G:PV->Prop}(l:Lin)(i:Int)(h:if (decide (i<(↑(List.length (List.map enc l.t)):Int)))=true then(decide (0<=i)&&decide (Int.toNat i<List.length (List.map enc l.t))&&Enc.sz Coef==2)=true∧(∃ y0:Coef,AV.pv (PV.rptr (PV.cells (List.getD (List.map enc l.t) (Int.toNat i) default)))=AV.pv (PV.rptr (PV.cells ((enc) y0)))∧(∃ y1:Bool,AV.pv (Zj (fun(x:Str×Unit)=>ZG x.1) [(.str (PV.asStr (List.getD (PV.cells (enc y0)) 0 default)))])=AV.pv (enc y1)∧(if (!y1)=true then G ((.bool false))else(if (PV.asInt (List.getD (PV.cells (enc y0)) (0+1) default)==0)=true then G ((.bool false))else(∃ y2:Bool,AV.pv (Zj (fun(x:Int×Unit)=>YP x.1) [(.int .i64 (PV.asInt (List.getD (PV.cells (enc y0)) (0+1) default)))])=AV.pv (enc y2)∧(if (!y2)=true then G ((.bool false))else(if (decide (i>0))=true then(decide (0<=IntKind.wrap IntKind.i64 (i - 1))&&decide (Int.toNat (IntKind.wrap IntKind.i64 (i - 1))<List.length (List.map enc l.t))&&Enc.sz Coef==2)=true∧(∃ y3:Coef,AV.pv (PV.rptr (PV.cells (List.getD (List.map enc l.t) (Int.toNat (IntKind.wrap IntKind.i64 (i - 1))) default)))=AV.pv (PV.rptr (PV.cells ((enc) y3)))∧(if (!Op.bytesLess (PV.asStr (List.getD (List.drop 0 (PV.cells (enc y3))) 0 default)) (PV.asStr (List.getD (PV.cells (enc y0)) 0 default)))=true then G ((.bool false))else(At Vy 0 (Zb WI G) WE 0 58 [(1,(.ptr 0 0)),(3,(.pv (.int .i64 (IntKind.wrap IntKind.i64 (i+1)))))] [(.obj (.box [(.pv (.int .i64 l.k)),(.pv (.sl 2 false (List.map enc l.t)))]))])))else(At Vy 0 (Zb WI G) WE 0 58 [(1,(.ptr 0 0)),(3,(.pv (.int .i64 (IntKind.wrap IntKind.i64 (i+1)))))] [(.obj (.box [(.pv (.int .i64 l.k)),(.pv (.sl 2 false (List.map enc l.t)))]))]))))))))else(G ((.bool true)))):At Vy 0 (Zb WI G) WE 0 58 [(1,.ptr 0 0),(3,.pv (.int .i64 i))] [.obj (.box [.pv (.int .i64 l.k),.pv (enc l.t)])]:=At.tp (.lit (.ask (.req (.abs (Coef) (fun YY=>AV.pv (PV.rptr (PV.cells ((enc) YY)))) (.lit (.lit (.abs (Bool) (fun YY=>AV.pv (enc YY)) (.ask (.lit (.lit (.lit (.lit (.lit (.lit (.lit (.lit (.lit (.lit (.lit (.lit (.lit (.lit (.nil))))))))))))))) (.lit (.lit (.lit (.lit (.ask (.lit (.lit (.lit (.lit (.lit (.lit (.lit (.lit (.lit (.lit (.nil))))))))))) (.lit (.lit (.lit (.abs (Bool) (fun YY=>AV.pv (enc YY)) (.lit (.lit (.ask (.lit (.lit (.lit (.lit (.lit (.nil)))))) (.lit (.lit (.lit (.ask (.lit (.lit (.lit (.lit (.lit (.req (.abs (Coef) (fun YY=>AV.pv (PV.rptr (PV.cells ((enc) YY)))) (.lit (.lit (.lit (.lit (.lit (.lit (.lit (.lit (.lit (.lit (.ask (.nil) (.lit (.nil)))))))))))))))))))) (.lit (.lit (.lit (.lit (.lit (.lit (.lit (.lit (.lit (.lit (.lit (.lit (.lit (.lit (.nil))))))))))))))))))))))))))))))))))))) (.nil))) h (by kernel_rfl)
def Ky:IC:=(Zh [Za 2 (.box 2 (.t 0)) 0,Za 4 (Xo false) 1] (.seq (Zh [Za 5 (.mv (Zy 0)) 0] (.block 0 (.loop [5,2,1] (.seq (Zh [Za 6 (Zc 5) 0,Za 7 (.faddr 1 (.t 2)) 0,Za 8 (Yl [(.sl 2)] (.t 7)) 0,Za 9 (.len 1 (.t 8)) 0,Za 10 (ZA .lss (.t 6) (.t 9)) 0] (.cond (.t 10) .skip (.exit 0))) (.seq (.block 1 (Zh [Za 13 (.faddr 1 (.t 2)) 0,Za 14 (Yl [(.sl 2)] (.t 13)) 0,Za 15 (Zc 5) 0,Za 16 (.iaddr 2 (.t 14) (.t 15)) 0,Za 17 (.faddr 0 (.t 16)) 0,Za 18 (.load false [.str] (.t 17)) 0,Za 19 (.len 0 (.t 18)) 0,Za 20 (ZA .gtr (.t 19) (Zy 40)) 0] (.cond (.t 20) (Zh [Za 4 (Xo false) 0] .ret) .skip))) (.reg [Za 11 (Zc 5) 0,Za 12 (ZA .add (.t 11) (Zy 1)) 0,Za 5 (Zc 12) 0] none)))))) (Zh [Za 21 (.faddr 1 (.t 2)) 0,Za 22 (Yl [(.sl 2)] (.t 21)) 0,Za 23 (.len 1 (.t 22)) 0,Za 24 (Zc 1) 0,Za 25 (ZA .leq (.t 23) (.t 24)) 0,Za 4 (Zc 25) 0] .ret)))
def KH:List IRes:=[(.tmp 4)]
abbrev c2i:Nat:=26
def H5:ZO:=Xc []
theorem c8a{G:PV->Prop}(l:Lin)(n:Int)(h:At H5 0 (Zb KH G) Ky 0 26 [(1,(.pv (.int .i64 n))),(2,(.ptr 0 0)),(5,(.pv (.int .i64 0)))] [(.obj (.box [(.pv (.int .i64 l.k)),(.pv (.sl 2 false (List.map enc l.t)))]))]):Ze H5 0 (Zb KH G) Ky [] (Yk 26 [enc l,enc n]):=Ze.tp (.nil) h (by kernel_rfl)
theorem a3i{G:PV->Prop}(l:Lin)(n:Int)(i:Int)(h:if (decide (i<(↑(List.length (List.map enc l.t)):Int)))=true then(decide (0<=i)&&decide (Int.toNat i<List.length (List.map enc l.t))&&Enc.sz Coef==2)=true∧(∃ y0:Coef,AV.pv (PV.rptr (PV.cells (List.getD (List.map enc l.t) (Int.toNat i) default)))=AV.pv (PV.rptr (PV.cells ((enc) y0)))∧(if (decide ((↑(List.length (PV.asStr (List.getD (List.drop 0 (PV.cells (enc y0))) 0 default))):Int)>40))=true then G ((.bool false))else(At H5 0 (Zb KH G) Ky 0 26 [(1,(.pv (.int .i64 n))),(2,(.ptr 0 0)),(5,(.pv (.int .i64 (IntKind.wrap IntKind.i64 (i+1)))))] [(.obj (.box [(.pv (.int .i64 l.k)),(.pv (.sl 2 false (List.map enc l.t)))]))])))else(G ((.bool (decide ((↑(List.length (List.map enc l.t)):Int)<=n)))))):At H5 0 (Zb KH G) Ky 0 26 [(1,.pv (.int .i64 n)),(2,.ptr 0 0),(5,.pv (.int .i64 i))] [.obj (.box [.pv (.int .i64 l.k),.pv (enc l.t)])]:=At.tp (.lit (.ask (.req (.abs (Coef) (fun YY=>AV.pv (PV.rptr (PV.cells ((enc) YY)))) (.lit (.lit (.ask (.nil) (.lit (.nil))))))) (.lit (.nil)))) h (by kernel_rfl)
def Qp:IC:=(Zh [Za 4 (Xo false) 0] (.seq (Zh [Za 5 (.mv (Zy 0)) 0] (.block 0 (.loop [5,0,1] (.seq (Zh [Za 6 (Zc 5) 0,Za 7 (Zc 0) 0,Za 8 (.len 1 (.t 7)) 0,Za 9 (ZA .lss (.t 6) (.t 8)) 0] (.cond (.t 9) .skip (.exit 0))) (.seq (.block 1 (Zh [Za 12 (Zc 0) 0,Za 13 (Zc 5) 0,Za 14 (.iaddr 3 (.t 12) (.t 13)) 0,Za 15 (.faddr 1 (.t 14)) 0,Za 16 (.load true [(.int .i64),(.sl 2)] (.t 15)) 0,Za 17 (YT 16 [(.t 16),(Zy 8)]) 0,Za 18 (.un .not (.t 17)) 2] (.cond (.t 18) (Zh [Za 4 (Xo false) 0] .ret) .skip))) (.reg [Za 10 (Zc 5) 0,Za 11 (ZA .add (.t 10) (Zy 1)) 0,Za 5 (Zc 11) 0] none)))))) (Zh [Za 19 (Zc 0) 0,Za 20 (.len 1 (.t 19)) 0,Za 21 (Zc 1) 0,Za 22 (ZA .leq (.t 20) (.t 21)) 0,Za 4 (Zc 22) 0] .ret)))
def U3:List IRes:=[(.tmp 4)]
abbrev b7w:Nat:=23
def KF:ZO:=Xc [(16,.pure (preT (fun x:Lin×Int×Unit=>YF x.1)) (Zj (fun x:Lin×Int×Unit=>GK x.1 x.2.1)))]
theorem c0p{G:PV->Prop}(l:List Fact)(n:Int)(h:At KF 0 (Zb U3 G) Qp 0 23 [(0,(.pv (.sl 3 false (List.map enc l)))),(1,(.pv (.int .i64 n))),(5,(.pv (.int .i64 0)))] []):Ze KF 0 (Zb U3 G) Qp [] (Yk 23 [enc l,enc n]):=Ze.tp (.nil) h (by kernel_rfl)
theorem FX{G:PV->Prop}(l:List Fact)(n:Int)(i:Int)(h:if (decide (i<(↑(List.length (List.map enc l)):Int)))=true then(decide (0<=i)&&decide (Int.toNat i<List.length (List.map enc l))&&Enc.sz Fact==3)=true∧(∃ y0:Fact,AV.pv (PV.rptr (PV.cells (List.getD (List.map enc l) (Int.toNat i) default)))=AV.pv (PV.rptr (PV.cells ((enc) y0)))∧((Go.Pl.preT (fun(x:Lin×Int×Unit)=>YF x.1) [(.agg [(.int .i64 (PV.asInt (List.getD (List.drop 1 (PV.cells (enc y0))) 0 default))),(.sl 2 false (PV.asXs (List.getD (List.drop 1 (PV.cells (enc y0))) (0+1) default)))]),(.int .i64 8)])=true∧(∃ y1:Bool,AV.pv (Zj (fun(x:Lin×Int×Unit)=>GK x.1 x.2.1) [(.agg [(.int .i64 (PV.asInt (List.getD (List.drop 1 (PV.cells (enc y0))) 0 default))),(.sl 2 false (PV.asXs (List.getD (List.drop 1 (PV.cells (enc y0))) (0+1) default)))]),(.int .i64 8)])=AV.pv (enc y1)∧(if (!y1)=true then G ((.bool false))else(At KF 0 (Zb U3 G) Qp 0 23 [(0,(.pv (.sl 3 false (List.map enc l)))),(1,(.pv (.int .i64 n))),(5,(.pv (.int .i64 (IntKind.wrap IntKind.i64 (i+1)))))] [])))))else(G ((.bool (decide ((↑(List.length (List.map enc l)):Int)<=n)))))):At KF 0 (Zb U3 G) Qp 0 23 [(0,.pv (enc l)),(1,.pv (.int .i64 n)),(5,.pv (.int .i64 i))] []:=At.tp (.lit (.ask (.req (.abs (Fact) (fun YY=>AV.pv (PV.rptr (PV.cells ((enc) YY)))) (.lit (.req (.abs (Bool) (fun YY=>AV.pv (enc YY)) (.ask (.nil) (.lit (.nil)))))))) (.lit (.nil)))) h (by kernel_rfl)
-- IMPOSSIBLE
def EX:IC:=(Zh [Za 2 (.alloc (.agg [(.int .i64 0),(.sl 0 true [])])) 0] (Zh [Za 3 (Zc 0) 0,Za 4 (.build [(.int .i64 0),(.sl 0 true [])] [(0,(1,(.t 3)))]) 0,Ui (.store 2 (.t 2) (.t 4)) 0] .ret))
def a0i:List IRes:=[(.cell true 2 2)]
abbrev c7o:Nat:=5
def b0p:ZO:=Xc []
theorem d1p{G:PV->Prop}(n:Int)(h:G ((.agg [(.int .i64 n),(.sl 0 true [])]))):Ze b0p 0 (Zb a0i G) EX [] (Yk 5 [enc n]):=Ze.tp (.nil) h (by kernel_rfl)
def XD:IC:=(Zh [Za 2 (.box 2 (.t 0)) 0,Za 4 (.mv (Zy 0)) 1,Za 5 (.mv (Zy 0)) 1] (.seq (Zh [Za 10 (.load true [(.int .i64),(.sl 2)] (.t 2)) 0,Za 11 (YT 20 [(.t 10)]) 0,Za 12 (.un .not (.t 11)) 2] (.cond (.t 12) (Zh [Za 4 (.mv (Zy 0)) 0,Za 5 (.mv (Zy 1)) 0] .ret) .skip)) (Zh [Za 13 (.faddr 0 (.t 2)) 0,Za 14 (Yl [(.int .i64)] (.t 13)) 0,Za 6 (Zc 14) 0] (.seq (Zh [Za 7 (.mv (Zy 0)) 0] (.block 0 (.loop [7,2,1,6] (.seq (Zh [Za 15 (Zc 7) 0,Za 16 (.faddr 1 (.t 2)) 0,Za 17 (Yl [(.sl 2)] (.t 16)) 0,Za 18 (.len 1 (.t 17)) 0,Za 19 (ZA .lss (.t 15) (.t 18)) 0] (.cond (.t 19) .skip (.exit 0))) (.seq (.block 1 (Zh [Za 8 (.mv (Zy 0)) 0] (.seq (.block 2 (.loop [8,1,2,7,6] (.seq (.seq (.reg [Za 22 (Zc 8) 0,Za 23 (Zc 1) 0,Za 24 (.len 1 (.t 23)) 0,Za 25 (ZA .lss (.t 22) (.t 24)) 0,Za 26 (Zc 25) 0,Z6 27 (Zc 1) 0 26,Z6 28 (Zc 8) 0 26,Z6 29 (.iaddr 2 (.t 27) (.t 28)) 0 26,Z6 30 (.faddr 0 (.t 29)) 0 26,Z6 31 (.load false [.str] (.t 30)) 0 26,Z6 32 (.faddr 1 (.t 2)) 0 26,Z6 33 (Yl [(.sl 2)] (.t 32)) 0 26,Z6 34 (Zc 7) 0 26,Z6 35 (.iaddr 2 (.t 33) (.t 34)) 0 26,Z6 36 (.faddr 0 (.t 35)) 0 26,Z6 37 (.load false [.str] (.t 36)) 0 26,Z6 38 (ZA .neq (.t 31) (.t 37)) 0 26,Za 39 (.pick (.t 26) (.t 38) (.c (.bool false))) 0] (some [[],[],[1],[0,2,1],[3,0,2,1],[4,3,0,2,1],[4,3,0,2,1],[5,6,4,3,0,2,1],[7,4,5,6,3,0,2,1],[8,4,7,5,6,3,0,2,1],[4,3,0,2,1],[10,4,3,0,2,1],[4,3,0,2,1],[11,12,4,10,3,0,2,1],[13,4,11,12,10,3,0,2,1],[14,4,13,11,12,10,3,0,2,1],[9,15,4,8,7,5,6,3,0,2,1,14,13,11,12,10],[4,16,3,0,2,1,9,15,8,7,5,6,14,13,11,12,10]])) (.cond (.t 39) .skip (.exit 2))) (.block 3 (.reg [Za 40 (Zc 8) 0,Za 41 (ZA .add (.t 40) (Zy 1)) 0,Za 8 (Zc 41) 0] none))))) (.seq (Zh [Za 42 (Zc 8) 0,Za 43 (Zc 1) 0,Za 44 (.len 1 (.t 43)) 0,Za 45 (ZA .eql (.t 42) (.t 44)) 0] (.cond (.t 45) (Zh [Za 4 (.mv (Zy 0)) 0,Za 5 (.mv (Zy 7)) 0] .ret) .skip)) (Zh [Za 46 (Zc 1) 0,Za 47 (Zc 8) 0,Za 48 (.iaddr 2 (.t 46) (.t 47)) 0,Za 49 (.faddr 1 (.t 48)) 0,Za 50 (Yl [(.int .i64)] (.t 49)) 0,Za 9 (Zc 50) 0] (.seq (Zh [Za 51 (Zc 9) 0,Za 52 (ZA .lss (.t 51) (.c (.int .i64 (-1000000000)))) 0,Za 53 (Zc 52) 0,ZX 54 (Zc 9) 0 53,ZX 55 (ZA .gtr (.t 54) (Zy 1000000000)) 0 53,Za 56 (.pick (.t 53) (.c (.bool true)) (.t 55)) 0] (.cond (.t 56) (Zh [Za 4 (.mv (Zy 0)) 0,Za 5 (.mv (Zy 2)) 0] .ret) .skip)) (.reg [Za 57 (Zc 6) 0,Za 58 (.faddr 1 (.t 2)) 0,Za 59 (Yl [(.sl 2)] (.t 58)) 0,Za 60 (Zc 7) 0,Za 61 (.iaddr 2 (.t 59) (.t 60)) 0,Za 62 (.faddr 1 (.t 61)) 0,Za 63 (Yl [(.int .i64)] (.t 62)) 0,Za 64 (Zc 9) 0,Za 65 (ZA .mul (.t 63) (.t 64)) 0,Za 66 (ZA .add (.t 57) (.t 65)) 0,Za 6 (Zc 66) 0] none))))))) (.reg [Za 20 (Zc 7) 0,Za 21 (ZA .add (.t 20) (Zy 1)) 0,Za 7 (Zc 21) 0] none)))))) (Zh [Za 67 (Zc 6) 0,Za 4 (Zc 67) 0,Za 5 (.mv (Zy 0)) 0] .ret)))))
def XB:List IRes:=[(.tmp 4),(.tmp 5)]
abbrev b8o:Nat:=68
def Wn:ZO:=Xc [(20,.pure (preT (fun x:Lin×Unit=>YF x.1)) (Zj (fun x:Lin×Unit=>Zw x.1)))]
theorem c2e{G:PV->Prop}(l:Lin)(v:List Coef)(h:(Go.Pl.preT (fun(x:Lin×Unit)=>YF x.1) [(.agg [(.int .i64 l.k),(.sl 2 false (List.map enc l.t))])])=true∧(∃ y0:Bool,AV.pv (Zj (fun(x:Lin×Unit)=>Zw x.1) [(.agg [(.int .i64 l.k),(.sl 2 false (List.map enc l.t))])])=AV.pv (enc y0)∧(if (!y0)=true then G ((.tup [(.int .i64 0),(.int .i64 1)]))else(At Wn 0 (Zb XB G) XD 0 68 [(1,(.pv (.sl 2 false (List.map enc v)))),(2,(.ptr 0 0)),(6,(.pv (.int .i64 l.k))),(7,(.pv (.int .i64 0)))] [(.obj (.box [(.pv (.int .i64 l.k)),(.pv (.sl 2 false (List.map enc l.t)))]))])))):Ze Wn 0 (Zb XB G) XD [] (Yk 68 [enc l,enc v]):=Ze.tp (.req (.abs (Bool) (fun YY=>AV.pv (enc YY)) (.ask (.nil) (.nil)))) h (by kernel_rfl)
theorem Om{G:PV->Prop}(l:Lin)(v:List Coef)(n i:Int)(h:if (decide (i<(↑(List.length (List.map enc l.t)):Int)))=true then At Wn 0 (Zb XB G) XD 1 68 [(1,(.pv (.sl 2 false (List.map enc v)))),(2,(.ptr 0 0)),(6,(.pv (.int .i64 n))),(7,(.pv (.int .i64 i))),(8,(.pv (.int .i64 0)))] [(.obj (.box [(.pv (.int .i64 l.k)),(.pv (.sl 2 false (List.map enc l.t)))]))]else(G ((.tup [(.int .i64 n),(.int .i64 0)])))):At Wn 0 (Zb XB G) XD 0 68 [(1,.pv (enc v)),(2,.ptr 0 0),(6,.pv (.int .i64 n)),(7,.pv (.int .i64 i))] [.obj (.box [.pv (.int .i64 l.k),.pv (enc l.t)])]:=At.tp (.lit (.ask (.nil) (.nil))) h (by kernel_rfl)
theorem LW{G:PV->Prop}(l:Lin)(v:List Coef)(n i j:Int)(h:if (decide (j<(↑(List.length (List.map enc v)):Int)))=true then(decide (0<=j)&&decide (Int.toNat j<List.length (List.map enc v))&&Enc.sz Coef==2)=true∧(∃ y0:Coef,AV.pv (PV.rptr (PV.cells (List.getD (List.map enc v) (Int.toNat j) default)))=AV.pv (PV.rptr (PV.cells ((enc) y0)))∧((decide (0<=i)&&decide (Int.toNat i<List.length (List.map enc l.t))&&Enc.sz Coef==2)=true∧(∃ y1:Coef,AV.pv (PV.rptr (PV.cells (List.getD (List.map enc l.t) (Int.toNat i) default)))=AV.pv (PV.rptr (PV.cells ((enc) y1)))∧(if (!PV.asStr (List.getD (List.drop 0 (PV.cells (enc y0))) 0 default)==PV.asStr (List.getD (List.drop 0 (PV.cells (enc y1))) 0 default))=true then At Wn 0 (Zb XB G) XD 1 68 [(1,(.pv (.sl 2 false (List.map enc v)))),(2,(.ptr 0 0)),(6,(.pv (.int .i64 n))),(7,(.pv (.int .i64 i))),(8,(.pv (.int .i64 (IntKind.wrap IntKind.i64 (j+1)))))] [(.obj (.box [(.pv (.int .i64 l.k)),(.pv (.sl 2 false (List.map enc l.t)))]))]else(if (j==(↑(List.length (List.map enc v)):Int))=true then G ((.tup [(.int .i64 0),(.int .i64 7)]))else((decide (0<=j)&&decide (Int.toNat j<List.length (List.map enc v))&&Enc.sz Coef==2)=true∧(∃ y2:Coef,AV.pv (PV.rptr (PV.cells (List.getD (List.map enc v) (Int.toNat j) default)))=AV.pv (PV.rptr (PV.cells ((enc) y2)))∧(if (decide (PV.asInt (List.getD (List.drop 1 (PV.cells (enc y2))) 0 default)<(-1000000000:Int)))=true then G ((.tup [(.int .i64 0),(.int .i64 2)]))else(if (decide (PV.asInt (List.getD (List.drop 1 (PV.cells (enc y2))) 0 default)>1000000000))=true then G ((.tup [(.int .i64 0),(.int .i64 2)]))else((decide (0<=i)&&decide (Int.toNat i<List.length (List.map enc l.t))&&Enc.sz Coef==2)=true∧(∃ y3:Coef,AV.pv (PV.rptr (PV.cells (List.getD (List.map enc l.t) (Int.toNat i) default)))=AV.pv (PV.rptr (PV.cells ((enc) y3)))∧(At Wn 0 (Zb XB G) XD 0 68 [(1,(.pv (.sl 2 false (List.map enc v)))),(2,(.ptr 0 0)),(6,(.pv (.int .i64 (IntKind.wrap IntKind.i64 (n+IntKind.wrap IntKind.i64 (PV.asInt (List.getD (List.drop 1 (PV.cells (enc y3))) 0 default)*PV.asInt (List.getD (List.drop 1 (PV.cells (enc y2))) 0 default))))))),(7,(.pv (.int .i64 (IntKind.wrap IntKind.i64 (i+1)))))] [(.obj (.box [(.pv (.int .i64 l.k)),(.pv (.sl 2 false (List.map enc l.t)))]))]))))))))))))else(if (j==(↑(List.length (List.map enc v)):Int))=true then G ((.tup [(.int .i64 0),(.int .i64 7)]))else((decide (0<=j)&&decide (Int.toNat j<List.length (List.map enc v))&&Enc.sz Coef==2)=true∧(∃ y4:Coef,AV.pv (PV.rptr (PV.cells (List.getD (List.map enc v) (Int.toNat j) default)))=AV.pv (PV.rptr (PV.cells ((enc) y4)))∧(if (decide (PV.asInt (List.getD (List.drop 1 (PV.cells (enc y4))) 0 default)<(-1000000000:Int)))=true then G ((.tup [(.int .i64 0),(.int .i64 2)]))else(if (decide (PV.asInt (List.getD (List.drop 1 (PV.cells (enc y4))) 0 default)>1000000000))=true then G ((.tup [(.int .i64 0),(.int .i64 2)]))else((decide (0<=i)&&decide (Int.toNat i<List.length (List.map enc l.t))&&Enc.sz Coef==2)=true∧(∃ y5:Coef,AV.pv (PV.rptr (PV.cells (List.getD (List.map enc l.t) (Int.toNat i) default)))=AV.pv (PV.rptr (PV.cells ((enc) y5)))∧(At Wn 0 (Zb XB G) XD 0 68 [(1,(.pv (.sl 2 false (List.map enc v)))),(2,(.ptr 0 0)),(6,(.pv (.int .i64 (IntKind.wrap IntKind.i64 (n+IntKind.wrap IntKind.i64 (PV.asInt (List.getD (List.drop 1 (PV.cells (enc y5))) 0 default)*PV.asInt (List.getD (List.drop 1 (PV.cells (enc y4))) 0 default))))))),(7,(.pv (.int .i64 (IntKind.wrap IntKind.i64 (i+1)))))] [(.obj (.box [(.pv (.int .i64 l.k)),(.pv (.sl 2 false (List.map enc l.t)))]))]))))))))):At Wn 0 (Zb XB G) XD 1 68 [(1,.pv (enc v)),(2,.ptr 0 0),(6,.pv (.int .i64 n)),(7,.pv (.int .i64 i)),(8,.pv (.int .i64 j))] [.obj (.box [.pv (.int .i64 l.k),.pv (enc l.t)])]:=At.tp (.lit (.ask (.lit (.lit (.req (.abs (Coef) (fun YY=>AV.pv (PV.rptr (PV.cells ((enc) YY)))) (.lit (.lit (.lit (.lit (.lit (.lit (.lit (.req (.abs (Coef) (fun YY=>AV.pv (PV.rptr (PV.cells ((enc) YY)))) (.lit (.lit (.lit (.lit (.lit (.lit (.ask (.lit (.nil)) (.lit (.ask (.nil) (.req (.abs (Coef) (fun YY=>AV.pv (PV.rptr (PV.cells ((enc) YY)))) (.lit (.lit (.ask (.lit (.lit (.lit (.nil)))) (.lit (.lit (.lit (.ask (.nil) (.req (.abs (Coef) (fun YY=>AV.pv (PV.rptr (PV.cells ((enc) YY)))) (.lit (.lit (.lit (.lit (.nil)))))))))))))))))))))))))))))))))))))) (.lit (.lit (.lit (.lit (.lit (.lit (.lit (.lit (.lit (.lit (.lit (.lit (.lit (.lit (.ask (.nil) (.req (.abs (Coef) (fun YY=>AV.pv (PV.rptr (PV.cells ((enc) YY)))) (.lit (.lit (.ask (.lit (.lit (.lit (.nil)))) (.lit (.lit (.lit (.ask (.nil) (.req (.abs (Coef) (fun YY=>AV.pv (PV.rptr (PV.cells ((enc) YY)))) (.lit (.lit (.lit (.lit (.nil))))))))))))))))))))))))))))))))) h (by kernel_rfl)
end Go.Pl
namespace Go.Pl
open Go.RowKit
open Enc (enc dec is)
open EncL (encL decL isL)
theorem c9s(c:UInt8):digB c=(decide ((c.toNat:Int) ≥ 48)&&decide ((c.toNat:Int)<=57)):=by
 simp only[digB,UInt8.le_iff_toNat_le,ge_iff_le]
 have e1:(48:UInt8).toNat=48:=rfl
 have e2:(57:UInt8).toNat=57:=rfl
 rw[e1,e2]
 congr 1 <;> exact decide_eq_decide.2 (by omega)
theorem c7i(c:UInt8):WW c=(decide ((c.toNat:Int) ≥ 97)&&decide ((c.toNat:Int)<=122)):=by
 simp only[WW,UInt8.le_iff_toNat_le,ge_iff_le]
 have e1:(97:UInt8).toNat=97:=rfl
 have e2:(122:UInt8).toNat=122:=rfl
 rw[e1,e2]
 congr 1 <;> exact decide_eq_decide.2 (by omega)
theorem Nn{a b:Bool}{G:PV->Prop}(h:G (.bool (a&&b))):if a=true then G (.bool b)else G (.bool false):=by cases a <;> simpa using h
theorem b2e: ∀ a:UInt8×Unit,true=true->Ze a0g 0 (Zb Mj (Zi (digB a.1))) PO [] (Yk c0h (encL a)):=by
 rintro⟨c,⟨⟩⟩ -
 exact c9j c (Nn (ZL (c9s c).symm))
theorem b5e: ∀ a:UInt8×Unit,true=true->Ze a1j 0 (Zb NY (Zi (WW a.1))) PU [] (Yk c2w (encL a)):=by
 rintro⟨c,⟨⟩⟩ -
 exact c8b c (Nn (ZL (c7i c).symm))
theorem EP: ∀ a:Int×Unit,true=true->Ze BK 0 (Zb DJ (Zi (YP a.1))) JD [] (Yk a6k (encL a)):=by
 rintro⟨n,⟨⟩⟩ -
 exact b7l n (Nn (ZL rfl))
theorem c0f: ∀ a:Int×Unit,true=true->Ze b7t 0 (Zb EU (Zi (YP a.1))) a1f [] (Yk c8n (encL a)):=by
 rintro⟨n,⟨⟩⟩ -
 exact d1f n (Nn (ZL rfl))
theorem b7d(s:List UInt8)(hs:s.length<=30): ∀ (j i:Nat),j+i=s.length->At Vg 0 (Zb X3 (Zi ((s.drop i).all digB))) X7 0 62 [(0,.pv (.str s)),(3,.pv (.int .i64 i))] []:=by
 intro j
 induction j with
 | zero=>
  intro i hi
  refine Oa s i ?_
  rw[if_neg (Yd (by omega))]
  exact ZL (by rw[List.drop_of_length_le (by omega)];rfl)
 | succ j ih=>
  intro i hi
  have hlt:i<s.length:=by omega
  refine Oa s i ?_
  rw[if_pos (Z8 hlt)]
  have eg:List.getD s (Int.toNat (i:Int)) 0=s[i]:=by simp[List.getD,hlt]
  rw[eg,next (by omega)]
  refine⟨by simp[hlt],Zl (s[i],()) rfl rfl,Zk (s[i],()) rfl ?_⟩
  rw[List.drop_eq_getElem_cons hlt,List.all_cons]
  show if (!digB s[i])=true then _ else _
  cases hd:digB s[i]
  ·exact ZL rfl
  ·rw[if_neg (by simp)]
   simpa using ih (i+1) (by omega)
theorem b7j(s:List UInt8)(hs:s.length<=30): ∀ (j i:Nat),j+i=s.length->0<i->At Vg 0 (Zb X3 (Zi ((s.drop i).all fun c=>WW c||digB c))) X7 1 62 [(0,.pv (.str s)),(4,.pv (.int .i64 i))] []:=by
 intro j
 induction j with
 | zero=>
  intro i hi _
  refine Tj s i ?_
  rw[if_neg (Yd (by omega))]
  exact ZL (by rw[List.drop_of_length_le (by omega)];rfl)
 | succ j ih=>
  intro i hi h0
  have hlt:i<s.length:=by omega
  refine Tj s i ?_
  rw[if_pos (Z8 hlt)]
  have eg:List.getD s (Int.toNat (i:Int)) 0=s[i]:=by simp[List.getD,hlt]
  rw[eg,next (by omega)]
  refine⟨by simp[hlt],Zl (s[i],()) rfl rfl,Zk (s[i],()) rfl ?_⟩
  rw[List.drop_eq_getElem_cons hlt,List.all_cons]
  show if (!WW s[i])=true then _ else _
  cases hd:WW s[i]
  ·rw[c5f,if_neg (by simp;omega)]
   refine⟨by simp[hlt],Zl (s[i],()) rfl rfl,Zk (s[i],()) rfl ?_⟩
   show if (!digB s[i])=true then _ else _
   cases hd:digB s[i]
   ·exact ZL rfl
   ·rw[if_neg (by simp)]
    simpa using ih (i+1) (by omega) (by omega)
  ·rw[if_neg (by simp)]
   simpa using ih (i+1) (by omega) (by omega)
theorem a8t: ∀ a:Str×Unit,true=true->Ze Vg 0 (Zb X3 (Zi (ZG a.1))) X7 [] (Yk b4t (encL a)):=by
 rintro⟨⟨s⟩,⟨⟩⟩ -
 refine c4q s ?_
 cases s with
 | nil=>exact ZL rfl
 | cons c r=>
  rw[if_neg (by simp;omega)]
  by_cases h30:((c::r).length:Int)>30
  ·rw[if_pos (by simpa using h30)]
   refine ZL ?_
   have : ¬ r.length<=29:=by simp at h30;omega
   have h9 : ¬ r.length<=9:=by omega
   simp[ZG,this,h9]
  ·rw[if_neg (by simpa using h30)]
   have hl:(c::r).length<=30:=by omega
   refine⟨by simp,?_⟩
   show if ((c.toNat:Int)==95)=true then _ else _
   by_cases hc:c=95
   ·subst hc
    rw[if_pos (by rfl)]
    simp only[ZG,if_true]
    cases r with
    | nil=>exact ZL rfl
    | cons d r=>
     rw[if_neg (by simp;omega)]
     by_cases h10:((95::d::r:List UInt8).length:Int)>10
     ·rw[if_pos (by simpa using h10)]
      refine ZL ?_
      have:decide ((d::r).length<=9)=false:=decide_eq_false (by simp at h10 ⊢;omega)
      rw[this,Bool.and_false]
     ·rw[if_neg (by simpa using h10)]
      refine⟨by simp,?_⟩
      show if ((d.toNat:Int)==48)=true then _ else _
      by_cases hd:d=48
      ·subst hd
       rw[if_pos (by rfl)]
       exact ZL (by simp)
      ·rw[if_neg (by exact c5n 48 hd (by omega))]
       have h:=b7d (95::d::r) hl (d::r).length 1 (by simp)
       have e:(d::r).length<=9:=by simp at h10 ⊢;omega
       have e2:((d::r).all digB&& !(d::r).isEmpty&&decide ((d::r).head? ≠ some 48)&&decide ((d::r).length<=9))=(d::r).all digB:=by rw[decide_eq_true e,show decide ((d::r).head? ≠ some (48:UInt8))=true by simpa using hd];simp
       rw[e2]
       exact h
   ·rw[if_neg (by exact c5n 95 hc (by omega))]
    refine Tj (c::r) 0 ?_
    rw[if_pos (by simp)]
    refine⟨by simp,Zl (c,()) rfl rfl,Zk (c,()) rfl ?_⟩
    show if (!WW c)=true then _ else _
    have en:ZG ⟨c::r⟩=(WW c&&r.all (fun c=>WW c||digB c)):=by
     have:r.length<=29:=by simp at hl;omega
     simp[ZG,hc,this]
    rw[en]
    cases hlow:WW c
    ·rw[c5f,if_pos (by rfl)]
     exact ZL rfl
    ·rw[if_neg (by simp)]
     exact b7j (c::r) hl r.length 1 (by simp) (by omega)
def Ab(prev:Option (List UInt8)):List Coef->Bool
 | []=>true
 | t::r=>ZG t.v&&decide (t.c≠0)&&YP t.c&&(match prev with|none=>true|some p=>decide (p<t.v.s))&&Ab (some t.v.s) r
theorem GH(p:Option (List UInt8))(t:Coef)(r:List Coef):Ab p (t::r)=(ZG t.v&&decide (t.c≠0)&&YP t.c&&(match p with|none=>true|some p=>decide (p<t.v.s))&&Ab (some t.v.s) r):=by cases p <;> rfl
theorem FO: ∀ (l:List Coef) (p:List UInt8),Ab (some p) l=(l.all (fun t=>ZG t.v&&decide (t.c≠0)&&YP t.c)&&(match l with|[]=>true|t::_=>decide (p<t.v.s))&&Tq l)
 | [],p=>by simp[Ab,Tq]
 | t::r,p=>by
  rw[GH,FO r]
  cases r with
  | nil=>simp[Tq]
  | cons u r=>
   simp only[List.all_cons,Tq]
   ac_rfl
theorem b0f(l:List Coef):Ab none l=(l.all (fun t=>ZG t.v&&decide (t.c≠0)&&YP t.c)&&Tq l):=by
 cases l with
 | nil=>simp[Ab,Tq]
 | cons t r=>
  rw[GH,FO r]
  cases r with
  | nil=>simp[Tq]
  | cons u r=>
   simp only[List.all_cons,Tq,Bool.and_true]
   ac_rfl
theorem Oy(l:Lin):Zw l=(YP l.k&&decide (l.t.length<=12)&&Ab none l.t):=by
 rw[b0f,Zw]
 ac_rfl
def pvS(ts:List Coef):Nat->Option (List UInt8)
 | 0=>none
 | i+1=>(ts[i]?).map (·.v.s)
theorem a4o{k:Nat}(h:k<9223372036854775807):IntKind.i64.wrap (((k+1:Nat):Int) - 1)=(k:Int):=by rw[UI (by omega) (by omega)];omega
theorem Mw(l:Lin)(hl:l.t.length<=9223372036854775807): ∀ (j i:Nat),j+i=l.t.length->At Vy 0 (Zb WI (Zi (Ab (pvS l.t i) (l.t.drop i)))) WE 0 58 [(1,.ptr 0 0),(3,.pv (.int .i64 i))] [.obj (.box [.pv (.int .i64 l.k),.pv (enc l.t)])]:=by
 intro j
 induction j with
 | zero=>
  intro i hi
  refine Pb l i ?_
  rw[if_neg (Xq (by omega))]
  exact ZL (by rw[List.drop_of_length_le (by omega)];rfl)
 | succ j ih=>
  intro i hi
  have hlt:i<l.t.length:=by omega
  have h:=ih (i+1) (by omega)
  refine Pb l i ?_
  simp only[co1,co2,co3,co4]
  refine ZN (Y3 hlt) ⟨Zu hlt rfl,ZB hlt (Zk (l.t[i].v,()) rfl (XU (fun hn=> ?_) fun hn=>Kb (fun hc=> ?_) fun hc=>Zk (l.t[i].c,()) rfl (XU (fun hk=> ?_) fun hk=> ?_)))⟩
  all_goals rw[List.drop_eq_getElem_cons hlt,GH]
  ·have hn:ZG l.t[i].v=false:=hn
   exact ZL (by simp[hn])
  ·exact ZL (by simp[hc])
  ·have hk:YP l.t[i].c=false:=hk
   exact ZL (by simp[hk])
  have hn:ZG l.t[i].v=true:=hn
  have hk:YP l.t[i].c=true:=hk
  rw[next (by omega),hn,hk,decide_eq_true hc]
  have ep:pvS l.t (i+1)=some l.t[i].v.s:=by simp[pvS,hlt]
  rw[ep]at h
  cases i with
  | zero=>exact ZR (by simp) h
  | succ i=>
   refine ZN (by simp) ?_
   rw[a4o (by omega)]
   refine⟨Zu (by omega) rfl,ZB (by omega) ?_⟩
   have e2:pvS l.t (i+1)=some l.t[i].v.s:=by simp[pvS,show i<l.t.length by omega]
   rw[e2]
   refine XU (fun hb=> ?_) fun hb=> ?_
   all_goals
    have hb':=(Yr l.t[i].v.s l.t[i+1].v.s).symm.trans hb
    simp only[hb',Bool.and_true,Bool.true_and,Bool.and_false,Bool.false_and]
   ·exact ZL rfl
   ·exact h
theorem EN: ∀ a:Lin×Unit,YF a.1=true->Ze Vy 0 (Zb WI (Zi (Zw a.1))) WE [] (Yk a9t (encL a)):=by
 rintro⟨l,⟨⟩⟩ hl
 have hl:l.t.length<=9223372036854775807:=by simpa [YF]using hl
 refine b6g l (Zk (l.k,()) rfl ?_)
 show if (!YP l.k)=true then _ else _
 show if (!YP l.k)=true then Zi (Zw l) _ else if _ then Zi (Zw l) _ else At Vy 0 (Zb WI (Zi (Zw l))) WE 0 58 _ _
 rw[Oy]
 cases hk:YP l.k
 ·exact ZL rfl
 rw[d0q]
 by_cases h12:l.t.length<=12
 ·rw[if_neg (by simp;omega)]
  have h:=Mw l hl l.t.length 0 (by omega)
  simp only[h12,decide_true,Bool.true_and]
  exact h
 ·rw[if_pos (by simp;omega)]
  exact ZL (by simp[h12])
theorem a5y(l:Lin)(n:Int)(hl:l.t.length<=9223372036854775807): ∀ (j i:Nat),j+i=l.t.length->At H5 0 (Zb KH (Zi ((l.t.drop i).all (fun t=>decide (t.v.s.length<=40))&&decide ((l.t.length:Int)<=n)))) Ky 0 26 [(1,.pv (.int .i64 n)),(2,.ptr 0 0),(5,.pv (.int .i64 i))] [.obj (.box [.pv (.int .i64 l.k),.pv (enc l.t)])]:=by
 intro j
 induction j with
 | zero=>
  intro i hi
  exact a3i l n i (ZR (Xq (by omega)) (ZL (by rw[List.drop_of_length_le (by omega),List.length_map];rfl)))
 | succ j ih=>
  intro i hi
  have hlt:i<l.t.length:=by omega
  have h:=ih (i+1) (by omega)
  refine a3i l n i (ZN (Y3 hlt) ⟨Zu hlt rfl,ZB hlt ?_⟩)
  rw[List.drop_eq_getElem_cons hlt,List.all_cons,next (by omega)]
  refine XQ (fun h40=> ?_) fun h40=> ?_
  ·have h40:(l.t[i].v.s.length:Int)>40:=h40
   exact ZL (by rw[decide_eq_false (show ¬ l.t[i].v.s.length<=40 by omega)];rfl)
  ·have h40 : ¬ (l.t[i].v.s.length:Int)>40:=h40
   rw[decide_eq_true (show l.t[i].v.s.length<=40 by omega),Bool.true_and]
   exact h
theorem b4k: ∀ a:Lin×Int×Unit,YF a.1=true->Ze H5 0 (Zb KH (Zi (GK a.1 a.2.1))) Ky [] (Yk c2i (encL a)):=by
 rintro⟨l,n,⟨⟩⟩ hl
 exact c8a l n (a5y l n (by simpa [YF]using hl) l.t.length 0 (by omega))
theorem Ep(l:List Fact)(n:Int)(hl:l.length<=9223372036854775807)(hk:l.all (fun f=>YF f.l)=true): ∀ (j i:Nat),j+i=l.length->At KF 0 (Zb U3 (Zi ((l.drop i).all (fun f=>GK f.l 8)&&decide ((l.length:Int)<=n)))) Qp 0 23 [(0,.pv (enc l)),(1,.pv (.int .i64 n)),(5,.pv (.int .i64 i))] []:=by
 intro j
 induction j with
 | zero=>
  intro i hi
  exact FX l n i (ZR (Xq (by omega)) (ZL (by rw[List.drop_of_length_le (by omega),List.length_map];rfl)))
 | succ j ih=>
  intro i hi
  have hlt:i<l.length:=by omega
  have h:=ih (i+1) (by omega)
  have ho:YF l[i].l=true:=by rw[List.all_eq_true]at hk;exact hk _ (List.getElem_mem hlt)
  refine FX l n i (ZN (Y3 hlt) ⟨Zu hlt rfl,ZB hlt ⟨Zl (l[i].l,8,()) rfl ho,Zk (l[i].l,8,()) rfl ?_⟩⟩)
  rw[List.drop_eq_getElem_cons hlt,List.all_cons,next (by omega)]
  refine XU (fun hf=> ?_) fun hf=> ?_
  ·have hf:GK l[i].l 8=false:=hf
   exact ZL (by rw[hf];rfl)
  ·have hf:GK l[i].l 8=true:=hf
   rw[hf,Bool.true_and]
   exact h
def CK(l:List Fact)(n:Int):Bool:=l.all (fun f=>GK f.l 8)&&decide ((l.length:Int)<=n)
def YJ(l:List Fact):Bool:=decide (l.length<=9223372036854775807)&&l.all fun f=>YF f.l
theorem a9e: ∀ a:List Fact×Int×Unit,YJ a.1=true->Ze KF 0 (Zb U3 (Zi (CK a.1 a.2.1))) Qp [] (Yk b7w (encL a)):=by
 rintro⟨l,n,⟨⟩⟩ hl
 simp only[YJ,Bool.and_eq_true,decide_eq_true_eq]at hl
 exact c0p l n (Ep l n hl.1 hl.2 l.length 0 (by omega))
theorem a1e(l:List Fact)(hl:Zf l=true): ∀ (j i:Nat),j+i=l.length->At Kl 0 (Zb Ql (Zi (YC (l.drop i)))) U7 0 17 [(0,.pv (enc l)),(3,.pv (.int .i64 i))] []:=by
 intro j
 induction j with
 | zero=>
  intro i hi
  exact LQ l i (ZR (Xq (by omega)) (ZL (by rw[List.drop_of_length_le (by omega)];rfl)))
 | succ j ih=>
  intro i hi
  have hl':=hl
  simp only[Zf,Bool.and_eq_true,decide_eq_true_eq,List.all_eq_true]at hl'
  have hlt:i<l.length:=by omega
  have h:=ih (i+1) (by omega)
  have ho:YF l[i].l=true:=by
   have:=hl'.2 _ (List.getElem_mem hlt)
   simp only[Yz,Bool.and_eq_true]at this
   exact this.1
  refine LQ l i (ZN (Y3 hlt) ⟨Zu hlt rfl,ZB hlt ⟨Zl (l[i].l,()) rfl ho,Zk (l[i].l,()) rfl ?_⟩⟩)
  rw[List.drop_eq_getElem_cons hlt,YC,List.all_cons,next (by omega)]
  refine XU (fun hf=> ?_) fun hf=> ?_
  ·have hf:Zw l[i].l=false:=hf
   exact ZL (by rw[hf];rfl)
  ·have hf:Zw l[i].l=true:=hf
   rw[hf,Bool.true_and]
   exact h
theorem a6x: ∀ a:List Fact×Unit,Zf a.1=true->Ze Kl 0 (Zb Ql (Zi (YC a.1))) U7 [] (Yk b1m (encL a)):=by
 rintro⟨l,⟨⟩⟩ h
 exact b9x l (a1e l h l.length 0 rfl)
theorem b9l(l:Lin)(v:List Coef)(hv:v.length<=9223372036854775807)(hl:l.t.length<=9223372036854775807)(i:Nat)(hi:i<l.t.length)(n:Int)
  (hK : ∀ n,At Wn 0 (Zb XB (Zi (KZ v n (l.t.drop (i+1))))) XD 0 68 [(1,.pv (enc v)),(2,.ptr 0 0),(6,.pv (.int .i64 n)),(7,.pv (.int .i64 ((i+1:Nat):Int)))] [.obj (.box [.pv (.int .i64 l.k),.pv (enc l.t)])]) :
  ∀ (m j:Nat),m+j=v.length->QA (v.drop j) l.t[i].v=QA v l.t[i].v ->
  At Wn 0 (Zb XB (Zi (KZ v n (l.t.drop i)))) XD 1 68 [(1,.pv (enc v)),(2,.ptr 0 0),(6,.pv (.int .i64 n)),(7,.pv (.int .i64 i)),(8,.pv (.int .i64 j))] [.obj (.box [.pv (.int .i64 l.k),.pv (enc l.t)])]:=by
 have ed:l.t.drop i=l.t[i]::l.t.drop (i+1):=List.drop_eq_getElem_cons hi
 intro m
 induction m with
 | zero=>
  intro j hj hlook
  refine LW l v n i j (ZR (Xq (by omega)) (ZN (by simp;omega) ?_))
  rw[List.drop_of_length_le (by omega)]at hlook
  rw[ed,KZ,<- hlook]
  exact⟨rfl,rfl⟩
 | succ m ih=>
  intro j hj hlook
  have hlt:j<v.length:=by omega
  refine LW l v n i j (ZN (Y3 hlt) ⟨Zu hlt rfl,ZB hlt ⟨Zu hi rfl,ZB hi ?_⟩⟩)
  refine XU (fun h1=> ?_) fun h1=> ?_
  ·have h1:(v[j].v.s==l.t[i].v.s)=false:=h1
   have hne : ¬ v[j].v=l.t[i].v:=by intro e;rw[e]at h1;simp at h1
   rw[next (by omega)]
   refine ih (j+1) (by omega) ?_
   rw[<- hlook,List.drop_eq_getElem_cons hlt]
   rw[QA,QA,List.find?_cons_of_neg (by simpa using hne)]
  ·have h1:(v[j].v.s==l.t[i].v.s)=true:=h1
   have heq:v[j].v=l.t[i].v:=by
    have h1:v[j].v.s=l.t[i].v.s:=by simpa using h1
    generalize v[j].v=a at h1 ⊢
    generalize l.t[i].v=b at h1 ⊢
    cases a;cases b;cases h1;rfl
   have hlk:QA v l.t[i].v=some v[j].c:=by rw[<- hlook,List.drop_eq_getElem_cons hlt,QA,List.find?_cons_of_pos (by simpa using heq)];rfl
   refine Kb (fun h2=>by simp only[List.length_map]at h2;omega) fun _=>⟨Zu hlt rfl,ZB hlt ?_⟩
   rw[ed,KZ,hlk]
   refine XQ (fun h3=> ?_) fun h3=> ?_
   ·have h3:v[j].c < -1000000000:=h3
    simp only[if_pos h3]
    exact⟨rfl,rfl⟩
   have h3 : ¬ v[j].c < -1000000000:=h3
   refine XQ (fun h4=> ?_) fun h4=> ?_
   ·have h4:v[j].c>1000000000:=h4
    simp only[if_neg h3,if_pos h4]
    exact⟨rfl,rfl⟩
   have h4 : ¬ v[j].c>1000000000:=h4
   refine⟨Zu hi rfl,ZB hi ?_⟩
   rw[next (by omega)]
   simp only[if_neg h3,if_neg h4]
   exact hK _
theorem a0s(l:Lin)(v:List Coef)(hv:v.length<=9223372036854775807)(hl:l.t.length<=9223372036854775807): ∀ (m i:Nat) (n:Int),m+i=l.t.length ->
  At Wn 0 (Zb XB (Zi (KZ v n (l.t.drop i)))) XD 0 68 [(1,.pv (enc v)),(2,.ptr 0 0),(6,.pv (.int .i64 n)),(7,.pv (.int .i64 i))] [.obj (.box [.pv (.int .i64 l.k),.pv (enc l.t)])]:=by
 intro m
 induction m with
 | zero=>
  intro i n hi
  refine Om l v n i (ZR (Xq (by omega)) ?_)
  rw[List.drop_of_length_le (by omega)]
  exact⟨rfl,rfl⟩
 | succ m ih=>
  intro i n hi
  have hlt:i<l.t.length:=by omega
  exact Om l v n i (ZN (Y3 hlt) (b9l l v hv hl i hlt n (fun n=>ih (i+1) n (by omega)) v.length 0 (by omega) rfl))
theorem a8w: ∀ a:Lin×List Coef×Unit,(YF a.1&&decide (a.2.1.length<=9223372036854775807))=true->Ze Wn 0 (Zb XB (Zi (Yy a.1 a.2.1))) XD [] (Yk b8o (encL a)):=by
 rintro⟨l,v,⟨⟩⟩ h
 simp only[Bool.and_eq_true,decide_eq_true_eq]at h
 refine c2e l v ⟨Zl (l,()) rfl h.1,Zk (l,()) rfl ?_⟩
 show if (!Zw l)=true then Zi (Yy l v) _ else At Wn 0 (Zb XB (Zi (Yy l v))) XD 0 68 _ _
 unfold Yy
 refine XU (fun hv=> ?_) fun hv=> ?_
 ·rw[if_neg (by rw[hv];simp)]
  exact⟨rfl,rfl⟩
 ·rw[if_pos hv]
  exact a0s l v h.2 (by simpa [YF]using h.1) l.t.length 0 l.k (by omega)
theorem b4l(ts:List Coef)(j:Nat)(x y:Coef):List.set (List.map enc ts) j (PV.withCells (enc y) (splice (PV.cells (enc y)) 0 (PV.cells (PV.agg (VT (PV.cells (enc x)) 0 [Sh.str,Sh.int .i64])))))=List.map enc (ts.set j x):=by
 rw[List.map_set]
 rfl
theorem Ni{α:Type}(f:α->PV){l:List α}{k:Nat}(h:k<l.length):(l.map f).getD (0+(k:Int).toNat) default=f l[k]:=by rw[Nat.zero_add];exact Jk f h
theorem tri{x y:List UInt8}(h1 : ¬ x<y)(h2:x≠y):y<x:=Decidable.byContradiction fun h=>h2 (List.le_antisymm (List.not_lt.1 h) (List.not_lt.1 h1))
theorem a2n(s:Str)(c:Int)(t:Coef)(r:List Coef):X9 s c true (t::r)=(if t.v=s then⟨t.v,Db (t.c+c)⟩else t)::X9 s c true r:=by
 rw[X9];simp only[Bool.not_true,Bool.false_and,Bool.false_eq_true,if_false,Bool.true_or,List.nil_append];split <;> rfl
theorem JV(s:Str)(c:Int)(t:Coef)(r:List Coef):X9 s c false (t::r)=if s.s<t.v.s then⟨s,c⟩::t::X9 s c true r else if t.v=s then⟨t.v,Db (t.c+c)⟩::X9 s c true r else t::X9 s c false r:=by
 rw[X9]
 by_cases h:s.s<t.v.s
 ·have : ¬ t.v=s:=fun e=>by rw[e]at h;exact List.lt_irrefl _ h
  simp[h,this]
 ·simp[h]
theorem Ri(s:Str)(c:Int): ∀ (l:List Coef),(X9 s c true l).length=l.length
 | []=>by simp[X9]
 | t::l=>by rw[a2n];simp[Ri s c l]
theorem Rp(s:Str)(c:Int): ∀ (l:List Coef),(X9 s c false l).length<=l.length+1
 | []=>by simp[X9]
 | t::l=>by
  have h1:=Ri s c l
  have h2:=Rp s c l
  rw[JV]
  split
  ·simp[h1]
  ·split <;> simp[h1] <;> omega
theorem AL(l:Lin)(s:Str)(c:Int):(VD l s c).t.length<=l.t.length+1:=Nat.le_trans (List.length_filter_le _ _) (Rp s c l.t)
theorem GI{a b:Str}:a=b ↔ a.s=b.s:=⟨fun h=>by rw[h],fun h=>by cases a;cases b;cases h;rfl⟩
theorem c2m: ∀ a:Int×Unit,true=true->Ze b0p 0 (Zb a0i (Zi (⟨a.1,[]⟩:Lin))) EX [] (Yk c7o (encL a)):=by
 rintro⟨n,⟨⟩⟩ -
 exact d1p n ⟨by simp,by simp⟩
end Go.Pl
namespace Go.Pl
open Go.RowKit
open Enc (enc dec is)
open EncL (encL decL isL)
set_option maxRecDepth 100000
end Go.Pl
namespace Go.Pl
open Go.RowKit
open Enc (enc dec is)
open EncL (encL decL isL)
end Go.Pl
namespace Go.Pl
open Go.RowKit
open Enc (enc dec is)
open EncL (encL decL isL)
set_option maxRecDepth 100000
def XO:IC:=(Zh [Za 2 (Xo false) 0] (.seq (Zh [Za 7 (Zc 0) 0,Za 8 (YT 152 [(.t 7),(.c (.str [95]))]) 0] (.cond (.t 8) (Zh [Za 10 (Zc 0) 0,Za 11 (.strslc (.t 10) (some (Zy 1)) none) 0,Za 12 (YT 182 [(.t 11)]) 0,Za 9 (Zc 12) 2,Za 13 (.extract (.t 9) 0) 2,Za 14 (.extract (.t 9) 1) 2,Za 3 (Zc 13) 2,Za 4 (Zc 14) 2] (.seq (.reg [Za 15 (Zc 4) 0,Za 16 (.bin .ifc .eql (.t 15) (.c .nili)) 0,Za 17 (Zc 16) 0,Z6 18 (Zc 3) 0 17,Z6 19 (ZA .gtr (.t 18) (Zy 0)) 0 17,Za 20 (.pick (.t 17) (.t 19) (.c (.bool false))) 0,Za 21 (Zc 20) 0,Z6 22 (Zc 0) 0 21,Z6 23 (.len 0 (.t 22)) 0 21,Z6 24 (ZA .leq (.t 23) (Zy 10)) 0 21,Za 25 (.pick (.t 21) (.t 24) (.c (.bool false))) 0,Za 26 (Zc 25) 0,Z6 27 (Zc 3) 0 26,Z6 28 (YT 76 [(.t 27)]) 0 26,Z6 29 (Zc 0) 2 26,Z6 30 (.strslc (.t 29) (some (Zy 1)) none) 2 26,Z6 31 (ZA .eql (.t 28) (.t 30)) 2 26,Za 32 (.pick (.t 26) (.t 31) (.c (.bool false))) 2,Za 2 (Zc 32) 2] (some [[],[0],[1,0],[2,1,0],[3,2,1,0],[2,4,1,0,3],[5,2,4,1,0,3],[6,5,2,4,1,0,3],[7,6,5,2,4,1,0,3],[8,6,7,5,2,4,1,0,3],[6,9,5,2,4,1,0,3,8,7],[10,6,9,5,2,4,1,0,3,8,7],[11,10,6,9,5,2,4,1,0,3,8,7],[12,11,10,6,9,5,2,4,1,0,3,8,7],[11,10,6,9,5,2,4,1,0,3,8,7],[14,11,10,6,9,5,2,4,1,0,3,8,7],[13,15,11,12,10,6,9,5,2,4,1,0,3,8,7,14],[11,16,10,6,9,5,2,4,1,0,3,8,7,13,15,12,14],[17,13,0,1,2,3,4,5,6,7,8,9,10,11,12,14,15,16]])) .ret)) .skip)) (.seq (Zh [Za 33 (Zc 0) 0,Za 34 (.sbytes (.t 33)) 0,Za 35 (.len 1 (.t 34)) 0,Za 36 (.mv (Zy 0)) 0] (.block 0 (.loop [36,35,34,0] (Zh [Za 37 (ZA .lss (.t 36) (.t 35)) 0] (.seq (.cond (.t 37) .skip (.exit 0)) (.seq (.block 1 (Zh [Za 38 (Zc 36) 0,Za 39 (.iaddr 1 (.t 34) (.t 36)) 0,Za 40 (Yl [(.int .u8)] (.t 39)) 0,Za 5 (Zc 38) 0,Za 6 (Zc 40) 0] (Zh [Za 41 (Zc 6) 0,Za 42 (ZA .lss (.t 41) (.c (.int .u8 97))) 0,Za 43 (Zc 42) 0,ZX 44 (Zc 6) 0 43,ZX 45 (ZA .gtr (.t 44) (.c (.int .u8 122))) 0 43,Za 46 (.pick (.t 43) (.c (.bool true)) (.t 45)) 0,Za 47 (Zc 46) 0,Z6 48 (Zc 5) 0 47,Z6 49 (ZA .eql (.t 48) (Zy 0)) 0 47,Z6 50 (Zc 49) 0 47,ZX 51 (Zc 6) 0 50,ZX 52 (ZA .lss (.t 51) (.c (.int .u8 48))) 0 50,Z6 53 (.pick (.t 50) (.c (.bool true)) (.t 52)) 0 47,Z6 54 (Zc 53) 0 47,ZX 55 (Zc 6) 0 54,ZX 56 (ZA .gtr (.t 55) (.c (.int .u8 57))) 0 54,Z6 57 (.pick (.t 54) (.c (.bool true)) (.t 56)) 0 47,Za 58 (.pick (.t 47) (.t 57) (.c (.bool false))) 0] (.cond (.t 58) (Zh [Za 2 (Xo false) 0] .ret) .skip)))) (.reg [Za 59 (ZA .add (.t 36) (Zy 1)) 0,Za 36 (Zc 59) 0] none))))))) (Zh [Za 60 (Zc 0) 0,Za 61 (ZA .neq (.t 60) (.c (.str []))) 0,Za 62 (Zc 61) 0,Z6 63 (Zc 0) 0 62,Z6 64 (.len 0 (.t 63)) 0 62,Z6 65 (ZA .leq (.t 64) (Zy 30)) 0 62,Za 66 (.pick (.t 62) (.t 65) (.c (.bool false))) 0,Za 2 (Zc 66) 0] .ret))))
def X8:List IRes:=[(.tmp 2)]
abbrev b6c:Nat:=67
def Ve:ZO:=Xc [(152,.pure (preT (fun _:Str×Str×Unit=>true)) (Zj (fun x:Str×Str×Unit=>x.2.1.s.isPrefixOf x.1.s))),(182,.pure (preT (fun x:Str×Unit=>decide (x.1.s.length<=1000000))) (Zj (fun x:Str×Unit=>YD x.1))),(76,.pure (preT (fun x:Int×Unit=>decide (-9223372036854775808<=x.1)&&decide (x.1<=9223372036854775807))) (Zj (fun x:Int×Unit=>MG x.1)))]
theorem c4v{G:PV->Prop}(s:List UInt8)(h : ∃ y0:Bool,AV.pv (Zj (fun(x:Str×Str×Unit)=>List.isPrefixOf (Str.s x.2.1) (Str.s x.1)) [(.str s),(.str [(95:UInt8)])])=AV.pv (enc y0)∧(if (y0)=true then(decide (0<=1)&&true&&decide (Int.toNat 1<=List.length s)&&decide (List.length s<=List.length s))=true∧((Go.Pl.preT (fun(x:Str×Unit)=>decide (List.length (Str.s x.1)<=1000000)) [(.str (List.drop (Int.toNat 1) (List.take (List.length s) s)))])=true∧(∃ y1:Int×Er,AV.pv (Zj (fun(x:Str×Unit)=>YD x.1) [(.str (List.drop (Int.toNat 1) (List.take (List.length s) s)))])=AV.pv (enc y1)∧((Ar (enc y1.2)&&Prod.fst (true,PV.bool (U2 (enc y1.2))))=true∧(if (U2 (enc y1.2))=true then if (decide (y1.1>0))=true then if (decide ((↑(List.length s):Int)<=10))=true then(Go.Pl.preT (fun(x:Int×Unit)=>decide ((-9223372036854775808:Int)<=x.1)&&decide (x.1<=9223372036854775807)) [(.int .i64 y1.1)])=true∧(∃ y2:Str,AV.pv (Zj (fun(x:Int×Unit)=>MG x.1) [(.int .i64 y1.1)])=AV.pv (enc y2)∧((decide (0<=1)&&true&&decide (Int.toNat 1<=List.length s)&&decide (List.length s<=List.length s))=true∧(G ((.bool (Str.s y2==List.drop (Int.toNat 1) (List.take (List.length s) s)))))))else(G ((.bool false)))else(G ((.bool false)))else(G ((.bool false)))))))else(At Ve 0 (Zb X8 G) XO 0 67 [(0,(.pv (.str s))),(34,(.pv (.sl 1 false (ZE s)))),(35,(.pv (.int .i64 (↑(List.length (ZE s)):Int)))),(36,(.pv (.int .i64 0)))] []))):Ze Ve 0 (Zb X8 G) XO [] (Yk 67 [.str s]):=Ze.tp (.lit (.abs (Bool) (fun YY=>AV.pv (enc YY)) (.ask (.req (.req (.abs (Int×Er) (fun YY=>AV.pv (enc YY)) (.req (.ask (.lit (.lit (.lit (.ask (.lit (.lit (.lit (.lit (.ask (.lit (.req (.abs (Str) (fun YY=>AV.pv (enc YY)) (.lit (.lit (.req (.lit (.lit (.lit (.nil)))))))))) (.lit (.lit (.lit (.lit (.lit (.nil))))))))))) (.lit (.lit (.lit (.lit (.lit (.lit (.lit (.lit (.lit (.nil)))))))))))))) (.lit (.lit (.lit (.lit (.lit (.lit (.lit (.lit (.lit (.lit (.lit (.lit (.nil)))))))))))))))))) (.nil)))) h (by kernel_rfl)
theorem OE{G:PV->Prop}(s:List UInt8)(i:Int)(h:if (decide (i<(↑(List.length (ZE s)):Int)))=true then(decide (0<=i)&&decide (Int.toNat i<List.length (ZE s))&&1==1)=true∧((decide (0+List.length [Sh.int IntKind.u8]<=List.length (PV.cells (List.getD (ZE s) (Int.toNat i) default)))&&Yx (PV.cells (List.getD (ZE s) (Int.toNat i) default)) 0 [Sh.int IntKind.u8])=true∧(if (decide (PV.asInt (List.getD (PV.cells (List.getD (ZE s) (Int.toNat i) default)) 0 default)<97))=true then if (i==0)=true then G ((.bool false))else(if (decide (PV.asInt (List.getD (PV.cells (List.getD (ZE s) (Int.toNat i) default)) 0 default)<48))=true then G ((.bool false))else(if (decide (PV.asInt (List.getD (PV.cells (List.getD (ZE s) (Int.toNat i) default)) 0 default)>57))=true then G ((.bool false))else(At Ve 0 (Zb X8 G) XO 0 67 [(0,(.pv (.str s))),(34,(.pv (.sl 1 false (ZE s)))),(35,(.pv (.int .i64 (↑(List.length (ZE s)):Int)))),(36,(.pv (.int .i64 (IntKind.wrap IntKind.i64 (i+1)))))] [])))else(if (decide (PV.asInt (List.getD (PV.cells (List.getD (ZE s) (Int.toNat i) default)) 0 default)>122))=true then if (i==0)=true then G ((.bool false))else(if (decide (PV.asInt (List.getD (PV.cells (List.getD (ZE s) (Int.toNat i) default)) 0 default)<48))=true then G ((.bool false))else(if (decide (PV.asInt (List.getD (PV.cells (List.getD (ZE s) (Int.toNat i) default)) 0 default)>57))=true then G ((.bool false))else(At Ve 0 (Zb X8 G) XO 0 67 [(0,(.pv (.str s))),(34,(.pv (.sl 1 false (ZE s)))),(35,(.pv (.int .i64 (↑(List.length (ZE s)):Int)))),(36,(.pv (.int .i64 (IntKind.wrap IntKind.i64 (i+1)))))] [])))else(At Ve 0 (Zb X8 G) XO 0 67 [(0,(.pv (.str s))),(34,(.pv (.sl 1 false (ZE s)))),(35,(.pv (.int .i64 (↑(List.length (ZE s)):Int)))),(36,(.pv (.int .i64 (IntKind.wrap IntKind.i64 (i+1)))))] []))))else(if (!s==[])=true then G ((.bool (decide ((↑(List.length s):Int)<=30))))else(G ((.bool false))))):At Ve 0 (Zb X8 G) XO 0 67 [(0,.pv (.str s)),(34,.pv (.sl 1 false (ZE s))),(35,.pv (.int .i64 (ZE s).length)),(36,.pv (.int .i64 i))] []:=At.tp (.lit (.ask (.req (.keep (.req (.lit (.ask (.lit (.lit (.lit (.lit (.lit (.lit (.ask (.lit (.lit (.lit (.lit (.lit (.lit (.lit (.lit (.lit (.lit (.nil))))))))))) (.lit (.lit (.lit (.lit (.lit (.ask (.lit (.lit (.lit (.lit (.lit (.nil)))))) (.lit (.lit (.lit (.lit (.lit (.ask (.nil) (.lit (.nil))))))))))))))))))))) (.lit (.lit (.lit (.ask (.lit (.lit (.lit (.ask (.lit (.lit (.lit (.lit (.lit (.lit (.lit (.lit (.lit (.lit (.nil))))))))))) (.lit (.lit (.lit (.lit (.lit (.ask (.lit (.lit (.lit (.lit (.lit (.nil)))))) (.lit (.lit (.lit (.lit (.lit (.ask (.nil) (.lit (.nil)))))))))))))))))) (.lit (.lit (.lit (.lit (.lit (.lit (.lit (.lit (.nil)))))))))))))))))) (.lit (.ask (.lit (.lit (.lit (.lit (.nil))))) (.lit (.lit (.lit (.nil)))))))) h (by kernel_rfl)
def WO:IC:=(Zh [Za 1 (.box 2 (.t 0)) 0,Za 2 (Xo false) 1] (.seq (Zh [Za 5 (.faddr 1 (.t 1)) 0,Za 6 (Yl [(.sl 2)] (.t 5)) 0,Za 7 (.len 1 (.t 6)) 0,Za 8 (.mv (Zy 0)) 0] (.block 0 (.loop [8,7,6,1] (Zh [Za 9 (ZA .lss (.t 8) (.t 7)) 0] (.seq (.cond (.t 9) .skip (.exit 0)) (.seq (.block 1 (Zh [Za 10 (Zc 8) 0,Za 11 (.iaddr 2 (.t 6) (.t 8)) 0,Za 12 (.load true [.str,(.int .i64)] (.t 11)) 0,Za 4 (.alloc (.agg [(.str []),(.int .i64 0)])) 0,Za 3 (Zc 10) 1,Ui (.store 2 (.t 4) (.t 12)) 1] (.seq (.reg [Za 13 (.faddr 0 (.t 4)) 0,Za 14 (.load false [.str] (.t 13)) 0,Za 15 (YT 119 [(.t 14)]) 0,Za 16 (.un .not (.t 15)) 2,Za 17 (Zc 16) 2,ZX 18 (.faddr 1 (.t 4)) 2 17,ZX 19 (Yl [(.int .i64)] (.t 18)) 2 17,ZX 20 (ZA .eql (.t 19) (Zy 0)) 2 17,Za 21 (.pick (.t 17) (.c (.bool true)) (.t 20)) 2,Za 22 (Zc 21) 2,ZX 23 (.faddr 1 (.t 4)) 2 22,ZX 24 (Yl [(.int .i64)] (.t 23)) 2 22,ZX 25 (YT 144 [(.t 24)]) 2 22,ZX 26 (.un .not (.t 25)) 4 22,Za 27 (.pick (.t 22) (.c (.bool true)) (.t 26)) 4,Za 28 (Zc 27) 4,ZX 29 (Zc 3) 4 28,ZX 30 (ZA .gtr (.t 29) (Zy 0)) 4 28,ZX 31 (Zc 30) 4 28,Z6 32 (.faddr 1 (.t 1)) 4 31,Z6 33 (Yl [(.sl 2)] (.t 32)) 4 31,Z6 34 (Zc 3) 4 31,Z6 35 (ZA .sub (.t 34) (Zy 1)) 4 31,Z6 36 (.iaddr 2 (.t 33) (.t 35)) 4 31,Z6 37 (.faddr 0 (.t 36)) 4 31,Z6 38 (.load false [.str] (.t 37)) 4 31,Z6 39 (.faddr 0 (.t 4)) 4 31,Z6 40 (.load false [.str] (.t 39)) 4 31,Z6 41 (ZA .geq (.t 38) (.t 40)) 4 31,ZX 42 (.pick (.t 31) (.t 41) (.c (.bool false))) 4 28,Za 43 (.pick (.t 28) (.c (.bool true)) (.t 42)) 4] (some [[],[0],[1,0],[2,1,0],[3,2,1,0],[4,3,2,1,0],[5,4,3,2,1,0],[6,4,5,3,2,1,0],[4,7,3,2,1,0,6,5],[8,4,7,3,2,1,0,6,5],[9,8,4,7,3,2,1,0,6,5],[10,9,8,4,7,3,2,1,0,6,5],[11,9,10,8,4,7,3,2,1,0,6,5],[12,9,11,10,8,4,7,3,2,1,0,6,5],[9,13,8,4,7,3,2,1,0,6,5,12,11,10],[14,12,9,13,8,4,7,3,2,1,0,6,5,11,10],[15,14,12,9,13,8,4,7,3,2,1,0,6,5,11,10],[16,15,14,12,9,13,8,4,7,3,2,1,0,6,5,11,10],[17,15,16,14,12,9,13,8,4,7,3,2,1,0,6,5,11,10],[18,17,15,16,14,12,9,13,8,4,7,3,2,1,0,6,5,11,10],[19,18,17,15,16,14,12,9,13,8,4,7,3,2,1,0,6,5,11,10],[18,17,15,16,14,12,9,13,8,4,7,3,2,1,0,6,5,11,10],[21,18,17,15,16,14,12,9,13,8,4,7,3,2,1,0,6,5,11,10],[20,22,18,19,17,15,16,14,12,9,13,8,4,7,3,2,1,0,6,5,11,10,21],[23,18,20,22,19,17,15,16,14,12,9,13,8,4,7,3,2,1,0,6,5,11,10,21],[24,18,23,20,22,19,17,15,16,14,12,9,13,8,4,7,3,2,1,0,6,5,11,10,21],[18,17,15,16,14,12,9,13,8,4,7,3,2,1,0,6,5,11,10],[26,18,17,15,16,14,12,9,13,8,4,7,3,2,1,0,6,5,11,10],[25,27,18,24,23,20,22,19,17,15,16,14,12,9,13,8,4,7,3,2,1,0,6,5,11,10,21,26],[18,28,15,17,16,14,12,9,13,8,4,7,3,2,1,0,6,5,11,10,25,27,24,23,20,22,19,21,26],[15,29,14,12,9,13,8,4,7,3,2,1,0,6,5,11,10,18,28,17,16,25,27,24,23,20,22,19,21,26]])) (.cond (.t 43) (Zh [Za 2 (Xo false) 0] .ret) .skip)))) (.reg [Za 44 (ZA .add (.t 8) (Zy 1)) 0,Za 8 (Zc 44) 0] none))))))) (Zh [Za 45 (.faddr 0 (.t 1)) 0,Za 46 (Yl [(.int .i64)] (.t 45)) 0,Za 47 (YT 144 [(.t 46)]) 0,Za 48 (Zc 47) 2,Z6 49 (.faddr 1 (.t 1)) 2 48,Z6 50 (Yl [(.sl 2)] (.t 49)) 2 48,Z6 51 (.len 1 (.t 50)) 2 48,Z6 52 (ZA .leq (.t 51) (Zy 12)) 2 48,Za 53 (.pick (.t 48) (.t 52) (.c (.bool false))) 2,Za 2 (Zc 53) 2] .ret)))
def WG:List IRes:=[(.tmp 2)]
abbrev a8u:Nat:=54
def VK:ZO:=Xc [(144,.pure (preT (fun _:Int×Unit=>true)) (Zj (fun x:Int×Unit=>YP x.1))),(119,.pure (preT (fun x:Str×Unit=>decide (x.1.s.length<=1000000))) (Zj (fun x:Str×Unit=>ZG x.1)))]
theorem b4y{G:PV->Prop}(l:Lin)(h:At VK 0 (Zb WG G) WO 0 54 [(1,(.ptr 0 0)),(6,(.pv (.sl 2 false (List.map enc l.t)))),(7,(.pv (.int .i64 (↑(List.length (List.map enc l.t)):Int)))),(8,(.pv (.int .i64 0)))] [(.obj (.box [(.pv (.int .i64 l.k)),(.pv (.sl 2 false (List.map enc l.t)))]))]):Ze VK 0 (Zb WG G) WO [] (Yk 54 [enc l]):=Ze.tp (.nil) h (by kernel_rfl)
theorem RI{G:PV->Prop}(l:Lin)(i:Int)(h:if (decide (i<(↑(List.length l.t):Int)))=true then(decide (0<=i)&&decide (Int.toNat i<List.length (List.map enc l.t))&&Enc.sz Coef==2)=true∧(∃ y0:Coef,AV.pv (PV.rptr (PV.cells (List.getD (List.map enc l.t) (Int.toNat i) default)))=AV.pv (PV.rptr (PV.cells ((enc) y0)))∧((Go.Pl.preT (fun(x:Str×Unit)=>decide (List.length (Str.s x.1)<=1000000)) [(.str (PV.asStr (List.getD (PV.cells (enc y0)) 0 default)))])=true∧(∃ y1:Bool,AV.pv (Zj (fun(x:Str×Unit)=>ZG x.1) [(.str (PV.asStr (List.getD (PV.cells (enc y0)) 0 default)))])=AV.pv (enc y1)∧(if (!y1)=true then G ((.bool false))else(if (PV.asInt (List.getD (PV.cells (enc y0)) (0+1) default)==0)=true then G ((.bool false))else(∃ y2:Bool,AV.pv (Zj (fun(x:Int×Unit)=>YP x.1) [(.int .i64 (PV.asInt (List.getD (PV.cells (enc y0)) (0+1) default)))])=AV.pv (enc y2)∧(if (!y2)=true then G ((.bool false))else(if (decide (i>0))=true then(decide (0<=IntKind.wrap IntKind.i64 (i - 1))&&decide (Int.toNat (IntKind.wrap IntKind.i64 (i - 1))<List.length (List.map enc l.t))&&Enc.sz Coef==2)=true∧(∃ y3:Coef,AV.pv (PV.rptr (PV.cells (List.getD (List.map enc l.t) (Int.toNat (IntKind.wrap IntKind.i64 (i - 1))) default)))=AV.pv (PV.rptr (PV.cells ((enc) y3)))∧(if (!Op.bytesLess (PV.asStr (List.getD (List.drop 0 (PV.cells (enc y3))) 0 default)) (PV.asStr (List.getD (PV.cells (enc y0)) 0 default)))=true then G ((.bool false))else(At VK 0 (Zb WG G) WO 0 54 [(1,(.ptr 0 0)),(6,(.pv (.sl 2 false (List.map enc l.t)))),(7,(.pv (.int .i64 (↑(List.length l.t):Int)))),(8,(.pv (.int .i64 (IntKind.wrap IntKind.i64 (i+1)))))] [(.obj (.box [(.pv (.int .i64 l.k)),(.pv (.sl 2 false (List.map enc l.t)))]))])))else(At VK 0 (Zb WG G) WO 0 54 [(1,(.ptr 0 0)),(6,(.pv (.sl 2 false (List.map enc l.t)))),(7,(.pv (.int .i64 (↑(List.length l.t):Int)))),(8,(.pv (.int .i64 (IntKind.wrap IntKind.i64 (i+1)))))] [(.obj (.box [(.pv (.int .i64 l.k)),(.pv (.sl 2 false (List.map enc l.t)))]))])))))))))else(∃ y4:Bool,AV.pv (Zj (fun(x:Int×Unit)=>YP x.1) [(.int .i64 l.k)])=AV.pv (enc y4)∧(if (y4)=true then G ((.bool (decide ((↑(List.length (List.map enc l.t)):Int)<=12))))else(G ((.bool false)))))):At VK 0 (Zb WG G) WO 0 54 [(1,.ptr 0 0),(6,.pv (enc l.t)),(7,.pv (.int .i64 l.t.length)),(8,.pv (.int .i64 i))] [.obj (.box [.pv (.int .i64 l.k),.pv (enc l.t)])]:=At.tp (.lit (.ask (.req (.abs (Coef) (fun YY=>AV.pv (PV.rptr (PV.cells ((enc) YY)))) (.lit (.req (.abs (Bool) (fun YY=>AV.pv (enc YY)) (.ask (.lit (.lit (.lit (.lit (.lit (.lit (.lit (.lit (.lit (.lit (.lit (.lit (.lit (.lit (.nil))))))))))))))) (.lit (.lit (.lit (.lit (.ask (.lit (.lit (.lit (.lit (.lit (.lit (.lit (.lit (.lit (.lit (.nil))))))))))) (.lit (.lit (.lit (.abs (Bool) (fun YY=>AV.pv (enc YY)) (.lit (.lit (.ask (.lit (.lit (.lit (.lit (.lit (.nil)))))) (.lit (.lit (.lit (.ask (.lit (.lit (.lit (.lit (.lit (.req (.abs (Coef) (fun YY=>AV.pv (PV.rptr (PV.cells ((enc) YY)))) (.lit (.lit (.lit (.lit (.lit (.lit (.lit (.lit (.lit (.lit (.ask (.nil) (.lit (.nil)))))))))))))))))))) (.lit (.lit (.lit (.lit (.lit (.lit (.lit (.lit (.lit (.lit (.lit (.lit (.lit (.lit (.nil))))))))))))))))))))))))))))))))))))) (.lit (.abs (Bool) (fun YY=>AV.pv (enc YY)) (.ask (.lit (.lit (.lit (.lit (.lit (.nil)))))) (.lit (.lit (.lit (.lit (.nil)))))))))) h (by kernel_rfl)
end Go.Pl
namespace Go.Pl
open Go.RowKit
open Enc (enc dec is)
open EncL (encL decL isL)
theorem Mx{s:List UInt8}{i:Nat}(h:i<s.length):List.getD (ZE s) (Int.toNat (i:Int)) default = .int .u8 (s[i].toNat:Int):=by
 simp[ZE,List.getD,h]
theorem UU(s:List UInt8):(ZE s).length=s.length:=by simp[ZE]
def LX(c:UInt8):Bool:=WW c||digB c
theorem Nr{c:UInt8}:WW c=true ↔ 97<=c.toNat∧c.toNat<=122:=by
 simp only[WW,Bool.and_eq_true,decide_eq_true_eq,UInt8.le_iff_toNat_le]
 have e1:(97:UInt8).toNat=97:=rfl
 have e2:(122:UInt8).toNat=122:=rfl
 rw[e1,e2]
theorem JH{c:UInt8}(h : ¬ (97<=c.toNat∧c.toNat<=122)):WW c=false:=by
 cases e:WW c
 ·rfl
 ·exact absurd (Nr.1 e) h
theorem JK{c:UInt8}(h : ¬ (48<=c.toNat∧c.toNat<=57)):digB c=false:=by
 cases e:digB c
 ·rfl
 ·exact absurd (VR.1 e) h
def XR(s:List UInt8)(i:Nat):Bool:=(match i with|0=>(match s with|[]=>true|c::r=>WW c&&r.all LX)|i+1=>(s.drop (i+1)).all LX)&&(!(s==[]))&&decide (s.length<=30)
theorem Pg{s:List UInt8}{i:Nat}(h:i<s.length)(hb:WW s[i]=true∨(i≠0∧digB s[i]=true)):XR s i=XR s (i+1):=by
 cases i with
 | zero=>
  cases s with
  | nil=>simp at h
  | cons c r=>
   rcases hb with hb|hb
   ·have hb:WW c=true:=hb
    simp[XR,hb]
   ·exact absurd rfl hb.1
 | succ i=>
  unfold XR
  simp only
  rw[List.drop_eq_getElem_cons h,List.all_cons]
  have:LX s[i+1]=true:=by
   rcases hb with hb|hb
   ·simp[LX,hb]
   ·simp[LX,hb.2]
  rw[this,Bool.true_and]
theorem RJ{s:List UInt8}{i:Nat}(h:i<s.length)(hb:WW s[i]=false∧(i=0∨digB s[i]=false)):XR s i=false:=by
 cases i with
 | zero=>
  cases s with
  | nil=>simp at h
  | cons c r=>
   have hb:WW c=false:=hb.1
   simp[XR,hb]
 | succ i=>
  unfold XR
  simp only
  rw[List.drop_eq_getElem_cons h,List.all_cons]
  have:LX s[i+1]=false:=by
   rcases hb.2 with h0|h0
   ·cases h0
   ·simp[LX,hb.1,h0]
  rw[this];simp
theorem Eu(s:List UInt8)(hs:s.length<=1000000): ∀ (m i:Nat),m+i=s.length->At Ve 0 (Zb X8 (Zi (XR s i))) XO 0 67 [(0,.pv (.str s)),(34,.pv (.sl 1 false (ZE s))),(35,.pv (.int .i64 (ZE s).length)),(36,.pv (.int .i64 i))] []:=by
 intro m
 induction m with
 | zero=>
  intro i hi
  have e:XR s i=(!(s==[])&&decide (s.length<=30)):=by
   unfold XR
   cases i with
   | zero=>cases s with
    | nil=>rfl
    | cons c r=>simp at hi
   | succ i=>simp only;rw[List.drop_of_length_le (show s.length<=i+1 by omega)];simp
  rw[e]
  refine OE s i (ZR (Yd (by rw[UU];omega)) (XT (fun h=>ZL ?_) fun h=>ZL ?_))
  ·rw[h,Bool.true_and];exact decide_eq_decide.2 (by omega)
  ·rw[h,Bool.false_and]
 | succ m ih=>
  intro i hi
  have hlt:i<s.length:=by omega
  have h:=ih (i+1) (by omega)
  refine OE s i ?_
  rw[Mx hlt,next (by omega)]
  have stop:(WW s[i]=false∧(i=0∨digB s[i]=false))->Zi (XR s i) (.bool false):=fun hb=>ZL (RJ hlt hb).symm
  have go:(WW s[i]=true∨(i≠0∧digB s[i]=true))->At Ve 0 (Zb X8 (Zi (XR s i))) XO 0 67 [(0,.pv (.str s)),(34,.pv (.sl 1 false (ZE s))),(35,.pv (.int .i64 (ZE s).length)),(36,.pv (.int .i64 ((i+1:Nat):Int)))] []:=fun hb=>by rw[Pg hlt hb];exact h
  have rest:WW s[i]=false->(if ((i:Int)==0)=true then Zi (XR s i) (.bool false)else if decide ((s[i].toNat:Int)<48)=true then Zi (XR s i) (.bool false)else if decide ((s[i].toNat:Int)>57)=true then Zi (XR s i) (.bool false)else At Ve 0 (Zb X8 (Zi (XR s i))) XO 0 67 [(0,.pv (.str s)),(34,.pv (.sl 1 false (ZE s))),(35,.pv (.int .i64 (ZE s).length)),(36,.pv (.int .i64 ((i+1:Nat):Int)))] []):=by
   intro hl
   refine Kb (fun h0=>stop ⟨hl,.inl (by omega)⟩) fun h0=>XQ (fun h1=>stop ⟨hl,.inr (JK (by omega))⟩) fun h1=>XQ (fun h2=>stop ⟨hl,.inr (JK (by omega))⟩) fun h2=>go (.inr ⟨by omega,VR.2 (by omega)⟩)
  refine ZN (Z8 (by rw[UU];exact hlt)) ⟨by rw[UU];simp[hlt],by rfl,?_⟩
  refine XQ (fun h1=>rest (JH ?_)) fun h1=>XQ (fun h2=>rest (JH ?_)) fun h2=>go (.inl (Nr.2 ?_))
  ·have h1:(s[i].toNat:Int)<97:=h1
   omega
  ·have h2:(s[i].toNat:Int)>122:=h2
   omega
  ·have h1 : ¬ (s[i].toNat:Int)<97:=h1
   have h2 : ¬ (s[i].toNat:Int)>122:=h2
   omega
theorem RQ{s:List UInt8}(h:[95].isPrefixOf s=false):ZG ⟨s⟩=XR s 0:=by
 cases s with
 | nil=>rfl
 | cons c r=>
  have hc : ¬ c=95:=by intro e;subst e;simp at h
  have e:decide ((c::r).length<=30)=decide (r.length<=29):=decide_eq_decide.2 (by simp)
  unfold XR
  rw[e]
  simp only[ZG,if_neg hc]
  show _=(WW c&&r.all LX&& !((c::r)==[])&&_)
  have e2:((c::r)==[])=false:=rfl
  rw[e2]
  simp only[Bool.not_false,Bool.and_true]
  rfl
theorem Sq(s:Str): -9223372036854775808<=(YD s).1∧((YD s).1<=9223372036854775807):=by
 unfold YD
 split
 ·rename_i v hv;exact Lib.atoiAll_bounds hv
 ·have:=Lib.atoiSat_bounds s.s
  exact⟨by show _<=Lib.atoiSat s.s;omega,by show Lib.atoiSat s.s<=_;omega⟩
 ·exact⟨by show(-9223372036854775808:Int)<=0;omega,by show(0:Int)<=_;omega⟩
theorem a5r: ∀ a:Str×Unit,decide (a.1.s.length<=1000000)=true->Ze Ve 0 (Zb X8 (Zi (ZG a.1))) XO [] (Yk b6c (encL a)):=by
 rintro⟨⟨s⟩,⟨⟩⟩ hl
 have hl:s.length<=1000000:=by simpa using hl
 refine c4v s (Zk (⟨s⟩,⟨[95]⟩,()) rfl (XT (fun h=> ?_) fun h=> ?_))
 ·have h:[95].isPrefixOf s=true:=h
  obtain⟨r,rfl⟩ : ∃ r,s=95::r:=by
   cases s with
   | nil=>simp at h
   | cons c r=>
    have:95=c:=by simpa using h
    exact⟨r,by rw[this]⟩
  have e1:List.drop (Int.toNat 1) (List.take (List.length (95::r)) (95::r))=r:=by rw[List.take_of_length_le (Nat.le_refl _)];rfl
  simp only[e1]
  refine⟨by simp,Zl (⟨r⟩,()) rfl (by simp at hl ⊢;omega),Zk (⟨r⟩,()) rfl ⟨by show(Ar (enc (YD ⟨r⟩).2)&&true)=true;rw[c5b];rfl,?_⟩⟩
  show if U2 (enc (YD ⟨r⟩).2)=true then(if decide ((YD ⟨r⟩).1>0)=true then(if _ then _ else Zi (ZG ⟨95::r⟩) _)else Zi (ZG ⟨95::r⟩) _)else Zi (ZG ⟨95::r⟩) _
  rw[LM]
  by_cases h9:r.length<=9
  ·rw[<- a3k r h9,decide_eq_true h9,Bool.and_true]
   refine XT (fun h1=>XT (fun h2=>ZN (by simp;omega) ⟨Zl ((YD ⟨r⟩).1,()) rfl (by have:=Sq ⟨r⟩;simp;omega),Zk ((YD ⟨r⟩).1,()) rfl ⟨by simp,ZL ?_⟩⟩) fun h2=>ZL ?_) fun h1=>ZL ?_
   ·rw[h1,h2];simp only[Bool.true_and,Bool.and_true];rfl
   ·rw[h2];simp
   ·rw[h1];simp
  ·rw[decide_eq_false h9,Bool.and_false]
   refine XT (fun h1=>XT (fun h2=>ZR (by simp;omega) (ZL rfl)) fun h2=>ZL rfl) fun h1=>ZL rfl
 ·have h:[95].isPrefixOf s=false:=h
  show At Ve 0 (Zb X8 (Zi (ZG ⟨s⟩))) XO 0 67 _ _
  rw[RQ h]
  exact Eu s hl s.length 0 (by omega)
theorem Fj(l:Lin)(hl:l.t.length<=9223372036854775807)(hs:l.t.all (fun t=>decide (t.v.s.length<=1000000))=true): ∀ (j i:Nat),j+i=l.t.length->At VK 0 (Zb WG (Zi (Ab (pvS l.t i) (l.t.drop i)&&(YP l.k&&decide (l.t.length<=12))))) WO 0 54 [(1,.ptr 0 0),(6,.pv (enc l.t)),(7,.pv (.int .i64 l.t.length)),(8,.pv (.int .i64 i))] [.obj (.box [.pv (.int .i64 l.k),.pv (enc l.t)])]:=by
 intro j
 induction j with
 | zero=>
  intro i hi
  refine RI l i (ZR (Yd (by omega)) (Zk (l.k,()) rfl ?_))
  rw[List.drop_of_length_le (show l.t.length<=i by omega)]
  refine XT (fun h=>ZL ?_) fun h=>ZL ?_
  ·have h:YP l.k=true:=h
   rw[h]
   show _=(true&&(true&&_))
   rw[Bool.true_and,Bool.true_and]
   exact decide_eq_decide.2 (by simp;omega)
  ·have h:YP l.k=false:=h
   rw[h];simp
 | succ j ih=>
  intro i hi
  have hlt:i<l.t.length:=by omega
  have h:=ih (i+1) (by omega)
  have hsi:l.t[i].v.s.length<=1000000:=by rw[List.all_eq_true]at hs;simpa using hs _ (List.getElem_mem hlt)
  refine RI l i ?_
  refine ZN (Z8 hlt) ⟨Zu hlt rfl,ZB hlt ⟨Zl (l.t[i].v,()) rfl (by simpa using hsi),Zk (l.t[i].v,()) rfl (XU (fun hn=> ?_) fun hn=>Kb (fun hc=> ?_) fun hc=>Zk (l.t[i].c,()) rfl (XU (fun hk=> ?_) fun hk=> ?_))⟩⟩
  all_goals rw[List.drop_eq_getElem_cons hlt,GH]
  ·have hn:ZG l.t[i].v=false:=hn
   exact ZL (by simp[hn])
  ·have hc:l.t[i].c=0:=hc
   exact ZL (by simp[hc])
  ·have hk:YP l.t[i].c=false:=hk
   exact ZL (by simp[hk])
  have hn:ZG l.t[i].v=true:=hn
  have hk:YP l.t[i].c=true:=hk
  have hc:l.t[i].c≠0:=hc
  rw[next (by omega),hn,hk,decide_eq_true hc]
  have ep:pvS l.t (i+1)=some l.t[i].v.s:=by simp[pvS,hlt]
  rw[ep]at h
  cases i with
  | zero=>exact ZR (by simp) h
  | succ i=>
   refine ZN (by simp) ?_
   rw[a4o (by omega)]
   refine⟨Zu (by omega) rfl,ZB (by omega) ?_⟩
   have e2:pvS l.t (i+1)=some l.t[i].v.s:=by simp[pvS,show i<l.t.length by omega]
   rw[e2]
   refine XU (fun hb=> ?_) fun hb=> ?_
   all_goals
    have hb':=(Yr l.t[i].v.s l.t[i+1].v.s).symm.trans hb
    simp only[hb',Bool.and_true,Bool.true_and,Bool.and_false,Bool.false_and]
   ·exact ZL rfl
   ·exact h
theorem a1c: ∀ a:Lin×Unit,Yz a.1=true->Ze VK 0 (Zb WG (Zi (Zw a.1))) WO [] (Yk a8u (encL a)):=by
 rintro⟨l,⟨⟩⟩ hl
 simp only[Yz,YF,Bool.and_eq_true,decide_eq_true_eq]at hl
 refine b4y l ?_
 show At VK 0 (Zb WG (Zi (Zw l))) WO 0 54 _ _
 have e:Zw l=(Ab (pvS l.t 0) (l.t.drop 0)&&(YP l.k&&decide (l.t.length<=12))):=by rw[Oy,Bool.and_comm];rfl
 rw[e,List.length_map]
 exact Fj l hl.1 hl.2 l.t.length 0 (by omega)
structure LR where
 k:Int
 w:Nat
 ts:List Coef
def LR.view(r:LR):Lin:=⟨r.k,r.ts.take r.w⟩
def LR.av(r:LR)(l:Nat):AV:=.agg [.pv (.int .i64 r.k),.row l r.ts.length 0 r.w]
def LR.ob(r:LR):AObj:=.row false 61 2 (r.ts.map enc)
def K3:Nat->Nat->Nat->List Coef->List Coef×Nat
 | 0,_,j,ts=>(ts,j)
 | m+1,i,j,ts=>if (ts.getD i ⟨⟨[]⟩,0⟩).c=0 then K3 m (i+1) j ts else K3 m (i+1) (j+1) (ts.set j (ts.getD i ⟨⟨[]⟩,0⟩))
def T9(k:Int)(o:List Coef):LR:=⟨k,(K3 o.length 0 0 o).2,(K3 o.length 0 0 o).1⟩
def Ct(l:Lin)(s:Str)(c:Int):LR:=T9 l.k (X9 s c false l.t)
theorem DX(o:List Coef): ∀ (m i j:Nat) (ts:List Coef),m+i=o.length->ts.length=o.length->j<=i->ts.take j=(o.take i).filter (fun t=>decide (t.c≠0))->ts.drop i=o.drop i->(K3 m i j ts).1.take (K3 m i j ts).2=o.filter fun t=>decide (t.c≠0)
 | 0,i,j,ts,hm,hts,hji,h1,h2=>by
  rw[K3]
  show ts.take j=_
  rw[h1,List.take_of_length_le (by omega)]
 | m+1,i,j,ts,hm,hts,hji,h1,h2=>by
  have hlt:i<o.length:=by omega
  have hi':i<ts.length:=by omega
  have hj':j<ts.length:=by omega
  have ei:ts[i]=o[i]:=by
   have:(ts.drop i)[0]? = (o.drop i)[0]? :=by rw[h2]
   simpa [hi',hlt]using this
  have htk:(o.take (i+1))=o.take i++[o[i]]:=by rw[List.take_add_one,List.getElem?_eq_getElem hlt];rfl
  have eg:ts.getD i ⟨⟨[]⟩,0⟩=ts[i]:=by simp[List.getD,hi']
  rw[K3,eg]
  split
  ·rename_i hz
   refine DX o m (i+1) j ts (by omega) hts (by omega) ?_ ?_
   ·rw[h1,htk,List.filter_append]
    have:o[i].c=0:=by rw[<- ei];exact hz
    simp[this]
   ·have:=congrArg (List.drop 1) h2
    simpa [List.drop_drop,Nat.add_comm]using this
  ·rename_i hz
   refine DX o m (i+1) (j+1) (ts.set j ts[i]) (by omega) (by simp[hts]) (by omega) ?_ ?_
   ·rw[htk,List.filter_append,<- h1]
    have:decide (o[i].c≠0)=true:=by rw[<- ei];exact decide_eq_true hz
    simp only[List.filter_cons,this,if_true,List.filter_nil]
    rw[List.take_add_one,List.getElem?_set_self hj',List.take_set_of_le (Nat.le_refl j),ei]
    rfl
   ·rw[List.drop_set_of_lt (by omega)]
    have:=congrArg (List.drop 1) h2
    simpa [List.drop_drop,Nat.add_comm]using this
theorem a1t(l:Lin)(s:Str)(c:Int):(Ct l s c).view=VD l s c:=by
 show(⟨_,_⟩:Lin)=⟨_,_⟩
 congr 1
 exact DX _ _ 0 0 _ (by omega) rfl (by omega) (by simp) rfl
def JJ:List AV->List AObj->Bool
 | [.pv l,.pv (.str s),.pv (.int .i64 c)],[]=>VV Lin l&&decide ((dec l:Lin).t.length<=1000000)
 | _,_=>false
def AR(r:LR)(l:Nat)(os:List AObj):AV×List AObj×List AObj:=(r.av l,os,[r.ob])
def Jq:List AV->List AObj->AV×List AObj×List AObj
 | [.pv l,.pv (.str s),.pv (.int .i64 c)],_=>AR (Ct (dec l) ⟨s⟩ c) 0 []
 | _,_=>VM
def d0y:PV:=.agg [.int .i64 0,.sl 0 true []]
end Go.Pl
namespace Go.Pl
open Go.RowKit
open Enc (enc dec is)
open EncL (encL decL isL)
set_option maxRecDepth 100000
def ZW:IC:=(Zh [Za 3 (.box 2 (.t 0)) 0,Za 6 (.alloc (.agg [(.int .i64 0),(.sl 0 true [])])) 1] (Zh [Za 13 (.faddr 0 (.t 3)) 0,Za 14 (Yl [(.int .i64)] (.t 13)) 0,Za 15 (.build [(.int .i64 0),(.sl 0 true [])] [(0,(1,(.t 14)))]) 0,Za 7 (.alloc (.agg [(.int .i64 0),(.sl 0 true [])])) 0,Ui (.store 2 (.t 7) (.t 15)) 1] (Zh [Za 8 (Xo false) 0] (.seq (Zh [Za 9 (.mv (Zy 0)) 0] (.block 0 (.loop [9,3,8,1,7,2,6] (.seq (Zh [Za 16 (Zc 9) 0,Za 17 (.faddr 1 (.t 3)) 0,Za 18 (Yl [(.sl 2)] (.t 17)) 0,Za 19 (.len 1 (.t 18)) 0,Za 20 (ZA .lss (.t 16) (.t 19)) 0] (.cond (.t 20) .skip (.exit 0))) (.seq (.block 1 (Zh [Za 23 (.faddr 1 (.t 3)) 0,Za 24 (Yl [(.sl 2)] (.t 23)) 0,Za 25 (Zc 9) 0,Za 26 (.iaddr 2 (.t 24) (.t 25)) 0,Za 27 (.load true [.str,(.int .i64)] (.t 26)) 0,Za 10 (.alloc (.agg [(.str []),(.int .i64 0)])) 0,Ui (.store 2 (.t 10) (.t 27)) 1] (.seq (Zh [Za 28 (Zc 8) 0,Za 29 (.un .not (.t 28)) 0,Za 30 (Zc 29) 0,Z6 31 (.faddr 0 (.t 10)) 0 30,Z6 32 (.load false [.str] (.t 31)) 0 30,Z6 33 (Zc 1) 0 30,Z6 34 (ZA .gtr (.t 32) (.t 33)) 0 30,Za 35 (.pick (.t 30) (.t 34) (.c (.bool false))) 0] (.cond (.t 35) (Zh [Za 36 (.faddr 1 (.t 7)) 0,Za 37 (Yl [(.sl 2)] (.t 36)) 0,Za 38 (Zc 1) 0,Za 39 (Zc 2) 0,Za 40 (.build [(.str []),(.int .i64 0)] [(0,(1,(.t 38))),(1,(1,(.t 39)))]) 0,Za 41 (.bslice 61 2 1 (.agg [(.str []),(.int .i64 0)]) [(0,(.t 40))]) 0,Za 42 (.append 61 2 24 (.t 37) (.t 41)) 1,Za 43 (.faddr 1 (.t 7)) 2,Ui (.store 1 (.t 43) (.t 42)) 2] (.reg [Za 8 (Xo true) 0] none)) .skip)) (.seq (Zh [Za 44 (.faddr 0 (.t 10)) 0,Za 45 (.load false [.str] (.t 44)) 0,Za 46 (Zc 1) 0,Za 47 (ZA .eql (.t 45) (.t 46)) 0] (.cond (.t 47) (Zh [Za 48 (.faddr 1 (.t 10)) 0,Za 49 (Yl [(.int .i64)] (.t 48)) 0,Za 50 (Zc 2) 0,Za 51 (ZA .add (.t 49) (.t 50)) 0,Za 52 (.faddr 1 (.t 10)) 0,Ui (.store 1 (.t 52) (.t 51)) 0] (.reg [Za 8 (Xo true) 0] none)) .skip)) (.reg [Za 53 (.faddr 1 (.t 7)) 0,Za 54 (Yl [(.sl 2)] (.t 53)) 0,Za 55 (.load true [.str,(.int .i64)] (.t 10)) 0,Za 56 (.bslice 61 2 1 (.agg [(.str []),(.int .i64 0)]) [(0,(.t 55))]) 0,Za 57 (.append 61 2 24 (.t 54) (.t 56)) 1,Za 58 (.faddr 1 (.t 7)) 2,Ui (.store 1 (.t 58) (.t 57)) 2] none))))) (.reg [Za 21 (Zc 9) 0,Za 22 (ZA .add (.t 21) (Zy 1)) 0,Za 9 (Zc 22) 0] none)))))) (.seq (Zh [Za 59 (Zc 8) 0,Za 60 (.un .not (.t 59)) 0] (.cond (.t 60) (.reg [Za 61 (.faddr 1 (.t 7)) 0,Za 62 (Yl [(.sl 2)] (.t 61)) 0,Za 63 (Zc 1) 0,Za 64 (Zc 2) 0,Za 65 (.build [(.str []),(.int .i64 0)] [(0,(1,(.t 63))),(1,(1,(.t 64)))]) 0,Za 66 (.bslice 61 2 1 (.agg [(.str []),(.int .i64 0)]) [(0,(.t 65))]) 0,Za 67 (.append 61 2 24 (.t 62) (.t 66)) 1,Za 68 (.faddr 1 (.t 7)) 2,Ui (.store 1 (.t 68) (.t 67)) 2] none) .skip)) (Zh [Za 11 (.mv (Zy 0)) 0] (.seq (Zh [Za 12 (.mv (Zy 0)) 0] (.block 2 (.loop [12,7,11,6] (.seq (Zh [Za 69 (Zc 12) 0,Za 70 (.faddr 1 (.t 7)) 0,Za 71 (Yl [(.sl 2)] (.t 70)) 0,Za 72 (.len 1 (.t 71)) 0,Za 73 (ZA .lss (.t 69) (.t 72)) 0] (.cond (.t 73) .skip (.exit 2))) (.seq (.block 3 (Zh [Za 76 (.faddr 1 (.t 7)) 0,Za 77 (Yl [(.sl 2)] (.t 76)) 0,Za 78 (Zc 12) 0,Za 79 (.iaddr 2 (.t 77) (.t 78)) 0,Za 80 (.faddr 1 (.t 79)) 0,Za 81 (Yl [(.int .i64)] (.t 80)) 0,Za 82 (ZA .neq (.t 81) (Zy 0)) 0] (.cond (.t 82) (.seq (.reg [Za 83 (.faddr 1 (.t 7)) 0,Za 84 (Yl [(.sl 2)] (.t 83)) 0,Za 85 (Zc 11) 0,Za 86 (.faddr 1 (.t 7)) 0,Za 87 (Yl [(.sl 2)] (.t 86)) 0,Za 88 (Zc 12) 0,Za 89 (.iaddr 2 (.t 87) (.t 88)) 0,Za 90 (.load true [.str,(.int .i64)] (.t 89)) 0,Za 91 (.iaddr 2 (.t 84) (.t 85)) 0,Ui (.store 2 (.t 91) (.t 90)) 0] (some [[],[0],[],[],[3],[],[4,5,3],[6,4,5,3],[1,2,0,3,4,5,6,7],[8,7,0,1,2,3,4,5,6]])) (.reg [Za 92 (Zc 11) 0,Za 93 (ZA .add (.t 92) (Zy 1)) 0,Za 11 (Zc 93) 0] none)) .skip))) (.reg [Za 74 (Zc 12) 0,Za 75 (ZA .add (.t 74) (Zy 1)) 0,Za 12 (Zc 75) 0] none)))))) (Zh [Za 94 (.faddr 1 (.t 7)) 0,Za 95 (Yl [(.sl 2)] (.t 94)) 0,Za 96 (Zc 11) 0,Za 97 (.slc 2 (.t 95) none (some (.t 96)) none) 0,Za 98 (.faddr 1 (.t 7)) 0,Ui (.store 1 (.t 98) (.t 97)) 0] (Zh [Za 99 (.load true [(.int .i64),(.sl 2)] (.t 7)) 0,Ui (.store 2 (.t 6) (.t 99)) 0] .ret)))))))))
def ZV:List IRes:=[(.cell true 2 6)]
abbrev Ou:Nat:=100
def Yc:ZO:=Xc []
theorem c4k{G:AV×List AObj×List AObj->Prop}(l:Lin)(s:List UInt8)(c:Int)(h:At Yc 0 (Zt 0 ZV G) ZW 0 100 [(1,(.pv (.str s))),(2,(.pv (.int .i64 c))),(3,(.ptr 0 0)),(6,(.ptr 1 0)),(7,(.ptr 2 0)),(8,(.pv (.bool false))),(9,(.pv (.int .i64 0)))] [(.obj (.box [(.pv (.int .i64 l.k)),(.pv (.sl 2 false (List.map enc l.t)))])),(.obj (.box [(.pv (.int .i64 0)),(.pv (.sl 0 true []))])),(.obj (.box [(.pv (.int .i64 l.k)),(.pv (.sl 0 true []))]))]):Ze Yc 0 (Zt 0 ZV G) ZW [] (YV 100 [.pv (enc l),.pv (.str s),.pv (enc c)] []):=Ze.to (.nil) h (by kernel_rfl)
theorem a5p{G:AV×List AObj×List AObj->Prop}(l:Lin)(s:List UInt8)(c:Int)(p:Bool)(i:Int)(h:if (decide (i<(↑(List.length (List.map enc l.t)):Int)))=true then(decide (0<=i)&&decide (Int.toNat i<List.length (List.map enc l.t))&&Enc.sz Coef==2)=true∧(∃ y0:Coef,AV.pv (PV.rptr (PV.cells (List.getD (List.map enc l.t) (Int.toNat i) default)))=AV.pv (PV.rptr (PV.cells ((enc) y0)))∧(if (!p)=true then if (!(Op.bytesLess (PV.asStr (List.getD (PV.cells (enc y0)) 0 default)) s||PV.asStr (List.getD (PV.cells (enc y0)) 0 default)==s))=true then if (PV.asStr (List.getD (PV.cells (enc y0)) 0 default)==s)=true then At Yc 0 (Zt 0 ZV G) ZW 0 100 [(1,(.pv (.str s))),(2,(.pv (.int .i64 c))),(3,(.ptr 0 0)),(6,(.ptr 1 0)),(7,(.ptr 2 0)),(8,(.pv (.bool true))),(9,(.pv (.int .i64 (IntKind.wrap IntKind.i64 (i+1)))))] [(.obj (.box [(.pv (.int .i64 l.k)),(.pv (.sl 2 false (List.map enc l.t)))])),(.obj (.box [(.pv (.int .i64 0)),(.pv (.sl 0 true []))])),(.obj (.box [(.pv (.int .i64 l.k)),(.row 3 2 0 2)])),(.obj (.row false 61 2 [(.agg [(.str s),(.int .i64 c)]),(.agg [(.str (PV.asStr (List.getD (PV.cells (enc y0)) 0 default))),(.int .i64 (IntKind.wrap IntKind.i64 (PV.asInt (List.getD (PV.cells (enc y0)) (0+1) default)+c)))])]))]else(At Yc 0 (Zt 0 ZV G) ZW 0 100 [(1,(.pv (.str s))),(2,(.pv (.int .i64 c))),(3,(.ptr 0 0)),(6,(.ptr 1 0)),(7,(.ptr 2 0)),(8,(.pv (.bool true))),(9,(.pv (.int .i64 (IntKind.wrap IntKind.i64 (i+1)))))] [(.obj (.box [(.pv (.int .i64 l.k)),(.pv (.sl 2 false (List.map enc l.t)))])),(.obj (.box [(.pv (.int .i64 0)),(.pv (.sl 0 true []))])),(.obj (.box [(.pv (.int .i64 l.k)),(.row 3 2 0 2)])),(.obj (.row false 61 2 [(.agg [(.str s),(.int .i64 c)]),(.agg [(.str (PV.asStr (List.getD (PV.cells (enc y0)) 0 default))),(.int .i64 (PV.asInt (List.getD (PV.cells (enc y0)) (0+1) default)))])]))])else(if (PV.asStr (List.getD (PV.cells (enc y0)) 0 default)==s)=true then At Yc 0 (Zt 0 ZV G) ZW 0 100 [(1,(.pv (.str s))),(2,(.pv (.int .i64 c))),(3,(.ptr 0 0)),(6,(.ptr 1 0)),(7,(.ptr 2 0)),(8,(.pv (.bool true))),(9,(.pv (.int .i64 (IntKind.wrap IntKind.i64 (i+1)))))] [(.obj (.box [(.pv (.int .i64 l.k)),(.pv (.sl 2 false (List.map enc l.t)))])),(.obj (.box [(.pv (.int .i64 0)),(.pv (.sl 0 true []))])),(.obj (.box [(.pv (.int .i64 l.k)),(.row 3 1 0 1)])),(.obj (.row false 61 2 [(.agg [(.str (PV.asStr (List.getD (PV.cells (enc y0)) 0 default))),(.int .i64 (IntKind.wrap IntKind.i64 (PV.asInt (List.getD (PV.cells (enc y0)) (0+1) default)+c)))])]))]else(At Yc 0 (Zt 0 ZV G) ZW 0 100 [(1,(.pv (.str s))),(2,(.pv (.int .i64 c))),(3,(.ptr 0 0)),(6,(.ptr 1 0)),(7,(.ptr 2 0)),(8,(.pv (.bool p))),(9,(.pv (.int .i64 (IntKind.wrap IntKind.i64 (i+1)))))] [(.obj (.box [(.pv (.int .i64 l.k)),(.pv (.sl 2 false (List.map enc l.t)))])),(.obj (.box [(.pv (.int .i64 0)),(.pv (.sl 0 true []))])),(.obj (.box [(.pv (.int .i64 l.k)),(.row 3 1 0 1)])),(.obj (.row false 61 2 [(.agg [(.str (PV.asStr (List.getD (PV.cells (enc y0)) 0 default))),(.int .i64 (PV.asInt (List.getD (PV.cells (enc y0)) (0+1) default)))])]))]))else(if (PV.asStr (List.getD (PV.cells (enc y0)) 0 default)==s)=true then At Yc 0 (Zt 0 ZV G) ZW 0 100 [(1,(.pv (.str s))),(2,(.pv (.int .i64 c))),(3,(.ptr 0 0)),(6,(.ptr 1 0)),(7,(.ptr 2 0)),(8,(.pv (.bool true))),(9,(.pv (.int .i64 (IntKind.wrap IntKind.i64 (i+1)))))] [(.obj (.box [(.pv (.int .i64 l.k)),(.pv (.sl 2 false (List.map enc l.t)))])),(.obj (.box [(.pv (.int .i64 0)),(.pv (.sl 0 true []))])),(.obj (.box [(.pv (.int .i64 l.k)),(.row 3 1 0 1)])),(.obj (.row false 61 2 [(.agg [(.str (PV.asStr (List.getD (PV.cells (enc y0)) 0 default))),(.int .i64 (IntKind.wrap IntKind.i64 (PV.asInt (List.getD (PV.cells (enc y0)) (0+1) default)+c)))])]))]else(At Yc 0 (Zt 0 ZV G) ZW 0 100 [(1,(.pv (.str s))),(2,(.pv (.int .i64 c))),(3,(.ptr 0 0)),(6,(.ptr 1 0)),(7,(.ptr 2 0)),(8,(.pv (.bool p))),(9,(.pv (.int .i64 (IntKind.wrap IntKind.i64 (i+1)))))] [(.obj (.box [(.pv (.int .i64 l.k)),(.pv (.sl 2 false (List.map enc l.t)))])),(.obj (.box [(.pv (.int .i64 0)),(.pv (.sl 0 true []))])),(.obj (.box [(.pv (.int .i64 l.k)),(.row 3 1 0 1)])),(.obj (.row false 61 2 [(.agg [(.str (PV.asStr (List.getD (PV.cells (enc y0)) 0 default))),(.int .i64 (PV.asInt (List.getD (PV.cells (enc y0)) (0+1) default)))])]))]))))else(if (!p)=true then At Yc 0 (Zt 0 ZV G) ZW 1 100 [(6,(.ptr 0 0)),(7,(.ptr 1 0)),(11,(.pv (.int .i64 0))),(12,(.pv (.int .i64 0)))] [(.obj (.box [(.pv (.int .i64 0)),(.pv (.sl 0 true []))])),(.obj (.box [(.pv (.int .i64 l.k)),(.row 2 1 0 1)])),(.obj (.row false 61 2 [(.agg [(.str s),(.int .i64 c)])]))]else(At Yc 0 (Zt 0 ZV G) ZW 1 100 [(6,(.ptr 0 0)),(7,(.ptr 1 0)),(11,(.pv (.int .i64 0))),(12,(.pv (.int .i64 0)))] [(.obj (.box [(.pv (.int .i64 0)),(.pv (.sl 0 true []))])),(.obj (.box [(.pv (.int .i64 l.k)),(.pv (.sl 0 true []))]))]))):At Yc 0 (Zt 0 ZV G) ZW 0 100 [(1,.pv (.str s)),(2,.pv (.int .i64 c)),(3,.ptr 0 0),(6,.ptr 1 0),(7,.ptr 2 0),(8,.pv (.bool p)),(9,.pv (.int .i64 i))] [.obj (.box [.pv (.int .i64 l.k),.pv (enc l.t)]),.obj (.box [.pv (.int .i64 0),.pv (.sl 0 true [])]),.obj (.box [.pv (.int .i64 l.k),.pv (.sl 0 true [])])]:=At.to (.lit (.ask (.req (.abs (Coef) (fun YY=>AV.pv (PV.rptr (PV.cells ((enc) YY)))) (.lit (.ask (.lit (.lit (.lit (.lit (.lit (.ask (.lit (.lit (.lit (.lit (.lit (.lit (.ask (.lit (.lit (.lit (.lit (.lit (.nil)))))) (.lit (.lit (.lit (.lit (.nil)))))))))))) (.lit (.ask (.lit (.lit (.lit (.lit (.lit (.lit (.lit (.nil)))))))) (.lit (.lit (.lit (.lit (.lit (.lit (.nil))))))))))))))) (.lit (.lit (.lit (.lit (.lit (.lit (.ask (.lit (.lit (.lit (.lit (.lit (.lit (.lit (.nil)))))))) (.lit (.lit (.lit (.lit (.lit (.lit (.nil)))))))))))))))))) (.ask (.lit (.lit (.lit (.lit (.lit (.nil)))))) (.nil)))) h (by kernel_rfl)
theorem Rl{G:AV×List AObj×List AObj->Prop}(l:Lin)(s:List UInt8)(c:Int)(j i:Int)(q:Nat)(ts:List Coef)(h:if (decide (i<(↑(q - 0):Int)))=true then(decide (0<=i)&&decide (0+Int.toNat i<q)&&List.length (List.map enc ts)==q)=true∧((List.length (List.map enc ts)==q&&decide (0+Int.toNat i<List.length (List.map enc ts)))=true∧((decide (0+1+List.length [Sh.int .i64]<=List.length (PV.cells (List.getD (List.map enc ts) (0+Int.toNat i) default)))&&Yx (PV.cells (List.getD (List.map enc ts) (0+Int.toNat i) default)) (0+1) [Sh.int .i64])=true∧(if (PV.asInt (List.getD (PV.cells (List.getD (List.map enc ts) (0+Int.toNat i) default)) (0+1) default) != 0)=true then(decide (0<=i)&&decide (0+Int.toNat i<q)&&List.length (List.map enc ts)==q)=true∧((List.length (List.map enc ts)==q&&decide (0+Int.toNat i<List.length (List.map enc ts)))=true∧((decide (0+List.length [Sh.str,Sh.int .i64]<=List.length (PV.cells (List.getD (List.map enc ts) (0+Int.toNat i) default)))&&Yx (PV.cells (List.getD (List.map enc ts) (0+Int.toNat i) default)) 0 [Sh.str,Sh.int .i64])=true∧((decide (0<=j)&&decide (0+Int.toNat j<q)&&List.length (List.map enc ts)==q)=true∧((List.length (List.map enc ts)==q&&decide (0+Int.toNat j<List.length (List.map enc ts))&&List.length (PV.cells (PV.agg (VT (PV.cells (List.getD (List.map enc ts) (0+Int.toNat i) default)) 0 [Sh.str,Sh.int .i64])))==2&&decide (0+2<=List.length (PV.cells (List.getD (List.map enc ts) (0+Int.toNat j) default)))&&PV.cellsOk (PV.agg (VT (PV.cells (List.getD (List.map enc ts) (0+Int.toNat i) default)) 0 [Sh.str,Sh.int .i64])))=true∧(At Yc 0 (Zt 0 ZV G) ZW 1 100 [(6,(.ptr 0 0)),(7,(.ptr 1 0)),(11,(.pv (.int .i64 (IntKind.wrap IntKind.i64 (j+1))))),(12,(.pv (.int .i64 (IntKind.wrap IntKind.i64 (i+1)))))] [(.obj (.box [(.pv (.int .i64 0)),(.pv (.sl 0 true []))])),(.obj (.box [(.pv (.int .i64 l.k)),(.row 2 q 0 q)])),(.obj (.row false 61 2 (List.set (List.map enc ts) (0+Int.toNat j) (PV.withCells (List.getD (List.map enc ts) (0+Int.toNat j) default) (splice (PV.cells (List.getD (List.map enc ts) (0+Int.toNat j) default)) 0 (PV.cells (PV.agg (VT (PV.cells (List.getD (List.map enc ts) (0+Int.toNat i) default)) 0 [Sh.str,Sh.int .i64]))))))))])))))else(At Yc 0 (Zt 0 ZV G) ZW 1 100 [(6,(.ptr 0 0)),(7,(.ptr 1 0)),(11,(.pv (.int .i64 j))),(12,(.pv (.int .i64 (IntKind.wrap IntKind.i64 (i+1)))))] [(.obj (.box [(.pv (.int .i64 0)),(.pv (.sl 0 true []))])),(.obj (.box [(.pv (.int .i64 l.k)),(.row 2 q 0 q)])),(.obj (.row false 61 2 (List.map enc ts)))]))))else((true&&decide (0<=j)&&decide (0<=Int.toNat j)&&decide (0+Int.toNat j<=q)&&List.length (List.map enc ts)==q)=true∧(G (((.agg [(.pv (.int .i64 l.k)),(.row 0 q 0 (0+Int.toNat j))]),([],[(.row false 61 2 (List.map enc ts))])))))):At Yc 0 (Zt 0 ZV G) ZW 1 100 [(6,.ptr 0 0),(7,.ptr 1 0),(11,.pv (.int .i64 j)),(12,.pv (.int .i64 i))] [.obj (.box [.pv (.int .i64 0),.pv (.sl 0 true [])]),.obj (.box [.pv (.int .i64 l.k),.row 2 q 0 q]),.obj (.row false 61 2 (ts.map enc))]:=At.to (.lit (.ask (.req (.keep (.req (.req (.lit (.ask (.req (.keep (.req (.req (.req (.keep (.req (.lit (.lit (.nil)))))))))) (.lit (.nil)))))))) (.req (.nil)))) h (by kernel_rfl)
theorem Ro{G:AV×List AObj×List AObj->Prop}(l:Lin)(s:List UInt8)(c:Int)(p:Bool)(i:Int)(q:Nat)(ts:List Coef)(h:if (decide (i<(↑(List.length (List.map enc l.t)):Int)))=true then(decide (0<=i)&&decide (Int.toNat i<List.length (List.map enc l.t))&&Enc.sz Coef==2)=true∧(∃ y0:Coef,AV.pv (PV.rptr (PV.cells (List.getD (List.map enc l.t) (Int.toNat i) default)))=AV.pv (PV.rptr (PV.cells ((enc) y0)))∧(if (!p)=true then if (!(Op.bytesLess (PV.asStr (List.getD (PV.cells (enc y0)) 0 default)) s||PV.asStr (List.getD (PV.cells (enc y0)) 0 default)==s))=true then(List.length (List.map enc ts)==q&&q==q&&decide ((q+List.length (List.drop 0 (List.take 1 [PV.agg [PV.str s,PV.int .i64 c]])))*24<=1099511627776)&&decide (q+List.length (List.drop 0 (List.take 1 [PV.agg [PV.str s,PV.int .i64 c]]))<=1099511627776))=true∧(if (PV.asStr (List.getD (PV.cells (enc y0)) 0 default)==s)=true then(List.length (List.map enc ts++List.drop 0 (List.take 1 [PV.agg [PV.str s,PV.int .i64 c]]))==q+List.length (List.drop 0 (List.take 1 [PV.agg [PV.str s,PV.int .i64 c]]))&&q+List.length (List.drop 0 (List.take 1 [PV.agg [PV.str s,PV.int .i64 c]]))==q+List.length (List.drop 0 (List.take 1 [PV.agg [PV.str s,PV.int .i64 c]]))&&decide ((q+List.length (List.drop 0 (List.take 1 [PV.agg [PV.str s,PV.int .i64 c]]))+List.length (List.drop 0 (List.take 1 [PV.agg [Sh.co Sh.str (List.getD (PV.cells (enc y0)) 0 default),PV.int .i64 (IntKind.wrap IntKind.i64 (PV.asInt (List.getD (PV.cells (enc y0)) (0+1) default)+c))]])))*24<=1099511627776)&&decide (q+List.length (List.drop 0 (List.take 1 [PV.agg [PV.str s,PV.int .i64 c]]))+List.length (List.drop 0 (List.take 1 [PV.agg [Sh.co Sh.str (List.getD (PV.cells (enc y0)) 0 default),PV.int .i64 (IntKind.wrap IntKind.i64 (PV.asInt (List.getD (PV.cells (enc y0)) (0+1) default)+c))]]))<=1099511627776))=true∧(At Yc 0 (Zt 0 ZV G) ZW 0 100 [(1,(.pv (.str s))),(2,(.pv (.int .i64 c))),(3,(.ptr 0 0)),(6,(.ptr 1 0)),(7,(.ptr 2 0)),(8,(.pv (.bool true))),(9,(.pv (.int .i64 (IntKind.wrap IntKind.i64 (i+1)))))] [(.obj (.box [(.pv (.int .i64 l.k)),(.pv (.sl 2 false (List.map enc l.t)))])),(.obj (.box [(.pv (.int .i64 0)),(.pv (.sl 0 true []))])),(.obj (.box [(.pv (.int .i64 l.k)),(.row 3 (q+List.length (List.drop 0 (List.take 1 [PV.agg [PV.str s,PV.int .i64 c]]))+List.length (List.drop 0 (List.take 1 [PV.agg [Sh.co Sh.str (List.getD (PV.cells (enc y0)) 0 default),PV.int .i64 (IntKind.wrap IntKind.i64 (PV.asInt (List.getD (PV.cells (enc y0)) (0+1) default)+c))]]))) 0 (q+List.length (List.drop 0 (List.take 1 [PV.agg [PV.str s,PV.int .i64 c]]))+List.length (List.drop 0 (List.take 1 [PV.agg [Sh.co Sh.str (List.getD (PV.cells (enc y0)) 0 default),PV.int .i64 (IntKind.wrap IntKind.i64 (PV.asInt (List.getD (PV.cells (enc y0)) (0+1) default)+c))]]))))])),(.obj (.row false 61 2 (List.map enc ts++List.drop 0 (List.take 1 [PV.agg [PV.str s,PV.int .i64 c]])++List.drop 0 (List.take 1 [PV.agg [Sh.co Sh.str (List.getD (PV.cells (enc y0)) 0 default),PV.int .i64 (IntKind.wrap IntKind.i64 (PV.asInt (List.getD (PV.cells (enc y0)) (0+1) default)+c))]]))))])else((List.length (List.map enc ts++List.drop 0 (List.take 1 [PV.agg [PV.str s,PV.int .i64 c]]))==q+List.length (List.drop 0 (List.take 1 [PV.agg [PV.str s,PV.int .i64 c]]))&&q+List.length (List.drop 0 (List.take 1 [PV.agg [PV.str s,PV.int .i64 c]]))==q+List.length (List.drop 0 (List.take 1 [PV.agg [PV.str s,PV.int .i64 c]]))&&decide ((q+List.length (List.drop 0 (List.take 1 [PV.agg [PV.str s,PV.int .i64 c]]))+List.length (List.drop 0 (List.take 1 [PV.agg [Sh.co Sh.str (List.getD (PV.cells (enc y0)) 0 default),Sh.co (Sh.int .i64) (List.getD (PV.cells (enc y0)) (0+1) default)]])))*24<=1099511627776)&&decide (q+List.length (List.drop 0 (List.take 1 [PV.agg [PV.str s,PV.int .i64 c]]))+List.length (List.drop 0 (List.take 1 [PV.agg [Sh.co Sh.str (List.getD (PV.cells (enc y0)) 0 default),Sh.co (Sh.int .i64) (List.getD (PV.cells (enc y0)) (0+1) default)]]))<=1099511627776))=true∧(At Yc 0 (Zt 0 ZV G) ZW 0 100 [(1,(.pv (.str s))),(2,(.pv (.int .i64 c))),(3,(.ptr 0 0)),(6,(.ptr 1 0)),(7,(.ptr 2 0)),(8,(.pv (.bool true))),(9,(.pv (.int .i64 (IntKind.wrap IntKind.i64 (i+1)))))] [(.obj (.box [(.pv (.int .i64 l.k)),(.pv (.sl 2 false (List.map enc l.t)))])),(.obj (.box [(.pv (.int .i64 0)),(.pv (.sl 0 true []))])),(.obj (.box [(.pv (.int .i64 l.k)),(.row 3 (q+List.length (List.drop 0 (List.take 1 [PV.agg [PV.str s,PV.int .i64 c]]))+List.length (List.drop 0 (List.take 1 [PV.agg [Sh.co Sh.str (List.getD (PV.cells (enc y0)) 0 default),Sh.co (Sh.int .i64) (List.getD (PV.cells (enc y0)) (0+1) default)]]))) 0 (q+List.length (List.drop 0 (List.take 1 [PV.agg [PV.str s,PV.int .i64 c]]))+List.length (List.drop 0 (List.take 1 [PV.agg [Sh.co Sh.str (List.getD (PV.cells (enc y0)) 0 default),Sh.co (Sh.int .i64) (List.getD (PV.cells (enc y0)) (0+1) default)]]))))])),(.obj (.row false 61 2 (List.map enc ts++List.drop 0 (List.take 1 [PV.agg [PV.str s,PV.int .i64 c]])++List.drop 0 (List.take 1 [PV.agg [Sh.co Sh.str (List.getD (PV.cells (enc y0)) 0 default),Sh.co (Sh.int .i64) (List.getD (PV.cells (enc y0)) (0+1) default)]]))))])))else(if (PV.asStr (List.getD (PV.cells (enc y0)) 0 default)==s)=true then(List.length (List.map enc ts)==q&&q==q&&decide ((q+List.length (List.drop 0 (List.take 1 [PV.agg [Sh.co Sh.str (List.getD (PV.cells (enc y0)) 0 default),PV.int .i64 (IntKind.wrap IntKind.i64 (PV.asInt (List.getD (PV.cells (enc y0)) (0+1) default)+c))]])))*24<=1099511627776)&&decide (q+List.length (List.drop 0 (List.take 1 [PV.agg [Sh.co Sh.str (List.getD (PV.cells (enc y0)) 0 default),PV.int .i64 (IntKind.wrap IntKind.i64 (PV.asInt (List.getD (PV.cells (enc y0)) (0+1) default)+c))]]))<=1099511627776))=true∧(At Yc 0 (Zt 0 ZV G) ZW 0 100 [(1,(.pv (.str s))),(2,(.pv (.int .i64 c))),(3,(.ptr 0 0)),(6,(.ptr 1 0)),(7,(.ptr 2 0)),(8,(.pv (.bool true))),(9,(.pv (.int .i64 (IntKind.wrap IntKind.i64 (i+1)))))] [(.obj (.box [(.pv (.int .i64 l.k)),(.pv (.sl 2 false (List.map enc l.t)))])),(.obj (.box [(.pv (.int .i64 0)),(.pv (.sl 0 true []))])),(.obj (.box [(.pv (.int .i64 l.k)),(.row 3 (q+List.length (List.drop 0 (List.take 1 [PV.agg [Sh.co Sh.str (List.getD (PV.cells (enc y0)) 0 default),PV.int .i64 (IntKind.wrap IntKind.i64 (PV.asInt (List.getD (PV.cells (enc y0)) (0+1) default)+c))]]))) 0 (q+List.length (List.drop 0 (List.take 1 [PV.agg [Sh.co Sh.str (List.getD (PV.cells (enc y0)) 0 default),PV.int .i64 (IntKind.wrap IntKind.i64 (PV.asInt (List.getD (PV.cells (enc y0)) (0+1) default)+c))]]))))])),(.obj (.row false 61 2 (List.map enc ts++List.drop 0 (List.take 1 [PV.agg [Sh.co Sh.str (List.getD (PV.cells (enc y0)) 0 default),PV.int .i64 (IntKind.wrap IntKind.i64 (PV.asInt (List.getD (PV.cells (enc y0)) (0+1) default)+c))]]))))])else((List.length (List.map enc ts)==q&&q==q&&decide ((q+List.length (List.drop 0 (List.take 1 [PV.agg [Sh.co Sh.str (List.getD (PV.cells (enc y0)) 0 default),Sh.co (Sh.int .i64) (List.getD (PV.cells (enc y0)) (0+1) default)]])))*24<=1099511627776)&&decide (q+List.length (List.drop 0 (List.take 1 [PV.agg [Sh.co Sh.str (List.getD (PV.cells (enc y0)) 0 default),Sh.co (Sh.int .i64) (List.getD (PV.cells (enc y0)) (0+1) default)]]))<=1099511627776))=true∧(At Yc 0 (Zt 0 ZV G) ZW 0 100 [(1,(.pv (.str s))),(2,(.pv (.int .i64 c))),(3,(.ptr 0 0)),(6,(.ptr 1 0)),(7,(.ptr 2 0)),(8,(.pv (.bool p))),(9,(.pv (.int .i64 (IntKind.wrap IntKind.i64 (i+1)))))] [(.obj (.box [(.pv (.int .i64 l.k)),(.pv (.sl 2 false (List.map enc l.t)))])),(.obj (.box [(.pv (.int .i64 0)),(.pv (.sl 0 true []))])),(.obj (.box [(.pv (.int .i64 l.k)),(.row 3 (q+List.length (List.drop 0 (List.take 1 [PV.agg [Sh.co Sh.str (List.getD (PV.cells (enc y0)) 0 default),Sh.co (Sh.int .i64) (List.getD (PV.cells (enc y0)) (0+1) default)]]))) 0 (q+List.length (List.drop 0 (List.take 1 [PV.agg [Sh.co Sh.str (List.getD (PV.cells (enc y0)) 0 default),Sh.co (Sh.int .i64) (List.getD (PV.cells (enc y0)) (0+1) default)]]))))])),(.obj (.row false 61 2 (List.map enc ts++List.drop 0 (List.take 1 [PV.agg [Sh.co Sh.str (List.getD (PV.cells (enc y0)) 0 default),Sh.co (Sh.int .i64) (List.getD (PV.cells (enc y0)) (0+1) default)]]))))])))else(if (PV.asStr (List.getD (PV.cells (enc y0)) 0 default)==s)=true then(List.length (List.map enc ts)==q&&q==q&&decide ((q+List.length (List.drop 0 (List.take 1 [PV.agg [Sh.co Sh.str (List.getD (PV.cells (enc y0)) 0 default),PV.int .i64 (IntKind.wrap IntKind.i64 (PV.asInt (List.getD (PV.cells (enc y0)) (0+1) default)+c))]])))*24<=1099511627776)&&decide (q+List.length (List.drop 0 (List.take 1 [PV.agg [Sh.co Sh.str (List.getD (PV.cells (enc y0)) 0 default),PV.int .i64 (IntKind.wrap IntKind.i64 (PV.asInt (List.getD (PV.cells (enc y0)) (0+1) default)+c))]]))<=1099511627776))=true∧(At Yc 0 (Zt 0 ZV G) ZW 0 100 [(1,(.pv (.str s))),(2,(.pv (.int .i64 c))),(3,(.ptr 0 0)),(6,(.ptr 1 0)),(7,(.ptr 2 0)),(8,(.pv (.bool true))),(9,(.pv (.int .i64 (IntKind.wrap IntKind.i64 (i+1)))))] [(.obj (.box [(.pv (.int .i64 l.k)),(.pv (.sl 2 false (List.map enc l.t)))])),(.obj (.box [(.pv (.int .i64 0)),(.pv (.sl 0 true []))])),(.obj (.box [(.pv (.int .i64 l.k)),(.row 3 (q+List.length (List.drop 0 (List.take 1 [PV.agg [Sh.co Sh.str (List.getD (PV.cells (enc y0)) 0 default),PV.int .i64 (IntKind.wrap IntKind.i64 (PV.asInt (List.getD (PV.cells (enc y0)) (0+1) default)+c))]]))) 0 (q+List.length (List.drop 0 (List.take 1 [PV.agg [Sh.co Sh.str (List.getD (PV.cells (enc y0)) 0 default),PV.int .i64 (IntKind.wrap IntKind.i64 (PV.asInt (List.getD (PV.cells (enc y0)) (0+1) default)+c))]]))))])),(.obj (.row false 61 2 (List.map enc ts++List.drop 0 (List.take 1 [PV.agg [Sh.co Sh.str (List.getD (PV.cells (enc y0)) 0 default),PV.int .i64 (IntKind.wrap IntKind.i64 (PV.asInt (List.getD (PV.cells (enc y0)) (0+1) default)+c))]]))))])else((List.length (List.map enc ts)==q&&q==q&&decide ((q+List.length (List.drop 0 (List.take 1 [PV.agg [Sh.co Sh.str (List.getD (PV.cells (enc y0)) 0 default),Sh.co (Sh.int .i64) (List.getD (PV.cells (enc y0)) (0+1) default)]])))*24<=1099511627776)&&decide (q+List.length (List.drop 0 (List.take 1 [PV.agg [Sh.co Sh.str (List.getD (PV.cells (enc y0)) 0 default),Sh.co (Sh.int .i64) (List.getD (PV.cells (enc y0)) (0+1) default)]]))<=1099511627776))=true∧(At Yc 0 (Zt 0 ZV G) ZW 0 100 [(1,(.pv (.str s))),(2,(.pv (.int .i64 c))),(3,(.ptr 0 0)),(6,(.ptr 1 0)),(7,(.ptr 2 0)),(8,(.pv (.bool p))),(9,(.pv (.int .i64 (IntKind.wrap IntKind.i64 (i+1)))))] [(.obj (.box [(.pv (.int .i64 l.k)),(.pv (.sl 2 false (List.map enc l.t)))])),(.obj (.box [(.pv (.int .i64 0)),(.pv (.sl 0 true []))])),(.obj (.box [(.pv (.int .i64 l.k)),(.row 3 (q+List.length (List.drop 0 (List.take 1 [PV.agg [Sh.co Sh.str (List.getD (PV.cells (enc y0)) 0 default),Sh.co (Sh.int .i64) (List.getD (PV.cells (enc y0)) (0+1) default)]]))) 0 (q+List.length (List.drop 0 (List.take 1 [PV.agg [Sh.co Sh.str (List.getD (PV.cells (enc y0)) 0 default),Sh.co (Sh.int .i64) (List.getD (PV.cells (enc y0)) (0+1) default)]]))))])),(.obj (.row false 61 2 (List.map enc ts++List.drop 0 (List.take 1 [PV.agg [Sh.co Sh.str (List.getD (PV.cells (enc y0)) 0 default),Sh.co (Sh.int .i64) (List.getD (PV.cells (enc y0)) (0+1) default)]]))))])))))else(if (!p)=true then(List.length (List.map enc ts)==q&&q==q&&decide ((q+List.length (List.drop 0 (List.take 1 [PV.agg [PV.str s,PV.int .i64 c]])))*24<=1099511627776)&&decide (q+List.length (List.drop 0 (List.take 1 [PV.agg [PV.str s,PV.int .i64 c]]))<=1099511627776))=true∧(At Yc 0 (Zt 0 ZV G) ZW 1 100 [(6,(.ptr 0 0)),(7,(.ptr 1 0)),(11,(.pv (.int .i64 0))),(12,(.pv (.int .i64 0)))] [(.obj (.box [(.pv (.int .i64 0)),(.pv (.sl 0 true []))])),(.obj (.box [(.pv (.int .i64 l.k)),(.row 2 (q+List.length (List.drop 0 (List.take 1 [PV.agg [PV.str s,PV.int .i64 c]]))) 0 (q+List.length (List.drop 0 (List.take 1 [PV.agg [PV.str s,PV.int .i64 c]]))))])),(.obj (.row false 61 2 (List.map enc ts++List.drop 0 (List.take 1 [PV.agg [PV.str s,PV.int .i64 c]]))))])else(At Yc 0 (Zt 0 ZV G) ZW 1 100 [(6,(.ptr 0 0)),(7,(.ptr 1 0)),(11,(.pv (.int .i64 0))),(12,(.pv (.int .i64 0)))] [(.obj (.box [(.pv (.int .i64 0)),(.pv (.sl 0 true []))])),(.obj (.box [(.pv (.int .i64 l.k)),(.row 2 q 0 q)])),(.obj (.row false 61 2 (List.map enc ts)))]))):At Yc 0 (Zt 0 ZV G) ZW 0 100 [(1,.pv (.str s)),(2,.pv (.int .i64 c)),(3,.ptr 0 0),(6,.ptr 1 0),(7,.ptr 2 0),(8,.pv (.bool p)),(9,.pv (.int .i64 i))] [.obj (.box [.pv (.int .i64 l.k),.pv (enc l.t)]),.obj (.box [.pv (.int .i64 0),.pv (.sl 0 true [])]),.obj (.box [.pv (.int .i64 l.k),.row 3 q 0 q]),.obj (.row false 61 2 (ts.map enc))]:=At.to (.lit (.ask (.req (.abs (Coef) (fun YY=>AV.pv (PV.rptr (PV.cells ((enc) YY)))) (.lit (.ask (.lit (.lit (.lit (.lit (.lit (.ask (.lit (.lit (.req (.lit (.ask (.lit (.lit (.lit (.req (.lit (.nil)))))) (.lit (.lit (.req (.lit (.nil)))))))))) (.lit (.ask (.lit (.lit (.lit (.req (.lit (.nil)))))) (.lit (.lit (.req (.lit (.nil))))))))))))) (.lit (.lit (.lit (.lit (.lit (.lit (.ask (.lit (.lit (.lit (.req (.lit (.nil)))))) (.lit (.lit (.req (.lit (.nil)))))))))))))))) (.ask (.lit (.lit (.req (.nil)))) (.nil)))) h (by kernel_rfl)
end Go.Pl
namespace Go.Pl
open Go.RowKit
open Enc (enc dec is)
open EncL (encL decL isL)
theorem c2r{ts:List Coef}{i:Nat}(h:i<ts.length):ts.getD i ⟨⟨[]⟩,0⟩=ts[i]:=by simp[List.getD,h]
theorem b3t(l:Lin)(s:List UInt8)(c:Int)(q:Nat)(ho:q<=2000000): ∀ (m i j:Nat) (ts:List Coef),m+i=q->ts.length=q->j<=i ->
  At Yc 0 (Zt 0 ZV (fun r=>r=AR ⟨l.k,(K3 m i j ts).2,(K3 m i j ts).1⟩ 0 [])) ZW 1 100 [(6,.ptr 0 0),(7,.ptr 1 0),(11,.pv (.int .i64 j)),(12,.pv (.int .i64 i))] [.obj (.box [.pv (.int .i64 0),.pv (.sl 0 true [])]),.obj (.box [.pv (.int .i64 l.k),.row 2 q 0 q]),.obj (.row false 61 2 (ts.map enc))]:=by
 intro m
 induction m with
 | zero=>
  intro i j ts hm hts hji
  refine Rl l s c j i q ts (ZR (by simp;omega) ?_)
  refine⟨by simp[hts];omega,?_⟩
  subst hts
  simp only[Int.toNat_natCast,Nat.zero_add]
  rfl
 | succ m ih=>
  intro i j ts hm hts hji
  have hi':i<ts.length:=by omega
  have hj':j<ts.length:=by omega
  refine Rl l s c j i q ts ?_
  simp only[Ni enc hi',Ni enc hj']
  refine ZN (by simp;omega) ⟨by simp;omega,by simp;omega,rfl,?_⟩
  rw[K3,c2r hi']
  by_cases hz:ts[i].c=0
  ·refine ZR (by show ¬ (ts[i].c != 0)=true;simp[hz]) ?_
   rw[next (by omega),if_pos hz]
   exact ih (i+1) j ts (by omega) hts (by omega)
  ·refine ZN (by show(ts[i].c != 0)=true;simp[hz]) ⟨by simp;omega,by simp;omega,rfl,by simp;omega,?_,?_⟩
   ·simp only[List.length_map,hts,beq_self_eq_true,Bool.true_and,Nat.zero_add,Int.toNat_natCast,decide_eq_true (show j<q by omega)]
    rfl
   ·rw[Nat.zero_add,Int.toNat_natCast,b4l,next (by omega),next (by omega),if_neg hz]
    exact ih (i+1) (j+1) (ts.set j ts[i]) (by omega) (by simp[hts]) (by omega)
theorem D7(l:Lin)(s:List UInt8)(c:Int)(o:List Coef)(ho:o.length<=2000000):
  At Yc 0 (Zt 0 ZV (fun r=>r=AR (T9 l.k o) 0 [])) ZW 1 100 [(6,.ptr 0 0),(7,.ptr 1 0),(11,.pv (.int .i64 0)),(12,.pv (.int .i64 0))] [.obj (.box [.pv (.int .i64 0),.pv (.sl 0 true [])]),.obj (.box [.pv (.int .i64 l.k),.row 2 o.length 0 o.length]),.obj (.row false 61 2 (o.map enc))]:=
 b3t l s c o.length ho o.length 0 0 o (by omega) rfl (by omega)
theorem b1r(l:Lin)(s:List UInt8)(c:Int)(hl:l.t.length<=1000000): ∀ (m i:Nat) (p:Bool) (q:Nat) (ts:List Coef),m+i=l.t.length->q=ts.length->(p=false->ts.length<=i)->ts.length<=i+1 ->
  At Yc 0 (Zt 0 ZV (fun r=>r=AR (T9 l.k (ts++X9 ⟨s⟩ c p (l.t.drop i))) 0 [])) ZW 0 100 [(1,.pv (.str s)),(2,.pv (.int .i64 c)),(3,.ptr 0 0),(6,.ptr 1 0),(7,.ptr 2 0),(8,.pv (.bool p)),(9,.pv (.int .i64 i))]
   [.obj (.box [.pv (.int .i64 l.k),.pv (enc l.t)]),.obj (.box [.pv (.int .i64 0),.pv (.sl 0 true [])]),.obj (.box [.pv (.int .i64 l.k),.row 3 q 0 q]),.obj (.row false 61 2 (ts.map enc))]:=by
 intro m
 induction m with
 | zero=>
  intro i p q ts hm hq h1 h2
  refine Ro l s c p i q ts (ZR (Xq (by omega)) ?_)
  rw[List.drop_of_length_le (show l.t.length<=i by omega)]
  refine XU (fun hp=> ?_) fun hp=> ?_
  ·subst hp
   refine⟨by simp[hq];omega,?_⟩
   have h:=D7 l s c (ts++[⟨⟨s⟩,c⟩]) (by simp;omega)
   rw[List.map_append,List.length_append,<- hq]at h
   rw[X9]
   exact h
  ·subst hp
   have h:=D7 l s c ts (by omega)
   rw[<- hq]at h
   rw[X9,if_pos rfl,List.append_nil]
   exact h
 | succ m ih=>
  intro i p q ts hm hq h1 h2
  have hlt:i<l.t.length:=by omega
  refine Ro l s c p i q ts (ZN (Y3 hlt) ⟨Zu hlt rfl,ZB hlt ?_⟩)
  rw[List.drop_eq_getElem_cons hlt,next (by omega)]
  have key : ∀ (p':Bool) (add:List Coef),add.length<=2->(p'=false->(ts++add).length<=i+1)->(ts++add).length<=i+2->ts++X9 ⟨s⟩ c p (l.t[i]::l.t.drop (i+1))=(ts++add)++X9 ⟨s⟩ c p' (l.t.drop (i+1)) ->
    At Yc 0 (Zt 0 ZV (fun r=>r=AR (T9 l.k (ts++X9 ⟨s⟩ c p (l.t[i]::l.t.drop (i+1)))) 0 [])) ZW 0 100 [(1,.pv (.str s)),(2,.pv (.int .i64 c)),(3,.ptr 0 0),(6,.ptr 1 0),(7,.ptr 2 0),(8,.pv (.bool p')),(9,.pv (.int .i64 ((i+1:Nat):Int)))]
     [.obj (.box [.pv (.int .i64 l.k),.pv (enc l.t)]),.obj (.box [.pv (.int .i64 0),.pv (.sl 0 true [])]),.obj (.box [.pv (.int .i64 l.k),.row 3 (q+add.length) 0 (q+add.length)]),.obj (.row false 61 2 (ts.map enc++add.map enc))]:=by
   intro p' add h3 h4 h5 h6
   rw[h6,<- List.map_append]
   exact ih (i+1) p' (q+add.length) (ts++add) (by omega) (by simp[hq]) h4 h5
  generalize l.t[i]=y at key ⊢
  obtain⟨⟨yv⟩,yc⟩:=y
  subst hq
  refine XU (fun hp=> ?_) fun hp=> ?_
  ·subst hp
   have hle:=h1 rfl
   refine XU (fun hb=> ?_) fun hb=> ?_
   ·have hb:(Op.bytesLess yv s||yv==s)=false:=hb
    have hlt2:s<yv:=by
     simp only[Yr,Bool.or_eq_false_iff,decide_eq_false_iff_not,beq_eq_false_iff_ne]at hb
     exact tri hb.1 hb.2
    have hne : ¬ yv=s:=fun e=>by rw[e]at hlt2;exact List.lt_irrefl _ hlt2
    refine⟨by simp;omega,Kb (fun h=>absurd h hne) fun _=>⟨by simp;omega,?_⟩⟩
    have:=key true [⟨⟨s⟩,c⟩,⟨⟨yv⟩,yc⟩] (by simp) (fun h=>by cases h) (by simp;omega) (by rw[JV,if_pos hlt2];simp)
    rw[List.append_assoc]
    exact this
   ·have hb:(Op.bytesLess yv s||yv==s)=true:=hb
    have hnl : ¬ s<yv:=by
     simp only[Yr,Bool.or_eq_true,decide_eq_true_eq,beq_iff_eq]at hb
     rcases hb with h|h
     ·exact List.lt_asymm h
     ·rw[h];exact List.lt_irrefl _
    refine Kb (fun h=> ?_) fun h=> ?_
    ·have h:yv=s:=h
     subst h
     refine⟨by simp;omega,?_⟩
     exact key true [⟨⟨yv⟩,Db (yc+c)⟩] (by simp) (fun h=>by cases h) (by simp;omega) (by rw[JV,if_neg hnl,if_pos rfl];simp)
    ·have h:yv≠s:=h
     refine⟨by simp;omega,?_⟩
     exact key false [⟨⟨yv⟩,yc⟩] (by simp) (fun _=>by simp;omega) (by simp;omega) (by rw[JV,if_neg hnl,if_neg (by rw[GI];exact h)];simp)
  ·subst hp
   refine Kb (fun h=> ?_) fun h=> ?_
   ·have h:yv=s:=h
    subst h
    refine⟨by simp;omega,?_⟩
    exact key true [⟨⟨yv⟩,Db (yc+c)⟩] (by simp) (fun h=>by cases h) (by simp;omega) (by rw[a2n,if_pos rfl];simp)
   ·have h:yv≠s:=h
    refine⟨by simp;omega,?_⟩
    exact key true [⟨⟨yv⟩,yc⟩] (by simp) (fun h=>by cases h) (by simp;omega) (by rw[a2n,if_neg (by rw[GI];exact h)];simp)
theorem a9v(l:Lin)(s:List UInt8)(c:Int)(hl:l.t.length<=1000000):Ze Yc 0 (Zt 0 ZV (fun r=>r=AR (Ct l ⟨s⟩ c) 0 [])) ZW [] (YV Ou [.pv (enc l),.pv (.str s),.pv (enc c)] []):=by
 refine c4k l s c (a5p l s c false 0 ?_)
 show if _ then _ else(if _ then At Yc 0 (Zt 0 ZV (fun r=>r=AR (T9 l.k (X9 ⟨s⟩ c false l.t)) 0 [])) _ _ _ _ _ else _)
 by_cases h0:l.t=[]
 ·refine ZR (by simp[h0]) (ZN rfl ?_)
  have h:=D7 l s c [⟨⟨s⟩,c⟩] (by simp)
  rw[h0,X9]
  exact h
 ·have hlt:0<l.t.length:=List.length_pos_iff.2 h0
  refine ZN (by simp;omega) ⟨by simp[Enc.sz];omega,ZB hlt ?_⟩
  have ed:l.t=l.t[0]::l.t.drop 1:=by
   have:=List.drop_eq_getElem_cons hlt
   rwa [List.drop_zero]at this
  have key : ∀ (p':Bool) (add:List Coef),add.length<=2->(p'=false->add.length<=1)->X9 ⟨s⟩ c false (l.t[0]::l.t.drop 1)=add++X9 ⟨s⟩ c p' (l.t.drop 1) ->
    At Yc 0 (Zt 0 ZV (fun r=>r=AR (T9 l.k (X9 ⟨s⟩ c false l.t)) 0 [])) ZW 0 100 [(1,.pv (.str s)),(2,.pv (.int .i64 c)),(3,.ptr 0 0),(6,.ptr 1 0),(7,.ptr 2 0),(8,.pv (.bool p')),(9,.pv (.int .i64 ((0+1:Nat):Int)))]
     [.obj (.box [.pv (.int .i64 l.k),.pv (enc l.t)]),.obj (.box [.pv (.int .i64 0),.pv (.sl 0 true [])]),.obj (.box [.pv (.int .i64 l.k),.row 3 add.length 0 add.length]),.obj (.row false 61 2 (add.map enc))]:=by
   intro p' add h3 h4 h6
   have h7:X9 ⟨s⟩ c false l.t=add++X9 ⟨s⟩ c p' (l.t.drop 1):=by rw[<- h6,<- ed]
   rw[h7]
   exact b1r l s c hl (l.t.length - 1) (0+1) p' add.length add (by omega) rfl (fun h=>h4 h) (by omega)
  rw[show IntKind.wrap IntKind.i64 (0+1)=((0+1:Nat):Int)from rfl]
  generalize l.t[0]=y at key ⊢
  obtain⟨⟨yv⟩,yc⟩:=y
  refine ZN rfl ?_
  refine XU (fun hb=> ?_) fun hb=> ?_
  ·have hb:(Op.bytesLess yv s||yv==s)=false:=hb
   have hlt2:s<yv:=by
    simp only[Yr,Bool.or_eq_false_iff,decide_eq_false_iff_not,beq_eq_false_iff_ne]at hb
    exact tri hb.1 hb.2
   have hne : ¬ yv=s:=fun e=>by rw[e]at hlt2;exact List.lt_irrefl _ hlt2
   refine Kb (fun h=>absurd h hne) fun _=> ?_
   exact key true [⟨⟨s⟩,c⟩,⟨⟨yv⟩,yc⟩] (by simp) (fun h=>by cases h) (by rw[JV,if_pos hlt2];simp)
  ·have hb:(Op.bytesLess yv s||yv==s)=true:=hb
   have hnl : ¬ s<yv:=by
    simp only[Yr,Bool.or_eq_true,decide_eq_true_eq,beq_iff_eq]at hb
    rcases hb with h|h
    ·exact List.lt_asymm h
    ·rw[h];exact List.lt_irrefl _
   refine Kb (fun h=> ?_) fun h=> ?_
   ·have h:yv=s:=h
    subst h
    exact key true [⟨⟨yv⟩,Db (yc+c)⟩] (by simp) (fun h=>by cases h) (by rw[JV,if_neg hnl,if_pos rfl];simp)
   ·have h:yv≠s:=h
    exact key false [⟨⟨yv⟩,yc⟩] (by simp) (fun _=>by simp) (by rw[JV,if_neg hnl,if_neg (by rw[GI];exact h)];simp)
theorem a8i: ∀ args os,JJ args os=true->Ze Yc os.length (Zt os.length ZV fun r=>r=Jq args os) ZW [] (YV Ou args os):=by
 intro args os h
 unfold JJ at h
 split at h
 ·rename_i l s c
  simp only[Bool.and_eq_true,decide_eq_true_eq]at h
  obtain⟨hl,h1⟩:=h
  obtain⟨l,rfl⟩:=YB hl
  rw[Enc.dec_enc]at h1
  have ev:Jq [.pv (enc l),.pv (.str s),.pv (.int .i64 c)] []=AR (Ct l ⟨s⟩ c) 0 []:=by
   show AR (Ct (dec (enc l:PV)) ⟨s⟩ c) 0 []=_
   rw[Enc.dec_enc]
  rw[ev]
  exact a9v l s c h1
 ·cases h
theorem QM.rfl(ps:List PV):QM ps ps:=⟨Eq.refl _,fun j x y hx hy Φ v h=>by rw[hx]at hy;cases hy;exact h⟩
theorem LR.frz_av(r:LR):(frz (r.av 0)).run (Y7 [r.ob])=some (enc r.view,[.obj (.row true 61 2 (r.ts.map enc))]):=by
 have:(PV.agg [.int .i64 r.k,.sl 2 false (List.drop 0 (List.take r.w (r.ts.map enc)))])=enc r.view:=by
  rw[List.drop_zero,<- List.map_take];rfl
 rw[<- this]
 simp[frz,UL,HM.bind,HM.run,Y7,LR.av,LR.ob]
theorem a6l{P:Program}{f:Nat}(h:Yf P f JJ Jq):Zx P f (fun x:Lin×Str×Int×Unit=>decide (x.1.t.length<=1000000)) (fun x:Lin×Str×Int×Unit=>VD x.1 x.2.1 x.2.2.1):=Zx.of_own h fun a ha=>by
 obtain⟨l,⟨s⟩,c,⟨⟩⟩:=a
 have ha:l.t.length<=1000000:=by simpa using ha
 refine⟨(Ct l ⟨s⟩ c).av 0,[(Ct l ⟨s⟩ c).ob],_,_,?_,?_,LR.frz_av _,?_⟩
 ·show(VV Lin (enc l)&&decide ((dec (enc l:PV):Lin).t.length<=1000000))=true
  rw[Yb,Enc.dec_enc,decide_eq_true ha];rfl
 ·show AR (Ct (dec (enc l:PV)) ⟨s⟩ c) 0 []=_
  rw[Enc.dec_enc];rfl
 ·rw[a1t];exact .refl _
structure BoxT where
 v:List Str
 m:Int
 deriving DecidableEq
instance:Enc BoxT where
 sz:=2
 enc x:=.agg [enc x.v,enc x.m]
 dec | .agg [a,b]=>⟨dec a,dec b⟩|_=>⟨[],0⟩
 is | .agg [a,b]=>is (List Str) a&&is Int b|_=>false
 is_enc v:=by simp
 dec_enc v:=by simp
 sub p h:=by
  cases p with
  | agg xs=>
   match xs,h with
   | [a,b],h=>
    simp only[Bool.and_eq_true]at h
    exact .agg (.cons (Enc.sub a h.1).2 (.cons (Enc.sub b h.2).2 .nil))
  | _=>cases h
@[simp] theorem d2g (a b : PV) : is BoxT (.agg [a, b]) = (is (List Str) a && is Int b) := rfl
@[simp] theorem d1y (a b : PV) : (dec (.agg [a, b]) : BoxT) = ⟨dec a, dec b⟩ := rfl
structure Mono where
 c:Int
 v:List Str
 deriving DecidableEq
instance:Enc Mono where
 sz:=2
 enc x:=.agg [enc x.c,enc x.v]
 dec | .agg [a,b]=>⟨dec a,dec b⟩|_=>⟨0,[]⟩
 is | .agg [a,b]=>is Int a&&is (List Str) b|_=>false
 is_enc v:=by simp
 dec_enc v:=by simp
 sub p h:=by
  cases p with
  | agg xs=>
   match xs,h with
   | [a,b],h=>
    simp only[Bool.and_eq_true]at h
    exact .agg (.cons (Enc.sub a h.1).2 (.cons (Enc.sub b h.2).2 .nil))
  | _=>cases h
@[simp] theorem d2p (a b : PV) : is Mono (.agg [a, b]) = (is Int a && is (List Str) b) := rfl
@[simp] theorem d0z (a b : PV) : (dec (.agg [a, b]) : Mono) = ⟨dec a, dec b⟩ := rfl
structure NilS where
 deriving DecidableEq
instance:Enc NilS where
 sz:=1
 enc _:=.sl 0 true []
 dec _:=⟨⟩
 is | .sl 0 true []=>true|_=>false
 is_enc _:=rfl
 dec_enc _:=rfl
 sub p h:=by
  cases p with
  | sl s t xs=>
   cases xs with
   | nil=>cases s with
    | zero=>cases t with
     | true=>exact .refl _
     | false=>cases h
    | succ s=>cases h
   | cons x xs=>cases s <;> cases t <;> cases h
  | _=>cases h
def Zr{α:Type}(l:List α):Bool:=decide (l.length<=9223372036854775807)
def XX(l:List Str):Bool:=Zr l&&l.all fun s=>decide (s.s.length<=281474976710656)
def ZH(b:BoxT):Bool:=XX b.v
def Hl(m:Int):List Str->Int->Option Int
 | [],n=>some n
 | _::r,n=>if n*(m+1)>20000 then none else Hl m r (n*(m+1))
def Y4(b:BoxT):Bool:=b.v.all ZG&&decide b.v.Nodup&&(b.v.isEmpty||decide (b.m<20000))&&decide (0<=b.m)&&(Hl b.m b.v 1).isSome
def Zq(vs:List Str)(p:List Int):List Coef:=List.zipWith (fun v n=>⟨v,n⟩) vs p
def Zg(l:Lin):List Str:=l.t.map (·.v)
def YQ(vs:List Str)(ns:List Str):Bool:=ns.all fun s=>vs.contains s
def Zv(b:BoxT)(fs:List Fact)(ok:Bool)(ns:List Str):Int:=
 if !Y4 b || !YC fs || !ok then 1 else if YQ b.v (ns++fs.flatMap fun f=>Zg f.l)then 0 else 7
def Y1(m:Int):Nat->List Int->Option (List Int)
 | 0,_=>none
 | k+1,p=>if p.getD k 0=m then Y1 m k (p.set k 0)else some (p.set k (p.getD k 0+1))
def VY(m:Int)(p:List Int):Option (List Int):=Y1 m p.length p
def walkP(m:Int):Nat->List Int->List (List Int)
 | 0,_=>[]
 | f+1,p=>p::(match VY m p with|none=>[]|some q=>walkP m f q)
def Wu(vs:List Str):List Int:=vs.map fun _=>0
def c9f(b:BoxT):List (List Int):=walkP b.m 20001 (Wu b.v)
def XJ(vs:List Str)(fs:List Fact)(p:List Int):Bool:=fs.all fun f=>Yh f (Zq vs p)
def ZY(b:BoxT)(fs:List Fact):List (List Int):=(c9f b).filter (XJ b.v fs)
def Zo(b:BoxT)(fs:List Fact):List (List Int)×Int:=if Zv b fs true []=0 then(ZY b fs,0)else([],Zv b fs true [])
def D8(b:BoxT)(fs:List Fact):Int×Int:=(((Zo b fs).1.length:Int),(Zo b fs).2)
def Jy:List AV->List AObj->Bool
 | [.pv (.str s),.ptr 0 0],[.box [.pv v,.pv (.int .i64 m)]]=>VV (List Str) v&&Zr (dec v:List Str)
 | _,_=>false
def Bl:List AV->List AObj->AV×List AObj×List AObj
 | [.pv (.str s),_],[.box [.pv v,.pv (.int .i64 m)]]=>(.pv (.bool (!((dec v:List Str).contains ⟨s⟩))),[.box [.pv v,.pv (.int .i64 m)]],[])
 | _,_=>VM
def KS(xs:List PV):List Str:=dec (.sl 1 false xs)
def TF(n m:Nat)(xs:List PV):Bool:=m==n&&xs.length==n&&VV (List Str) (.sl 1 false xs)&&Zr (KS xs)
def WH(g:Nat):List AV->List AObj->Bool
 | [.row 0 n 0 m,.fn g' [] [.ptr 1 0]],[.row false ty 1 xs,.box [.pv v,.pv (.int .i64 k)]]=>g'==g&&ty==9&&TF n m xs&&VV (List Str) v&&Zr (dec v:List Str)
 | [.pv (.sl 0 true []),.fn g' [] [.ptr 0 0]],[.box [.pv v,.pv (.int .i64 k)]]=>g'==g&&VV (List Str) v&&Zr (dec v:List Str)
 | _,_=>false
def Ba:List AV->List AObj->AV×List AObj×List AObj
 | _,[.row fz ty sz xs,.box [.pv v,.pv (.int .i64 k)]]=>(.pv (.int .i64 (ZI (fun s:Str=> !((dec v:List Str).contains s)) (KS xs))),[.row fz ty sz xs,.box [.pv v,.pv (.int .i64 k)]],[])
 | _,[.box [.pv v,.pv (.int .i64 k)]]=>(.pv (.int .i64 (-1)),[.box [.pv v,.pv (.int .i64 k)]],[])
 | _,_=>VM
def Mc:List AV->List AObj->AV×List AObj×List AObj
 | _,[.row fz ty sz xs,.box [.pv v,.pv (.int .i64 k)]]=>(.pv (.bool ((KS xs).any fun s=> !((dec v:List Str).contains s))),[.row fz ty sz xs,.box [.pv v,.pv (.int .i64 k)]],[])
 | _,[.box [.pv v,.pv (.int .i64 k)]]=>(.pv (.bool false),[.box [.pv v,.pv (.int .i64 k)]],[])
 | _,_=>VM
def JN:List AV->List AObj->Bool
 | [.pv a],[]=>VV Lin a&& !(dec a:Lin).t.isEmpty&&decide ((dec a:Lin).t.length<=1000000)
 | _,_=>false
def Jn(ns:List Str):AV×List AObj×List AObj:=(.row 0 ns.length 0 ns.length,[],[.row false 9 1 (ns.map enc)])
def Ea(p:PV):Lin:=dec p
def G8:List AV->List AObj->AV×List AObj×List AObj
 | [.pv a],_=>Jn (Zg (Ea a))
 | _,_=>VM
def Jo:List AV->List AObj->Bool
 | [.pv a],[]=>VV Lin a&&(dec a:Lin).t.isEmpty
 | _,_=>false
def CY:List AV->List AObj->AV×List AObj×List AObj:=fun _ _=>(.pv (.sl 0 true []),[],[])
def UM:List AV->List AObj->Bool
 | [.pv b,.pv f,.pv (.bool ok),.row 0 n 0 m],[.row false ty 1 xs]=>VV BoxT b&&VV (List Fact) f&&ty==9&&TF n m xs&&decide (n<=1000)&& !xs.isEmpty&&ZH (dec b)&&Zf (dec f)&&decide ((dec f:List Fact).length<=100)&&decide (xs.length<=1000)
 | _,_=>false
def a1g(p:PV):BoxT:=dec p
def BX(p:PV):List Fact:=dec p
def ckV(b:BoxT)(fs:List Fact)(ok:Bool)(ns:List Str):List Str:=if !Y4 b || !YC fs || !ok then ns else ns++fs.flatMap fun f=>Zg f.l
def KE:List AV->List AObj->AV×List AObj×List AObj
 | [.pv b,.pv f,.pv (.bool ok),_],[.row fz ty sz xs]=>(.pv (.int .i64 (Zv (a1g b) (BX f) ok (KS xs))),[.row false ty sz ((ckV (a1g b) (BX f) ok (KS xs)).map enc)],[])
 | _,_=>VM
def Xn:List AV->List AObj->Bool
 | [.pv (.agg [v,.int .i64 m]),.pv f],[]=>VV (List Str) v&&VV (List Fact) f
 | _,_=>false
def Vd:List AV->List AObj->AV×List AObj×List AObj
 | [.pv (.agg [v,.int .i64 m]),.pv f],_=>(.fn 177 [] [.ptr 0 0,.ptr 1 0],[],[.box [.pv v,.pv (.int .i64 m)],.box [.pv f]])
 | _,_=>VM
def Sa(xs:List PV):List Int:=dec (.sl 1 false xs)
def Wo:List AV->List AObj->Bool
 | [.pv (.agg [v,.int .i64 k]),.row 0 n 0 m],[.row false ty 1 xs]=>m==n&&xs.length==n&&ty==3&&VV (List Int) (.sl 1 false xs)&&VV (List Str) v&&decide ((dec v:List Str).length<=1000)&&decide (n<=1000)
 | _,_=>false
def Ur:List AV->List AObj->AV×List AObj×List AObj
 | [.pv (.agg [v,.int .i64 k]),_],[.row fz ty sz xs]=>(.pv (.sl 2 false ((Zq (dec v) (Sa xs)).map enc)),[.row false ty sz xs],[])
 | _,_=>VM
end Go.Pl
namespace Go.Pl
open Go.RowKit
open Enc (enc dec is)
open EncL (encL decL isL)
set_option maxRecDepth 100000
def V4:IC:=(Zh [Za 4 (.mv (Zy 0)) 0] (.seq (Zh [Za 6 (Zc 0) 0,Za 7 (.len 1 (.t 6)) 0,Za 8 (.mv (Zy 0)) 0] (.block 0 (.loop [8,7,1,0] (Zh [Za 9 (ZA .lss (.t 8) (.t 7)) 0] (.seq (.cond (.t 9) .skip (.exit 0)) (.seq (.block 1 (Zh [Za 10 (Zc 8) 0,Za 5 (Zc 10) 0] (Zh [Za 11 (Zc 1) 0,Za 12 (Zc 0) 0,Za 13 (Zc 5) 0,Za 14 (.iaddr 1 (.t 12) (.t 13)) 0,Za 15 (.load false [.str] (.t 14)) 0,Za 16 (ZA .eql (.t 11) (.t 15)) 0] (.cond (.t 16) (Zh [Za 17 (Zc 5) 0,Za 4 (Zc 17) 0] .ret) .skip)))) (.reg [Za 18 (ZA .add (.t 8) (Zy 1)) 0,Za 8 (Zc 18) 0] none))))))) (Zh [Za 4 (.mv (.c (.int .i64 (-1)))) 0] .ret)))
def Ue:List IRes:=[(.tmp 4)]
abbrev a6i:Nat:=19
def Qk:ZO:=Xc []
theorem b5b{G:PV->Prop}(l:List Str)(s:List UInt8)(h:At Qk 0 (Zb Ue G) V4 0 19 [(0,(.pv (.sl 1 false (List.map enc l)))),(1,(.pv (.str s))),(7,(.pv (.int .i64 (↑(List.length (List.map enc l)):Int)))),(8,(.pv (.int .i64 0)))] []):Ze Qk 0 (Zb Ue G) V4 [] (Yk 19 [enc l,.str s]):=Ze.tp (.nil) h (by kernel_rfl)
theorem RV{G:PV->Prop}(l:List Str)(s:List UInt8)(i:Int)(h:if (decide (i<(↑(List.length l):Int)))=true then(decide (0<=i)&&decide (Int.toNat i<List.length (List.map enc l))&&Enc.sz Str==1)=true∧(∃ y0:Str,AV.pv (PV.rptr (PV.cells (List.getD (List.map enc l) (Int.toNat i) default)))=AV.pv (PV.rptr (PV.cells ((enc) y0)))∧(if (s==PV.asStr (List.getD (PV.cells (enc y0)) 0 default))=true then G ((.int .i64 i))else(At Qk 0 (Zb Ue G) V4 0 19 [(0,(.pv (.sl 1 false (List.map enc l)))),(1,(.pv (.str s))),(7,(.pv (.int .i64 (↑(List.length l):Int)))),(8,(.pv (.int .i64 (IntKind.wrap IntKind.i64 (i+1)))))] [])))else(G ((.int .i64 (-1))))):At Qk 0 (Zb Ue G) V4 0 19 [(0,.pv (enc l)),(1,.pv (.str s)),(7,.pv (.int .i64 l.length)),(8,.pv (.int .i64 i))] []:=At.tp (.lit (.ask (.req (.abs (Str) (fun YY=>AV.pv (PV.rptr (PV.cells ((enc) YY)))) (.lit (.lit (.ask (.nil) (.lit (.nil))))))) (.nil))) h (by kernel_rfl)
def Aw:IC:=(Zh [Za 4 (Xo false) 0] (Zh [Za 5 (Zc 0) 0,Za 6 (Zc 1) 0,Za 7 (YT 183 [(.t 5),(.t 6)]) 0,Za 8 (ZA .geq (.t 7) (Zy 0)) 2,Za 4 (Zc 8) 2] .ret))
def AB:List IRes:=[(.tmp 4)]
abbrev b3e:Nat:=9
def Nf:ZO:=Xc [(183,.pure (preT (fun x:List Str×Str×Unit=>Zr x.1)) (Zj (fun x:List Str×Str×Unit=>ZI (fun s:Str=>decide (s=x.2.1)) x.1)))]
theorem c0v{G:PV->Prop}(l:List Str)(s:List UInt8)(h:(Go.Pl.preT (fun(x:List Str×Str×Unit)=>Zr x.1) [(.sl 1 false (List.map enc l)),(.str s)])=true∧(∃ y0:Int,AV.pv (Zj (fun(x:List Str×Str×Unit)=>ZI (fun(s:Str)=>decide (s=x.2.1)) x.1) [(.sl 1 false (List.map enc l)),(.str s)])=AV.pv (enc y0)∧(G ((.bool (decide (y0 ≥ 0))))))):Ze Nf 0 (Zb AB G) Aw [] (Yk 9 [enc l,.str s]):=Ze.tp (.req (.abs (Int) (fun YY=>AV.pv (enc YY)) (.lit (.nil)))) h (by kernel_rfl)
def Uc:IC:=(Zh [Za 1 (.box 2 (.t 0)) 0,Za 2 (Xo false) 1] (Zh [Za 3 (.mv (Zy 1)) 0] (.seq (Zh [Za 6 (.faddr 0 (.t 1)) 0,Za 7 (Yl [(.sl 1)] (.t 6)) 0,Za 8 (.len 1 (.t 7)) 0,Za 9 (.mv (Zy 0)) 0] (.block 0 (.loop [9,8,7,1,3] (Zh [Za 10 (ZA .lss (.t 9) (.t 8)) 0] (.seq (.cond (.t 10) .skip (.exit 0)) (.seq (.block 1 (Zh [Za 11 (Zc 9) 0,Za 12 (.iaddr 1 (.t 7) (.t 9)) 0,Za 13 (.load false [.str] (.t 12)) 0,Za 4 (Zc 11) 0,Za 5 (Zc 13) 0] (.seq (Zh [Za 14 (Zc 5) 0,Za 15 (YT 119 [(.t 14)]) 0,Za 16 (.un .not (.t 15)) 2,Za 17 (Zc 16) 2,ZX 18 (.faddr 0 (.t 1)) 2 17,ZX 19 (Yl [(.sl 1)] (.t 18)) 2 17,ZX 20 (Zc 4) 2 17,ZX 21 (.slc 1 (.t 19) none (some (.t 20)) none) 2 17,ZX 22 (Zc 5) 2 17,ZX 23 (YT 120 [(.t 21),(.t 22)]) 2 17,Za 24 (.pick (.t 17) (.c (.bool true)) (.t 23)) 4,Za 25 (Zc 24) 4,ZX 26 (.faddr 1 (.t 1)) 4 25,ZX 27 (Yl [(.int .i64)] (.t 26)) 4 25,ZX 28 (ZA .lss (.t 27) (Zy 0)) 4 25,Za 29 (.pick (.t 25) (.c (.bool true)) (.t 28)) 4,Za 30 (Zc 29) 4,ZX 31 (.faddr 1 (.t 1)) 4 30,ZX 32 (Yl [(.int .i64)] (.t 31)) 4 30,ZX 33 (ZA .geq (.t 32) (Zy 20000)) 4 30,Za 34 (.pick (.t 30) (.c (.bool true)) (.t 33)) 4] (.cond (.t 34) (Zh [Za 2 (Xo false) 0] .ret) .skip)) (Zh [Za 35 (Zc 3) 0,Za 36 (.faddr 1 (.t 1)) 0,Za 37 (Yl [(.int .i64)] (.t 36)) 0,Za 38 (ZA .add (.t 37) (Zy 1)) 0,Za 39 (ZA .mul (.t 35) (.t 38)) 0,Za 3 (Zc 39) 0] (Zh [Za 40 (Zc 3) 0,Za 41 (ZA .gtr (.t 40) (Zy 20000)) 0] (.cond (.t 41) (Zh [Za 2 (Xo false) 0] .ret) .skip)))))) (.reg [Za 42 (ZA .add (.t 9) (Zy 1)) 0,Za 9 (Zc 42) 0] none))))))) (Zh [Za 43 (.faddr 1 (.t 1)) 0,Za 44 (Yl [(.int .i64)] (.t 43)) 0,Za 45 (ZA .geq (.t 44) (Zy 0)) 0,Za 2 (Zc 45) 0] .ret))))
def V6:List IRes:=[(.tmp 2)]
abbrev a5m:Nat:=46
def U0:ZO:=Xc [(119,.pure (preT (fun x:Str×Unit=>decide (x.1.s.length<=281474976710656))) (Zj (fun x:Str×Unit=>ZG x.1))),(120,.pure (preT (fun x:List Str×Str×Unit=>Zr x.1)) (Zj (fun x:List Str×Str×Unit=>x.1.contains x.2.1)))]
theorem b8y{G:PV->Prop}(b:BoxT)(h:At U0 0 (Zb V6 G) Uc 0 46 [(1,(.ptr 0 0)),(3,(.pv (.int .i64 1))),(7,(.pv (.sl 1 false (List.map enc b.v)))),(8,(.pv (.int .i64 (↑(List.length (List.map enc b.v)):Int)))),(9,(.pv (.int .i64 0)))] [(.obj (.box [(.pv (.sl 1 false (List.map enc b.v))),(.pv (.int .i64 b.m))]))]):Ze U0 0 (Zb V6 G) Uc [] (Yk 46 [enc b]):=Ze.tp (.nil) h (by kernel_rfl)
theorem Pf{G:PV->Prop}(b:BoxT)(n i:Int)(h:if (decide (i<(↑(List.length b.v):Int)))=true then(decide (0<=i)&&decide (Int.toNat i<List.length (List.map enc b.v))&&Enc.sz Str==1)=true∧(∃ y0:Str,AV.pv (PV.rptr (PV.cells (List.getD (List.map enc b.v) (Int.toNat i) default)))=AV.pv (PV.rptr (PV.cells ((enc) y0)))∧((Go.Pl.preT (fun(x:Str×Unit)=>decide (List.length (Str.s x.1)<=281474976710656)) [(.str (PV.asStr (List.getD (PV.cells (enc y0)) 0 default)))])=true∧(∃ y1:Bool,AV.pv (Zj (fun(x:Str×Unit)=>ZG x.1) [(.str (PV.asStr (List.getD (PV.cells (enc y0)) 0 default)))])=AV.pv (enc y1)∧(if (!y1)=true then G ((.bool false))else((true&&decide (0<=i)&&(List.isEmpty (List.map enc b.v)||Enc.sz Str==1)&&decide (0<=Int.toNat i)&&decide (Int.toNat i<=List.length (List.map enc b.v)))=true∧((Go.Pl.preT (fun(x:List Str×Str×Unit)=>Zr x.1) [(.sl 1 false (List.drop 0 (List.take (Int.toNat i) (List.map enc b.v)))),(.str (PV.asStr (List.getD (PV.cells (enc y0)) 0 default)))])=true∧(∃ y2:Bool,AV.pv (Zj (fun(x:List Str×Str×Unit)=>List.contains x.1 x.2.1) [(.sl 1 false (List.drop 0 (List.take (Int.toNat i) (List.map enc b.v)))),(.str (PV.asStr (List.getD (PV.cells (enc y0)) 0 default)))])=AV.pv (enc y2)∧(if (y2)=true then G ((.bool false))else(if (decide (BoxT.m b<0))=true then G ((.bool false))else(if (decide (BoxT.m b ≥ 20000))=true then G ((.bool false))else(if (decide (IntKind.wrap IntKind.i64 (n*IntKind.wrap IntKind.i64 (BoxT.m b+1))>20000))=true then G ((.bool false))else(At U0 0 (Zb V6 G) Uc 0 46 [(1,(.ptr 0 0)),(3,(.pv (.int .i64 (IntKind.wrap IntKind.i64 (n*IntKind.wrap IntKind.i64 (BoxT.m b+1)))))),(7,(.pv (.sl 1 false (List.map enc b.v)))),(8,(.pv (.int .i64 (↑(List.length b.v):Int)))),(9,(.pv (.int .i64 (IntKind.wrap IntKind.i64 (i+1)))))] [(.obj (.box [(.pv (.sl 1 false (List.map enc b.v))),(.pv (.int .i64 b.m))]))]))))))))))))else(G ((.bool (decide (BoxT.m b ≥ 0)))))):At U0 0 (Zb V6 G) Uc 0 46 [(1,.ptr 0 0),(3,.pv (.int .i64 n)),(7,.pv (enc b.v)),(8,.pv (.int .i64 b.v.length)),(9,.pv (.int .i64 i))] [.obj (.box [.pv (enc b.v),.pv (.int .i64 b.m)])]:=At.tp (.lit (.ask (.req (.abs (Str) (fun YY=>AV.pv (PV.rptr (PV.cells ((enc) YY)))) (.lit (.req (.abs (Bool) (fun YY=>AV.pv (enc YY)) (.ask (.lit (.lit (.lit (.lit (.lit (.lit (.lit (.lit (.lit (.lit (.lit (.lit (.lit (.lit (.lit (.nil)))))))))))))))) (.lit (.lit (.lit (.req (.lit (.lit (.req (.abs (Bool) (fun YY=>AV.pv (enc YY)) (.lit (.ask (.lit (.lit (.lit (.lit (.lit (.lit (.lit (.lit (.nil))))))))) (.lit (.lit (.lit (.lit (.ask (.lit (.lit (.lit (.lit (.nil))))) (.lit (.lit (.lit (.lit (.ask (.nil) (.lit (.lit (.lit (.ask (.nil) (.lit (.nil)))))))))))))))))))))))))))))))) (.lit (.nil)))) h (by kernel_rfl)
def YH:IC:=(Zh [Za 1 (.box 2 (.t 0)) 0,Za 2 (.mv (.c (.sl 0 true []))) 1] (Zh [Za 3 (.mv (.c (.sl 0 true []))) 0] (.seq (Zh [Za 6 (.faddr 1 (.t 1)) 0,Za 7 (Yl [(.sl 2)] (.t 6)) 0,Za 8 (.len 1 (.t 7)) 0,Za 9 (.mv (Zy 0)) 0] (.block 0 (.loop [9,8,7,3] (Zh [Za 10 (ZA .lss (.t 9) (.t 8)) 0] (.seq (.cond (.t 10) .skip (.exit 0)) (.seq (.block 1 (Zh [Za 11 (.iaddr 2 (.t 7) (.t 9)) 0,Za 12 (.load true [.str,(.int .i64)] (.t 11)) 0,Za 5 (.alloc (.agg [(.str []),(.int .i64 0)])) 0,Ui (.store 2 (.t 5) (.t 12)) 1] (.reg [Za 13 (Zc 3) 0,Za 14 (.faddr 0 (.t 5)) 0,Za 15 (.load false [.str] (.t 14)) 0,Za 16 (.bslice 9 1 1 (.str []) [(0,(.t 15))]) 0,Za 17 (.append 9 1 16 (.t 13) (.t 16)) 1,Za 3 (Zc 17) 2] none))) (.reg [Za 18 (ZA .add (.t 9) (Zy 1)) 0,Za 9 (Zc 18) 0] none))))))) (Zh [Za 19 (Zc 3) 0,Za 2 (Zc 19) 0] .ret))))
def YE:List IRes:=[(.tmp 2)]
abbrev BI:Nat:=20
def YX:ZO:=Xc []
theorem a4e{G:AV×List AObj×List AObj->Prop}(l:Lin)(h:At YX 0 (Zt 0 YE G) YH 0 20 [(3,(.pv (.sl 0 true []))),(7,(.pv (.sl 2 false (List.map enc l.t)))),(8,(.pv (.int .i64 (↑(List.length (List.map enc l.t)):Int)))),(9,(.pv (.int .i64 0)))] []):Ze YX 0 (Zt 0 YE G) YH [] (YV 20 [.pv (enc l)] []):=Ze.to (.nil) h (by kernel_rfl)
theorem RZ{G:AV×List AObj×List AObj->Prop}(l:Lin)(i:Int)(h:if (decide (i<(↑(List.length l.t):Int)))=true then(decide (0<=i)&&decide (Int.toNat i<List.length (List.map enc l.t))&&Enc.sz Coef==2)=true∧(∃ y0:Coef,AV.pv (PV.rptr (PV.cells (List.getD (List.map enc l.t) (Int.toNat i) default)))=AV.pv (PV.rptr (PV.cells ((enc) y0)))∧(At YX 0 (Zt 0 YE G) YH 0 20 [(3,(.row 0 1 0 1)),(7,(.pv (.sl 2 false (List.map enc l.t)))),(8,(.pv (.int .i64 (↑(List.length l.t):Int)))),(9,(.pv (.int .i64 (IntKind.wrap IntKind.i64 (i+1)))))] [(.obj (.row false 9 1 [(.str (PV.asStr (List.getD (PV.cells (enc y0)) 0 default)))]))]))else(G (((.pv (.sl 0 true [])),([],[]))))):At YX 0 (Zt 0 YE G) YH 0 20 [(3,.pv (.sl 0 true [])),(7,.pv (enc l.t)),(8,.pv (.int .i64 l.t.length)),(9,.pv (.int .i64 i))] []:=At.to (.lit (.ask (.req (.abs (Coef) (fun YY=>AV.pv (PV.rptr (PV.cells ((enc) YY)))) (.lit (.lit (.lit (.lit (.lit (.lit (.lit (.nil)))))))))) (.nil))) h (by kernel_rfl)
theorem Rn{G:AV×List AObj×List AObj->Prop}(l:Lin)(i:Int)(q:Nat)(vs:List Str)(h:if (decide (i<(↑(List.length l.t):Int)))=true then(decide (0<=i)&&decide (Int.toNat i<List.length (List.map enc l.t))&&Enc.sz Coef==2)=true∧(∃ y0:Coef,AV.pv (PV.rptr (PV.cells (List.getD (List.map enc l.t) (Int.toNat i) default)))=AV.pv (PV.rptr (PV.cells ((enc) y0)))∧((List.length (List.map enc vs)==q&&q==q&&decide ((q+List.length (List.drop 0 (List.take 1 [Sh.co Sh.str (List.getD (PV.cells (enc y0)) 0 default)])))*16<=1099511627776)&&decide (q+List.length (List.drop 0 (List.take 1 [Sh.co Sh.str (List.getD (PV.cells (enc y0)) 0 default)]))<=1099511627776))=true∧(At YX 0 (Zt 0 YE G) YH 0 20 [(3,(.row 0 (q+List.length (List.drop 0 (List.take 1 [Sh.co Sh.str (List.getD (PV.cells (enc y0)) 0 default)]))) 0 (q+List.length (List.drop 0 (List.take 1 [Sh.co Sh.str (List.getD (PV.cells (enc y0)) 0 default)]))))),(7,(.pv (.sl 2 false (List.map enc l.t)))),(8,(.pv (.int .i64 (↑(List.length l.t):Int)))),(9,(.pv (.int .i64 (IntKind.wrap IntKind.i64 (i+1)))))] [(.obj (.row false 9 1 (List.map enc vs++List.drop 0 (List.take 1 [Sh.co Sh.str (List.getD (PV.cells (enc y0)) 0 default)]))))])))else(G (((.row 0 q 0 q),([],[(.row false 9 1 (List.map enc vs))]))))):At YX 0 (Zt 0 YE G) YH 0 20 [(3,.row 0 q 0 q),(7,.pv (enc l.t)),(8,.pv (.int .i64 l.t.length)),(9,.pv (.int .i64 i))] [.obj (.row false 9 1 (vs.map enc))]:=At.to (.lit (.ask (.req (.abs (Coef) (fun YY=>AV.pv (PV.rptr (PV.cells ((enc) YY)))) (.lit (.lit (.lit (.req (.lit (.nil)))))))) (.nil))) h (by kernel_rfl)
def PE:IC:=(Zh [Za 3 (Xo false) 0] (Zh [Za 4 (.faddr 0 (.t 1)) 0,Za 5 (Yl [(.sl 1)] (.t 4)) 0,Za 6 (Zc 0) 0,Za 7 (YT 120 [(.t 5),(.t 6)]) 0,Za 8 (.un .not (.t 7)) 2,Za 3 (Zc 8) 2] .ret))
def NU:List IRes:=[(.tmp 3)]
abbrev c3n:Nat:=9
def O6:ZO:=Xc [(120,.pure (preT (fun x:List Str×Str×Unit=>Zr x.1)) (Zj (fun x:List Str×Str×Unit=>x.1.contains x.2.1)))]
theorem c8r{G:AV×List AObj×List AObj->Prop}(s:List UInt8)(b:BoxT)(h:(Go.Pl.preT (fun(x:List Str×Str×Unit)=>Zr x.1) [(.sl 1 false (List.map enc b.v)),(.str s)])=true∧(∃ y0:Bool,AV.pv (Zj (fun(x:List Str×Str×Unit)=>List.contains x.1 x.2.1) [(.sl 1 false (List.map enc b.v)),(.str s)])=AV.pv (enc y0)∧(G (((.pv (.bool !y0)),([(.box [(.pv (.sl 1 false (List.map enc b.v))),(.pv (.int .i64 b.m))])],[])))))):Ze O6 1 (Zt 1 NU G) PE [] (YV 9 [.pv (.str s),.ptr 0 0] [.box [.pv (enc b.v),.pv (.int .i64 b.m)]]):=Ze.to (.req (.abs (Bool) (fun YY=>AV.pv (enc YY)) (.nil))) h (by kernel_rfl)
def Qn:IC:=(Zh [Za 4 (.mv (Zy 0)) 0] (.seq (Zh [Za 6 (Zc 0) 0,Za 7 (.len 1 (.t 6)) 0,Za 8 (.mv (Zy 0)) 0] (.block 0 (.loop [8,7,1,0] (Zh [Za 9 (ZA .lss (.t 8) (.t 7)) 0] (.seq (.cond (.t 9) .skip (.exit 0)) (.seq (.block 1 (Zh [Za 10 (Zc 8) 0,Za 5 (Zc 10) 0] (Zh [Za 11 (Zc 1) 0,Za 12 (Zc 0) 0,Za 13 (Zc 5) 0,Za 14 (.iaddr 1 (.t 12) (.t 13)) 0,Za 15 (.load false [.str] (.t 14)) 0,Za 16 (.call (.t 11) [(.t 15)]) 0] (.cond (.t 16) (Zh [Za 17 (Zc 5) 0,Za 4 (Zc 17) 0] .ret) .skip)))) (.reg [Za 18 (ZA .add (.t 8) (Zy 1)) 0,Za 8 (Zc 18) 0] none))))))) (Zh [Za 4 (.mv (.c (.int .i64 (-1)))) 0] .ret)))
def QJ:List IRes:=[(.tmp 4)]
abbrev c7x:Nat:=19
def JW:ZO:=Xc [(176,.own Jy Bl)]
theorem d1t{G:AV×List AObj×List AObj->Prop}(l:List Str)(n:Nat)(b:BoxT)(h:At JW 2 (Zt 2 QJ G) Qn 0 19 [(0,(.row 0 n 0 n)),(1,(.fn 176 [] [(.ptr 1 0)])),(7,(.pv (.int .i64 (↑(n - 0):Int)))),(8,(.pv (.int .i64 0)))] [(.obj (.row false 9 1 (List.map enc l))),(.obj (.box [(.pv (.sl 1 false (List.map enc b.v))),(.pv (.int .i64 b.m))]))]):Ze JW 2 (Zt 2 QJ G) Qn [] (YV 19 [.row 0 n 0 n,.fn 176 [] [.ptr 1 0]] [.row false 9 1 (l.map enc),.box [.pv (enc b.v),.pv (.int .i64 b.m)]]):=Ze.to (.nil) h (by kernel_rfl)
theorem b5o{G:AV×List AObj×List AObj->Prop}(l:List Str)(n:Nat)(b:BoxT)(i:Int)(h:if (decide (i<(↑n:Int)))=true then(decide (0<=i)&&decide (0+Int.toNat i<n)&&List.length (List.map enc l)==n)=true∧((List.length (List.map enc l)==n&&decide (0+Int.toNat i<List.length (List.map enc l)))=true∧((decide (0+List.length [Sh.str]<=List.length (PV.cells (List.getD (List.map enc l) (0+Int.toNat i) default)))&&Yx (PV.cells (List.getD (List.map enc l) (0+Int.toNat i) default)) 0 [Sh.str])=true∧((Jy [(.pv (.str (PV.asStr (List.getD (PV.cells (List.getD (List.map enc l) (0+Int.toNat i) default)) 0 default)))),(.ptr 0 0)] [(.box [(.pv (.sl 1 false (List.map enc b.v))),(.pv (.int .i64 b.m))])])=true∧(if (!List.contains (dec (enc b.v)) (Str.mk (PV.asStr (List.getD (PV.cells (List.getD (List.map enc l) (0+Int.toNat i) default)) 0 default))))=true then G (((.pv (.int .i64 i)),([(.row false 9 1 (List.map enc l)),(.box [(.pv (.sl 1 false (List.map enc b.v))),(.pv (.int .i64 b.m))])],[])))else(At JW 2 (Zt 2 QJ G) Qn 0 19 [(0,(.row 0 n 0 n)),(1,(.fn 176 [] [(.ptr 1 0)])),(7,(.pv (.int .i64 (↑n:Int)))),(8,(.pv (.int .i64 (IntKind.wrap IntKind.i64 (i+1)))))] [(.obj (.row false 9 1 (List.map enc l))),(.obj (.box [(.pv (.sl 1 false (List.map enc b.v))),(.pv (.int .i64 b.m))]))])))))else(G (((.pv (.int .i64 (-1))),([(.row false 9 1 (List.map enc l)),(.box [(.pv (.sl 1 false (List.map enc b.v))),(.pv (.int .i64 b.m))])],[]))))):At JW 2 (Zt 2 QJ G) Qn 0 19 [(0,.row 0 n 0 n),(1,.fn 176 [] [.ptr 1 0]),(7,.pv (.int .i64 n)),(8,.pv (.int .i64 i))] [.obj (.row false 9 1 (l.map enc)),.obj (.box [.pv (enc b.v),.pv (.int .i64 b.m)])]:=At.to (.lit (.ask (.req (.keep (.req (.req (.req (.keep (.ask (.nil) (.lit (.nil))))))))) (.nil))) h (by kernel_rfl)
def BN:IC:=(Zh [Za 4 (Xo false) 0] (Zh [Za 5 (Zc 0) 0,Za 6 (Zc 1) 0,Za 7 (YT 238 [(.t 5),(.t 6)]) 0,Za 8 (ZA .geq (.t 7) (Zy 0)) 2,Za 4 (Zc 8) 2] .ret))
def PS:List IRes:=[(.tmp 4)]
abbrev c9m:Nat:=9
def a3b:ZO:=Xc [(238,.own (WH 176) Ba)]
theorem d0k{G:AV×List AObj×List AObj->Prop}(l:List Str)(n:Nat)(b:BoxT)(h:(WH 176 [(.row 0 n 0 n),(.fn 176 [] [(.ptr 1 0)])] [(.row false 9 1 (List.map enc l)),(.box [(.pv (.sl 1 false (List.map enc b.v))),(.pv (.int .i64 b.m))])])=true∧(G (((.pv (.bool (decide (ZI (fun(s:Str)=> !List.contains (dec (enc b.v)) s) (KS (List.map enc l)) ≥ 0)))),([(.row false 9 1 (List.map enc l)),(.box [(.pv (.sl 1 false (List.map enc b.v))),(.pv (.int .i64 b.m))])],[]))))):Ze a3b 2 (Zt 2 PS G) BN [] (YV 9 [.row 0 n 0 n,.fn 176 [] [.ptr 1 0]] [.row false 9 1 (l.map enc),.box [.pv (enc b.v),.pv (.int .i64 b.m)]]):=Ze.to (.req (.keep (.lit (.nil)))) h (by kernel_rfl)
theorem d2a{G:AV×List AObj×List AObj->Prop}(b:BoxT)(h:At JW 1 (Zt 1 QJ G) Qn 0 19 [(0,(.pv (.sl 0 true []))),(1,(.fn 176 [] [(.ptr 0 0)])),(7,(.pv (.int .i64 0))),(8,(.pv (.int .i64 0)))] [(.obj (.box [(.pv (.sl 1 false (List.map enc b.v))),(.pv (.int .i64 b.m))]))]):Ze JW 1 (Zt 1 QJ G) Qn [] (YV 19 [.pv (.sl 0 true []),.fn 176 [] [.ptr 0 0]] [.box [.pv (enc b.v),.pv (.int .i64 b.m)]]):=Ze.to (.nil) h (by kernel_rfl)
-- IMPOSSIBLE
theorem c9h{G:AV×List AObj×List AObj->Prop}(b:BoxT)(i:Int)(h:if (decide (i<0))=true then(decide (0<=i)&&decide (Int.toNat i<List.length ([]:List PV))&&0==1)=true∧(False)else(G (((.pv (.int .i64 (-1))),([(.box [(.pv (.sl 1 false (List.map enc b.v))),(.pv (.int .i64 b.m))])],[]))))):At JW 1 (Zt 1 QJ G) Qn 0 19 [(0,.pv (.sl 0 true [])),(1,.fn 176 [] [.ptr 0 0]),(7,.pv (.int .i64 0)),(8,.pv (.int .i64 i))] [.obj (.box [.pv (enc b.v),.pv (.int .i64 b.m)])]:=At.to (.lit (.ask (.req (.keep (.lit (.nil)))) (.nil))) h (by kernel_rfl)
theorem d0r{G:AV×List AObj×List AObj->Prop}(b:BoxT)(h:(WH 176 [(.pv (.sl 0 true [])),(.fn 176 [] [(.ptr 0 0)])] [(.box [(.pv (.sl 1 false (List.map enc b.v))),(.pv (.int .i64 b.m))])])=true∧(G (((.pv (.bool false)),([(.box [(.pv (.sl 1 false (List.map enc b.v))),(.pv (.int .i64 b.m))])],[]))))):Ze a3b 1 (Zt 1 PS G) BN [] (YV 9 [.pv (.sl 0 true []),.fn 176 [] [.ptr 0 0]] [.box [.pv (enc b.v),.pv (.int .i64 b.m)]]):=Ze.to (.req (.keep (.lit (.nil)))) h (by kernel_rfl)
theorem b0q{G:PV->Prop}(l:Lin)(h:At YX 0 (Zb YE G) YH 0 20 [(3,(.pv (.sl 0 true []))),(7,(.pv (.sl 2 false (List.map enc l.t)))),(8,(.pv (.int .i64 (↑(List.length (List.map enc l.t)):Int)))),(9,(.pv (.int .i64 0)))] []):Ze YX 0 (Zb YE G) YH [] (Yk 20 [enc l]):=Ze.tp (.nil) h (by kernel_rfl)
theorem SB{G:PV->Prop}(l:Lin)(i:Int)(h:if (decide (i<(↑(List.length l.t):Int)))=true then(decide (0<=i)&&decide (Int.toNat i<List.length (List.map enc l.t))&&Enc.sz Coef==2)=true∧(∃ y0:Coef,AV.pv (PV.rptr (PV.cells (List.getD (List.map enc l.t) (Int.toNat i) default)))=AV.pv (PV.rptr (PV.cells ((enc) y0)))∧(At YX 0 (Zb YE G) YH 0 20 [(3,(.row 0 1 0 1)),(7,(.pv (.sl 2 false (List.map enc l.t)))),(8,(.pv (.int .i64 (↑(List.length l.t):Int)))),(9,(.pv (.int .i64 (IntKind.wrap IntKind.i64 (i+1)))))] [(.obj (.row false 9 1 [(.str (PV.asStr (List.getD (PV.cells (enc y0)) 0 default)))]))]))else(G ((.sl 0 true [])))):At YX 0 (Zb YE G) YH 0 20 [(3,.pv (.sl 0 true [])),(7,.pv (enc l.t)),(8,.pv (.int .i64 l.t.length)),(9,.pv (.int .i64 i))] []:=At.tp (.lit (.ask (.req (.abs (Coef) (fun YY=>AV.pv (PV.rptr (PV.cells ((enc) YY)))) (.lit (.lit (.lit (.lit (.lit (.lit (.lit (.nil)))))))))) (.nil))) h (by kernel_rfl)
theorem Ay{G:PV->Prop}(l:Lin)(i:Int)(q:Nat)(vs:List Str)(h:if (decide (i<(↑(List.length l.t):Int)))=true then(decide (0<=i)&&decide (Int.toNat i<List.length (List.map enc l.t))&&Enc.sz Coef==2)=true∧(∃ y0:Coef,AV.pv (PV.rptr (PV.cells (List.getD (List.map enc l.t) (Int.toNat i) default)))=AV.pv (PV.rptr (PV.cells ((enc) y0)))∧((List.length (List.map enc vs)==q&&q==q&&decide ((q+List.length (List.drop 0 (List.take 1 [Sh.co Sh.str (List.getD (PV.cells (enc y0)) 0 default)])))*16<=1099511627776)&&decide (q+List.length (List.drop 0 (List.take 1 [Sh.co Sh.str (List.getD (PV.cells (enc y0)) 0 default)]))<=1099511627776))=true∧(At YX 0 (Zb YE G) YH 0 20 [(3,(.row 0 (q+List.length (List.drop 0 (List.take 1 [Sh.co Sh.str (List.getD (PV.cells (enc y0)) 0 default)]))) 0 (q+List.length (List.drop 0 (List.take 1 [Sh.co Sh.str (List.getD (PV.cells (enc y0)) 0 default)]))))),(7,(.pv (.sl 2 false (List.map enc l.t)))),(8,(.pv (.int .i64 (↑(List.length l.t):Int)))),(9,(.pv (.int .i64 (IntKind.wrap IntKind.i64 (i+1)))))] [(.obj (.row false 9 1 (List.map enc vs++List.drop 0 (List.take 1 [Sh.co Sh.str (List.getD (PV.cells (enc y0)) 0 default)]))))])))else((List.length (List.map enc vs)==q)=true∧(G ((.sl 1 false (List.drop 0 (List.take q (List.map enc vs)))))))):At YX 0 (Zb YE G) YH 0 20 [(3,.row 0 q 0 q),(7,.pv (enc l.t)),(8,.pv (.int .i64 l.t.length)),(9,.pv (.int .i64 i))] [.obj (.row false 9 1 (vs.map enc))]:=At.tp (.lit (.ask (.req (.abs (Coef) (fun YY=>AV.pv (PV.rptr (PV.cells ((enc) YY)))) (.lit (.lit (.lit (.req (.lit (.nil)))))))) (.req (.nil)))) h (by kernel_rfl)
def Xt:IC:=XO
def Xu:List IRes:=[(.tmp 2)]
abbrev a5h:Nat:=67
def X6:ZO:=Xc [(152,.pure (preT (fun _:Str×Str×Unit=>true)) (Zj (fun x:Str×Str×Unit=>x.2.1.s.isPrefixOf x.1.s))),(182,.pure (preT (fun x:Str×Unit=>decide (x.1.s.length<=281474976710656))) (Zj (fun x:Str×Unit=>YD x.1))),(76,.pure (preT (fun x:Int×Unit=>decide (-9223372036854775808<=x.1)&&decide (x.1<=9223372036854775807))) (Zj (fun x:Int×Unit=>MG x.1)))]
theorem b0i{G:PV->Prop}(s:List UInt8)(h : ∃ y0:Bool,AV.pv (Zj (fun(x:Str×Str×Unit)=>List.isPrefixOf (Str.s x.2.1) (Str.s x.1)) [(.str s),(.str [(95:UInt8)])])=AV.pv (enc y0)∧(if (y0)=true then(decide (0<=1)&&true&&decide (Int.toNat 1<=List.length s)&&decide (List.length s<=List.length s))=true∧((Go.Pl.preT (fun(x:Str×Unit)=>decide (List.length (Str.s x.1)<=281474976710656)) [(.str (List.drop (Int.toNat 1) (List.take (List.length s) s)))])=true∧(∃ y1:Int×Er,AV.pv (Zj (fun(x:Str×Unit)=>YD x.1) [(.str (List.drop (Int.toNat 1) (List.take (List.length s) s)))])=AV.pv (enc y1)∧((Ar (enc y1.2)&&Prod.fst (true,PV.bool (U2 (enc y1.2))))=true∧(if (U2 (enc y1.2))=true then if (decide (y1.1>0))=true then if (decide ((↑(List.length s):Int)<=10))=true then(Go.Pl.preT (fun(x:Int×Unit)=>decide ((-9223372036854775808:Int)<=x.1)&&decide (x.1<=9223372036854775807)) [(.int .i64 y1.1)])=true∧(∃ y2:Str,AV.pv (Zj (fun(x:Int×Unit)=>MG x.1) [(.int .i64 y1.1)])=AV.pv (enc y2)∧((decide (0<=1)&&true&&decide (Int.toNat 1<=List.length s)&&decide (List.length s<=List.length s))=true∧(G ((.bool (Str.s y2==List.drop (Int.toNat 1) (List.take (List.length s) s)))))))else(G ((.bool false)))else(G ((.bool false)))else(G ((.bool false)))))))else(At X6 0 (Zb Xu G) Xt 0 67 [(0,(.pv (.str s))),(34,(.pv (.sl 1 false (ZE s)))),(35,(.pv (.int .i64 (↑(List.length (ZE s)):Int)))),(36,(.pv (.int .i64 0)))] []))):Ze X6 0 (Zb Xu G) Xt [] (Yk 67 [.str s]):=Ze.tp (.lit (.abs (Bool) (fun YY=>AV.pv (enc YY)) (.ask (.req (.req (.abs (Int×Er) (fun YY=>AV.pv (enc YY)) (.req (.ask (.lit (.lit (.lit (.ask (.lit (.lit (.lit (.lit (.ask (.lit (.req (.abs (Str) (fun YY=>AV.pv (enc YY)) (.lit (.lit (.req (.lit (.lit (.lit (.nil)))))))))) (.lit (.lit (.lit (.lit (.lit (.nil))))))))))) (.lit (.lit (.lit (.lit (.lit (.lit (.lit (.lit (.lit (.nil)))))))))))))) (.lit (.lit (.lit (.lit (.lit (.lit (.lit (.lit (.lit (.lit (.lit (.lit (.nil)))))))))))))))))) (.nil)))) h (by kernel_rfl)
theorem RG{G:PV->Prop}(s:List UInt8)(i:Int)(h:if (decide (i<(↑(List.length (ZE s)):Int)))=true then(decide (0<=i)&&decide (Int.toNat i<List.length (ZE s))&&1==1)=true∧((decide (0+List.length [Sh.int IntKind.u8]<=List.length (PV.cells (List.getD (ZE s) (Int.toNat i) default)))&&Yx (PV.cells (List.getD (ZE s) (Int.toNat i) default)) 0 [Sh.int IntKind.u8])=true∧(if (decide (PV.asInt (List.getD (PV.cells (List.getD (ZE s) (Int.toNat i) default)) 0 default)<97))=true then if (i==0)=true then G ((.bool false))else(if (decide (PV.asInt (List.getD (PV.cells (List.getD (ZE s) (Int.toNat i) default)) 0 default)<48))=true then G ((.bool false))else(if (decide (PV.asInt (List.getD (PV.cells (List.getD (ZE s) (Int.toNat i) default)) 0 default)>57))=true then G ((.bool false))else(At X6 0 (Zb Xu G) Xt 0 67 [(0,(.pv (.str s))),(34,(.pv (.sl 1 false (ZE s)))),(35,(.pv (.int .i64 (↑(List.length (ZE s)):Int)))),(36,(.pv (.int .i64 (IntKind.wrap IntKind.i64 (i+1)))))] [])))else(if (decide (PV.asInt (List.getD (PV.cells (List.getD (ZE s) (Int.toNat i) default)) 0 default)>122))=true then if (i==0)=true then G ((.bool false))else(if (decide (PV.asInt (List.getD (PV.cells (List.getD (ZE s) (Int.toNat i) default)) 0 default)<48))=true then G ((.bool false))else(if (decide (PV.asInt (List.getD (PV.cells (List.getD (ZE s) (Int.toNat i) default)) 0 default)>57))=true then G ((.bool false))else(At X6 0 (Zb Xu G) Xt 0 67 [(0,(.pv (.str s))),(34,(.pv (.sl 1 false (ZE s)))),(35,(.pv (.int .i64 (↑(List.length (ZE s)):Int)))),(36,(.pv (.int .i64 (IntKind.wrap IntKind.i64 (i+1)))))] [])))else(At X6 0 (Zb Xu G) Xt 0 67 [(0,(.pv (.str s))),(34,(.pv (.sl 1 false (ZE s)))),(35,(.pv (.int .i64 (↑(List.length (ZE s)):Int)))),(36,(.pv (.int .i64 (IntKind.wrap IntKind.i64 (i+1)))))] []))))else(if (!s==[])=true then G ((.bool (decide ((↑(List.length s):Int)<=30))))else(G ((.bool false))))):At X6 0 (Zb Xu G) Xt 0 67 [(0,.pv (.str s)),(34,.pv (.sl 1 false (ZE s))),(35,.pv (.int .i64 (ZE s).length)),(36,.pv (.int .i64 i))] []:=At.tp (.lit (.ask (.req (.keep (.req (.lit (.ask (.lit (.lit (.lit (.lit (.lit (.lit (.ask (.lit (.lit (.lit (.lit (.lit (.lit (.lit (.lit (.lit (.lit (.nil))))))))))) (.lit (.lit (.lit (.lit (.lit (.ask (.lit (.lit (.lit (.lit (.lit (.nil)))))) (.lit (.lit (.lit (.lit (.lit (.ask (.nil) (.lit (.nil))))))))))))))))))))) (.lit (.lit (.lit (.ask (.lit (.lit (.lit (.ask (.lit (.lit (.lit (.lit (.lit (.lit (.lit (.lit (.lit (.lit (.nil))))))))))) (.lit (.lit (.lit (.lit (.lit (.ask (.lit (.lit (.lit (.lit (.lit (.nil)))))) (.lit (.lit (.lit (.lit (.lit (.ask (.nil) (.lit (.nil)))))))))))))))))) (.lit (.lit (.lit (.lit (.lit (.lit (.lit (.lit (.nil)))))))))))))))))) (.lit (.ask (.lit (.lit (.lit (.lit (.nil))))) (.lit (.lit (.lit (.nil)))))))) h (by kernel_rfl)
end Go.Pl
namespace Go.Pl
open Go.RowKit
open Enc (enc dec is)
open EncL (encL decL isL)
theorem ZF{α:Type}{l:List α}:Zr l=true ↔ l.length<=9223372036854775807:=by simp[Zr]
theorem MH(l:List Str)(s:List UInt8)(hl:l.length<=9223372036854775807): ∀ (m i:Nat),m+i=l.length->(∀ j (h:j<l.length),j<i->decide (l[j]=⟨s⟩)=false) ->
  At Qk 0 (Zb Ue (Zi (ZI (fun x:Str=>decide (x=⟨s⟩)) l))) V4 0 19 [(0,.pv (enc l)),(1,.pv (.str s)),(7,.pv (.int .i64 l.length)),(8,.pv (.int .i64 i))] []:=by
 intro m
 induction m with
 | zero=>
  intro i hi hno
  refine RV l s i (ZR (Yd (by omega)) (VQ ?_))
  rw[Qz _ _ fun k hk=>hno k hk (by omega)]
 | succ m ih=>
  intro i hi hno
  have hlt:i<l.length:=by omega
  refine RV l s i (ZN (Z8 hlt) ⟨Zu hlt rfl,ZB hlt (Kb (fun h=>VQ ?_) fun h=> ?_)⟩)
  ·have h:s=l[i].s:=h
   rw[QC (fun x:Str=>decide (x=⟨s⟩)) l i hlt hno (by rw[h];simp)]
  ·have h:s≠l[i].s:=h
   rw[next (by omega)]
   refine ih (i+1) (by omega) fun k hk hki=> ?_
   by_cases e:k=i
   ·subst e;simp only[decide_eq_false_iff_not];intro e;exact h (by rw[e])
   ·exact hno k hk (by omega)
theorem a1u: ∀ a:List Str×Str×Unit,Zr a.1=true->Ze Qk 0 (Zb Ue (Zi (ZI (fun s:Str=>decide (s=a.2.1)) a.1))) V4 [] (Yk a6i (encL a)):=by
 rintro⟨l,⟨s⟩,⟨⟩⟩ h
 have:=MH l s (ZF.1 h) l.length 0 (by omega) fun j _ h=>by omega
 refine b5b l s ?_
 rw[List.length_map]
 exact this
theorem Mv(l:List Str)(s:Str):l.any (fun x=>decide (x=s))=l.contains s:=by
 rw[List.contains_eq_any_beq]
 congr 1
 funext x
 by_cases h:x=s
 ·subst h;simp
 ·have h2:s≠x:=fun e=>h e.symm
  simp[h,h2]
theorem a7c: ∀ a:List Str×Str×Unit,Zr a.1=true->Ze Nf 0 (Zb AB (Zi (a.1.contains a.2.1))) Aw [] (Yk b3e (encL a)):=by
 rintro⟨l,⟨s⟩,⟨⟩⟩ h
 refine c0v l s ⟨Zl (l,⟨s⟩,()) rfl h,Zk (l,⟨s⟩,()) rfl (ZL ?_)⟩
 show decide (ZI (fun x:Str=>decide (x=⟨s⟩)) l ≥ 0)=_
 rw[Wi,Mv]
def gvL(m:Int):List Str->List Str->Int->Bool
 | _,[],_=>decide (m ≥ 0)
 | seen,s::r,n=>ZG s&& !seen.contains s&& !decide (m<0)&& !decide (m ≥ 20000)&& !decide (n*(m+1)>20000)&&gvL m (seen++[s]) r (n*(m+1))
theorem b1z(m:Int): ∀ (r seen:List Str) (n:Int),gvL m seen r n=(r.all ZG&&(decide r.Nodup&&r.all fun s=> !seen.contains s)&&(r.isEmpty||decide (m<20000))&&decide (0<=m)&&(Hl m r n).isSome)
 | [],seen,n=>by
  simp[gvL,Hl]
 | s::r,seen,n=>by
  rw[gvL,b1z m r (seen++[s]) (n*(m+1)),Hl]
  have h1:(r.all fun x=> !(seen++[s]).contains x)=((r.all fun x=> !seen.contains x)&& !r.contains s):=by
   induction r with
   | nil=>rfl
   | cons x r ih=>
    simp only[List.all_cons,ih]
    have e1:(seen++[s]).contains x=(seen.contains x||decide (x=s)):=by simp[List.contains_eq_any_beq,List.any_append,Bool.or_comm]
    have e2:(x::r).contains s=(decide (x=s)||r.contains s):=by
     rw[List.contains_cons]
     congr 1
     by_cases h:x=s
     ·subst h;simp
     ·have h2:s≠x:=fun e=>h e.symm
      simp[h,h2]
    rw[e1,e2]
    cases seen.contains x <;> cases decide (x=s) <;> cases r.contains s <;> cases (r.all fun x=> !seen.contains x) <;> rfl
  have h2:decide (s::r).Nodup=(decide r.Nodup&& !r.contains s):=by
   by_cases h:s∈r
   ·simp[List.nodup_cons,h]
   ·simp[List.nodup_cons,h]
  rw[h1,h2]
  by_cases hm:m<0
  ·have e1:decide (0<=m)=false:=by simp;omega
   rw[decide_eq_true hm,e1];simp
  ·have e1:decide (0<=m)=true:=by simp;omega
   by_cases hm2:m ≥ 20000
   ·have e2:decide (m<20000)=false:=by simp;omega
    rw[decide_eq_true hm2,e2];simp
   ·have e2:decide (m<20000)=true:=by simp;omega
    by_cases hn:n*(m+1)>20000
    ·rw[if_pos hn,decide_eq_true hn];simp
    ·rw[if_neg hn,decide_eq_false hn,decide_eq_false hm,decide_eq_false hm2,e1,e2]
     simp only[List.all_cons,List.isEmpty_cons]
     cases ZG s <;> cases seen.contains s <;> cases r.contains s <;> cases r.all ZG <;> cases decide r.Nodup <;> cases (r.all fun x=> !seen.contains x) <;> cases r.isEmpty <;> cases (Hl m r (n*(m+1))).isSome <;> rfl
theorem a2c(b:BoxT):gvL b.m [] b.v 1=Y4 b:=by
 rw[b1z,Y4]
 have:(b.v.all fun s=> !([]:List Str).contains s)=true:=by simp
 rw[this,Bool.and_true]
theorem a3w{n:Int}(h1 : -9000000000000000000<=n)(h2:n<=9000000000000000000):IntKind.i64.wrap n=n:=X0 (by omega) (by omega)
theorem Od(b:BoxT)(hb:ZH b=true): ∀ (k i:Nat) (n:Int),k+i=b.v.length->1<=n->n<=20000 ->
  At U0 0 (Zb V6 (Zi (gvL b.m (b.v.take i) (b.v.drop i) n))) Uc 0 46 [(1,.ptr 0 0),(3,.pv (.int .i64 n)),(7,.pv (enc b.v)),(8,.pv (.int .i64 b.v.length)),(9,.pv (.int .i64 i))] [.obj (.box [.pv (enc b.v),.pv (.int .i64 b.m)])]:=by
 simp only[ZH,XX,Bool.and_eq_true,List.all_eq_true]at hb
 obtain⟨hb1,hb2⟩:=hb
 have hl:=ZF.1 hb1
 intro k
 induction k with
 | zero=>
  intro i n hi h1 h2
  rw[List.drop_of_length_le (by omega)]
  exact Pf b n i (ZR (Yd (by omega)) (ZL rfl))
 | succ k ih=>
  intro i n hi h1 h2
  have hlt:i<b.v.length:=by omega
  have hd:b.v.drop i=b.v[i]::b.v.drop (i+1):=List.drop_eq_getElem_cons hlt
  have ht:b.v.take (i+1)=b.v.take i++[b.v[i]]:=List.take_succ_eq_append_getElem hlt
  have hs:=hb2 _ (List.getElem_mem hlt)
  rw[hd,gvL]
  have et:List.drop 0 (List.take (Int.toNat (i:Int)) (List.map (enc:Str->PV) b.v))=(b.v.take i).map enc:=by rw[List.drop_zero,Int.toNat_natCast,List.map_take]
  refine Pf b n i (ZN (Z8 hlt) ⟨Zu hlt rfl,ZB hlt ⟨Zl (b.v[i],()) rfl hs,Zk (b.v[i],()) rfl (XU (fun h=> ?_) fun h=>⟨by rw[List.length_map,decide_eq_true (show(0:Int)<=(i:Int) by omega),decide_eq_true (show(Int.toNat (i:Int))<=b.v.length by omega)];simp,?_,?_⟩)⟩⟩)
  ·have h:ZG b.v[i]=false:=h
   rw[h];exact ZL rfl
  ·rw[et]
   exact Zl (b.v.take i,b.v[i],()) rfl (ZF.2 (by rw[List.length_take];omega))
  ·rw[et]
   have hn:ZG b.v[i]=true:=h
   rw[hn,Bool.true_and]
   refine Zk (b.v.take i,b.v[i],()) rfl (XT (fun h=> ?_) fun h=>XQ (fun h3=> ?_) fun h3=>XQ (fun h4=> ?_) fun h4=> ?_)
   ·have h:(b.v.take i).contains b.v[i]=true:=h
    rw[h];exact ZL rfl
   ·rw[decide_eq_true h3,show(b.v.take i).contains b.v[i]=false from h];exact ZL rfl
   ·rw[decide_eq_true h4,decide_eq_false h3,show(b.v.take i).contains b.v[i]=false from h];exact ZL rfl
   ·have h:(b.v.take i).contains b.v[i]=false:=h
    have q1:b.m+1<=20000:=by omega
    have q2:1<=b.m+1:=by omega
    have hm:n*(b.m+1)<=20000*20000:=Int.le_trans (Int.mul_le_mul_of_nonneg_left q1 (by omega)) (Int.mul_le_mul_of_nonneg_right h2 (by omega))
    have hm1:1<=n*(b.m+1):=by
     have:=Int.mul_le_mul h1 q2 (by omega) (by omega)
     omega
    rw[a3w (n:=b.m+1) (by omega) (by omega),a3w (n:=n*(b.m+1)) (by omega) (by omega),decide_eq_false h3,decide_eq_false h4,h]
    refine XQ (fun h5=> ?_) fun h5=> ?_
    ·rw[decide_eq_true h5];exact ZL rfl
    ·rw[decide_eq_false h5,next (by omega),<- ht]
     exact ih (i+1) (n*(b.m+1)) (by omega) hm1 (by omega)
theorem a1z: ∀ a:BoxT×Unit,ZH a.1=true->Ze U0 0 (Zb V6 (Zi (Y4 a.1))) Uc [] (Yk a5m (encL a)):=by
 rintro⟨b,⟨⟩⟩ h
 rw[<- a2c]
 refine b8y b ?_
 have:=Od b h b.v.length 0 1 (by omega) (by omega) (by omega)
 rw[List.length_map]
 exact this
theorem JA(vs:List Str)(p:List Int){i:Nat}(h1:i<vs.length)(h2:i<p.length):Zq (vs.take (i+1)) (p.take (i+1))=Zq (vs.take i) (p.take i)++[⟨vs[i],p[i]⟩]:=by
 unfold Zq
 rw[List.take_succ_eq_append_getElem h1,List.take_succ_eq_append_getElem h2,List.zipWith_append (by simp[List.length_take];omega)]
 rfl
theorem OI(vs:List Str)(p:List Int){i:Nat}(h:min vs.length p.length<=i):Zq (vs.take i) (p.take i)=Zq vs p:=by
 unfold Zq
 rw[<- List.take_zipWith]
 exact List.take_of_length_le (by rw[List.length_zipWith];exact h)
theorem GN(vs:List Str)(p:List Int){i:Nat}(h1:i<=vs.length)(h2:i<=p.length):(Zq (vs.take i) (p.take i)).length=i:=by
 unfold Zq
 rw[List.length_zipWith,List.length_take,List.length_take];omega
end Go.Pl
namespace Go.Pl
open Go.RowKit
open Enc (enc dec is)
open EncL (encL decL isL)
set_option maxRecDepth 100000
def Yn:IC:=(Zh [Za 4 (.box 2 (.t 0)) 0,Za 8 (.mv (Zy 0)) 1] (.seq (Zh [Za 11 (.load true [(.sl 1),(.int .i64)] (.t 4)) 0,Za 12 (YT 50 [(.t 11)]) 0,Za 13 (.un .not (.t 12)) 2,Za 14 (Zc 13) 2,ZX 15 (Zc 1) 2 14,ZX 16 (YT 95 [(.t 15)]) 2 14,ZX 17 (.un .not (.t 16)) 4 14,Za 18 (.pick (.t 14) (.c (.bool true)) (.t 17)) 4,Za 19 (Zc 18) 4,ZX 20 (Zc 2) 4 19,ZX 21 (.un .not (.t 20)) 4 19,Za 22 (.pick (.t 19) (.c (.bool true)) (.t 21)) 4] (.cond (.t 22) (Zh [Za 8 (.mv (Zy 1)) 0] .ret) .skip)) (.seq (Zh [Za 23 (Zc 1) 0,Za 24 (.len 1 (.t 23)) 0,Za 25 (.mv (Zy 0)) 0] (.block 0 (.loop [25,24,23,3,4] (Zh [Za 26 (ZA .lss (.t 25) (.t 24)) 0] (.seq (.cond (.t 26) .skip (.exit 0)) (.seq (.block 1 (Zh [Za 27 (.iaddr 3 (.t 23) (.t 25)) 0,Za 28 (.load true [.bool,(.int .i64),(.sl 2)] (.t 27)) 0,Za 10 (.alloc (.agg [(.bool false),(.int .i64 0),(.sl 0 true [])])) 0,Ui (.store 3 (.t 10) (.t 28)) 1] (.reg [Za 29 (Zc 3) 0,Za 30 (.faddr 1 (.t 10)) 0,Za 31 (.load true [(.int .i64),(.sl 2)] (.t 30)) 0,Za 32 (YT 174 [(.t 31)]) 0,Za 33 (.append 9 1 16 (.t 29) (.t 32)) 2,Za 3 (Zc 33) 3] none))) (.reg [Za 34 (ZA .add (.t 25) (Zy 1)) 0,Za 25 (Zc 34) 0] none))))))) (.seq (Zh [Za 35 (Zc 3) 0,Za 36 (.mkfn 176 [] [(.t 4)]) 0,Za 37 (YT 175 [(.t 35),(.t 36)]) 0] (.cond (.t 37) (Zh [Za 8 (.mv (Zy 7)) 0] .ret) .skip)) (Zh [Za 8 (.mv (Zy 0)) 0] .ret)))))
def Yp:List IRes:=[(.tmp 8)]
abbrev TI:Nat:=38
def YI:ZO:=Xc [(50,.pure (preT (fun x:BoxT×Unit=>ZH x.1)) (Zj (fun x:BoxT×Unit=>Y4 x.1))),(95,.pure (preT (fun x:List Fact×Unit=>Zf x.1)) (Zj (fun x:List Fact×Unit=>YC x.1))),(174,.pure (preT (fun x:Lin×Unit=>decide (x.1.t.length<=1000000))) (Zj (fun x:Lin×Unit=>Zg x.1))),(175,.own (WH 176) Mc)]
theorem b9a{G:PV->Prop}(b:BoxT)(fs:List Fact)(ok:Bool)(h:(Go.Pl.preT (fun(x:BoxT×Unit)=>ZH x.1) [(.agg [(.sl 1 false (List.map enc b.v)),(.int .i64 b.m)])])=true∧(∃ y0:Bool,AV.pv (Zj (fun(x:BoxT×Unit)=>Y4 x.1) [(.agg [(.sl 1 false (List.map enc b.v)),(.int .i64 b.m)])])=AV.pv (enc y0)∧(if (!y0)=true then G ((.int .i64 1))else((Go.Pl.preT (fun(x:List Fact×Unit)=>Zf x.1) [(.sl 3 false (List.map enc fs))])=true∧(∃ y1:Bool,AV.pv (Zj (fun(x:List Fact×Unit)=>YC x.1) [(.sl 3 false (List.map enc fs))])=AV.pv (enc y1)∧(if (!y1)=true then G ((.int .i64 1))else(if (!ok)=true then G ((.int .i64 1))else(At YI 0 (Zb Yp G) Yn 0 38 [(3,(.pv (.sl 0 true []))),(4,(.ptr 0 0)),(23,(.pv (.sl 3 false (List.map enc fs)))),(24,(.pv (.int .i64 (↑(List.length (List.map enc fs)):Int)))),(25,(.pv (.int .i64 0)))] [(.obj (.box [(.pv (.sl 1 false (List.map enc b.v))),(.pv (.int .i64 b.m))]))])))))))):Ze YI 0 (Zb Yp G) Yn [] (Yk 38 [enc b,enc fs,.bool ok,.sl 0 true []]):=Ze.tp (.req (.abs (Bool) (fun YY=>AV.pv (enc YY)) (.ask (.lit (.lit (.lit (.lit (.lit (.lit (.lit (.nil)))))))) (.lit (.req (.abs (Bool) (fun YY=>AV.pv (enc YY)) (.lit (.lit (.ask (.lit (.lit (.lit (.nil)))) (.lit (.lit (.ask (.nil) (.nil))))))))))))) h (by kernel_rfl)
theorem A8{G:PV->Prop}(b:BoxT)(fs:List Fact)(ok:Bool)(i:Int)(h:if (decide (i<(↑(List.length fs):Int)))=true then(decide (0<=i)&&decide (Int.toNat i<List.length (List.map enc fs))&&Enc.sz Fact==3)=true∧(∃ y0:Fact,AV.pv (PV.rptr (PV.cells (List.getD (List.map enc fs) (Int.toNat i) default)))=AV.pv (PV.rptr (PV.cells ((enc) y0)))∧((Go.Pl.preT (fun(x:Lin×Unit)=>decide (List.length x.1.t<=1000000)) [(.agg [(.int .i64 (PV.asInt (List.getD (PV.cells (enc y0)) (0+1) default))),(.sl 2 false (PV.asXs (List.getD (PV.cells (enc y0)) (0+1+1) default)))])])=true∧(∃ y1:List Str,AV.pv (Zj (fun(x:Lin×Unit)=>Zg x.1) [(.agg [(.int .i64 (PV.asInt (List.getD (PV.cells (enc y0)) (0+1) default))),(.sl 2 false (PV.asXs (List.getD (PV.cells (enc y0)) (0+1+1) default)))])])=AV.pv (enc y1)∧((List.isEmpty (List.map enc y1)||Enc.sz Str==1)=true∧(if (List.isEmpty (List.map enc y1))=true then At YI 0 (Zb Yp G) Yn 0 38 [(3,(.pv (.sl 0 true []))),(4,(.ptr 0 0)),(23,(.pv (.sl 3 false (List.map enc fs)))),(24,(.pv (.int .i64 (↑(List.length fs):Int)))),(25,(.pv (.int .i64 (IntKind.wrap IntKind.i64 (i+1)))))] [(.obj (.box [(.pv (.sl 1 false (List.map enc b.v))),(.pv (.int .i64 b.m))]))]else(((List.isEmpty ([]:List PV)||0==1)&&decide ((List.length ([]:List PV)+List.length (List.map enc y1))*16<=1099511627776)&&decide (List.length ([]:List PV)+List.length (List.map enc y1)<=1099511627776))=true∧(At YI 0 (Zb Yp G) Yn 0 38 [(3,(.row 0 (List.length ([]:List PV)+List.length (List.map enc y1)) 0 (List.length ([]:List PV)+List.length (List.map enc y1)))),(4,(.ptr 1 0)),(23,(.pv (.sl 3 false (List.map enc fs)))),(24,(.pv (.int .i64 (↑(List.length fs):Int)))),(25,(.pv (.int .i64 (IntKind.wrap IntKind.i64 (i+1)))))] [(.obj (.row false 9 1 (([]:List PV)++List.map enc y1))),(.obj (.box [(.pv (.sl 1 false (List.map enc b.v))),(.pv (.int .i64 b.m))]))])))))))else((WH 176 [(.pv (.sl 0 true [])),(.fn 176 [] [(.ptr 0 0)])] [(.box [(.pv (.sl 1 false (List.map enc b.v))),(.pv (.int .i64 b.m))])])=true∧(G ((.int .i64 0))))):At YI 0 (Zb Yp G) Yn 0 38 [(3,.pv (.sl 0 true [])),(4,.ptr 0 0),(23,.pv (enc fs)),(24,.pv (.int .i64 fs.length)),(25,.pv (.int .i64 i))] [.obj (.box [.pv (enc b.v),.pv (.int .i64 b.m)])]:=At.tp (.lit (.ask (.req (.abs (Fact) (fun YY=>AV.pv (PV.rptr (PV.cells ((enc) YY)))) (.lit (.req (.abs (List Str) (fun YY=>AV.pv (enc YY)) (.req (.lit (.ask (.lit (.nil)) (.req (.lit (.nil))))))))))) (.req (.keep (.lit (.nil)))))) h (by kernel_rfl)
theorem Sb{G:PV->Prop}(b:BoxT)(fs:List Fact)(ok:Bool)(i:Int)(q:Nat)(ns:List Str)(h:if (decide (i<(↑(List.length fs):Int)))=true then(decide (0<=i)&&decide (Int.toNat i<List.length (List.map enc fs))&&Enc.sz Fact==3)=true∧(∃ y0:Fact,AV.pv (PV.rptr (PV.cells (List.getD (List.map enc fs) (Int.toNat i) default)))=AV.pv (PV.rptr (PV.cells ((enc) y0)))∧((Go.Pl.preT (fun(x:Lin×Unit)=>decide (List.length x.1.t<=1000000)) [(.agg [(.int .i64 (PV.asInt (List.getD (PV.cells (enc y0)) (0+1) default))),(.sl 2 false (PV.asXs (List.getD (PV.cells (enc y0)) (0+1+1) default)))])])=true∧(∃ y1:List Str,AV.pv (Zj (fun(x:Lin×Unit)=>Zg x.1) [(.agg [(.int .i64 (PV.asInt (List.getD (PV.cells (enc y0)) (0+1) default))),(.sl 2 false (PV.asXs (List.getD (PV.cells (enc y0)) (0+1+1) default)))])])=AV.pv (enc y1)∧((List.isEmpty (List.map enc y1)||Enc.sz Str==1)=true∧((List.length (List.map enc ns)==q&&q==q&&decide ((q+List.length (List.map enc y1))*16<=1099511627776)&&decide (q+List.length (List.map enc y1)<=1099511627776))=true∧(At YI 0 (Zb Yp G) Yn 0 38 [(3,(.row 0 (q+List.length (List.map enc y1)) 0 (q+List.length (List.map enc y1)))),(4,(.ptr 1 0)),(23,(.pv (.sl 3 false (List.map enc fs)))),(24,(.pv (.int .i64 (↑(List.length fs):Int)))),(25,(.pv (.int .i64 (IntKind.wrap IntKind.i64 (i+1)))))] [(.obj (.row false 9 1 (List.map enc ns++List.map enc y1))),(.obj (.box [(.pv (.sl 1 false (List.map enc b.v))),(.pv (.int .i64 b.m))]))]))))))else((WH 176 [(.row 0 q 0 q),(.fn 176 [] [(.ptr 1 0)])] [(.row false 9 1 (List.map enc ns)),(.box [(.pv (.sl 1 false (List.map enc b.v))),(.pv (.int .i64 b.m))])])=true∧(if (List.any (KS (List.map enc ns)) fun(s:Str)=> !List.contains (dec (enc b.v)) s)=true then G ((.int .i64 7))else(G ((.int .i64 0)))))):At YI 0 (Zb Yp G) Yn 0 38 [(3,.row 0 q 0 q),(4,.ptr 1 0),(23,.pv (enc fs)),(24,.pv (.int .i64 fs.length)),(25,.pv (.int .i64 i))] [.obj (.row false 9 1 (ns.map enc)),.obj (.box [.pv (enc b.v),.pv (.int .i64 b.m)])]:=At.tp (.lit (.ask (.req (.abs (Fact) (fun YY=>AV.pv (PV.rptr (PV.cells ((enc) YY)))) (.lit (.req (.abs (List Str) (fun YY=>AV.pv (enc YY)) (.req (.req (.lit (.nil))))))))) (.req (.keep (.ask (.nil) (.nil)))))) h (by kernel_rfl)
theorem a6w{G:AV×List AObj×List AObj->Prop}(b:BoxT)(fs:List Fact)(ok:Bool)(n:Nat)(l:List Str)(h:(Go.Pl.preT (fun(x:BoxT×Unit)=>ZH x.1) [(.agg [(.sl 1 false (List.map enc b.v)),(.int .i64 b.m)])])=true∧(∃ y0:Bool,AV.pv (Zj (fun(x:BoxT×Unit)=>Y4 x.1) [(.agg [(.sl 1 false (List.map enc b.v)),(.int .i64 b.m)])])=AV.pv (enc y0)∧(if (!y0)=true then G (((.pv (.int .i64 1)),([(.row false 9 1 (List.map enc l))],[])))else((Go.Pl.preT (fun(x:List Fact×Unit)=>Zf x.1) [(.sl 3 false (List.map enc fs))])=true∧(∃ y1:Bool,AV.pv (Zj (fun(x:List Fact×Unit)=>YC x.1) [(.sl 3 false (List.map enc fs))])=AV.pv (enc y1)∧(if (!y1)=true then G (((.pv (.int .i64 1)),([(.row false 9 1 (List.map enc l))],[])))else(if (!ok)=true then G (((.pv (.int .i64 1)),([(.row false 9 1 (List.map enc l))],[])))else(At YI 1 (Zt 1 Yp G) Yn 0 38 [(3,(.row 0 n 0 n)),(4,(.ptr 1 0)),(23,(.pv (.sl 3 false (List.map enc fs)))),(24,(.pv (.int .i64 (↑(List.length (List.map enc fs)):Int)))),(25,(.pv (.int .i64 0)))] [(.obj (.row false 9 1 (List.map enc l))),(.obj (.box [(.pv (.sl 1 false (List.map enc b.v))),(.pv (.int .i64 b.m))]))])))))))):Ze YI 1 (Zt 1 Yp G) Yn [] (YV 38 [.pv (enc b),.pv (enc fs),.pv (.bool ok),.row 0 n 0 n] [.row false 9 1 (l.map enc)]):=Ze.to (.req (.abs (Bool) (fun YY=>AV.pv (enc YY)) (.ask (.lit (.lit (.lit (.lit (.lit (.lit (.lit (.nil)))))))) (.lit (.req (.abs (Bool) (fun YY=>AV.pv (enc YY)) (.lit (.lit (.ask (.lit (.lit (.lit (.nil)))) (.lit (.lit (.ask (.nil) (.nil))))))))))))) h (by kernel_rfl)
theorem Ah{G:AV×List AObj×List AObj->Prop}(b:BoxT)(fs:List Fact)(ok:Bool)(n:Nat)(l:List Str)(i:Int)(q:Nat)(ns:List Str)(h:if (decide (i<(↑(List.length fs):Int)))=true then(decide (0<=i)&&decide (Int.toNat i<List.length (List.map enc fs))&&Enc.sz Fact==3)=true∧(∃ y0:Fact,AV.pv (PV.rptr (PV.cells (List.getD (List.map enc fs) (Int.toNat i) default)))=AV.pv (PV.rptr (PV.cells ((enc) y0)))∧((Go.Pl.preT (fun(x:Lin×Unit)=>decide (List.length x.1.t<=1000000)) [(.agg [(.int .i64 (PV.asInt (List.getD (PV.cells (enc y0)) (0+1) default))),(.sl 2 false (PV.asXs (List.getD (PV.cells (enc y0)) (0+1+1) default)))])])=true∧(∃ y1:List Str,AV.pv (Zj (fun(x:Lin×Unit)=>Zg x.1) [(.agg [(.int .i64 (PV.asInt (List.getD (PV.cells (enc y0)) (0+1) default))),(.sl 2 false (PV.asXs (List.getD (PV.cells (enc y0)) (0+1+1) default)))])])=AV.pv (enc y1)∧((List.isEmpty (List.map enc y1)||Enc.sz Str==1)=true∧((List.length (List.map enc ns)==q&&q==q&&decide ((q+List.length (List.map enc y1))*16<=1099511627776)&&decide (q+List.length (List.map enc y1)<=1099511627776))=true∧(At YI 1 (Zt 1 Yp G) Yn 0 38 [(3,(.row 0 (q+List.length (List.map enc y1)) 0 (q+List.length (List.map enc y1)))),(4,(.ptr 1 0)),(23,(.pv (.sl 3 false (List.map enc fs)))),(24,(.pv (.int .i64 (↑(List.length fs):Int)))),(25,(.pv (.int .i64 (IntKind.wrap IntKind.i64 (i+1)))))] [(.obj (.row false 9 1 (List.map enc ns++List.map enc y1))),(.obj (.box [(.pv (.sl 1 false (List.map enc b.v))),(.pv (.int .i64 b.m))]))]))))))else((WH 176 [(.row 0 q 0 q),(.fn 176 [] [(.ptr 1 0)])] [(.row false 9 1 (List.map enc ns)),(.box [(.pv (.sl 1 false (List.map enc b.v))),(.pv (.int .i64 b.m))])])=true∧(if (List.any (KS (List.map enc ns)) fun(s:Str)=> !List.contains (dec (enc b.v)) s)=true then G (((.pv (.int .i64 7)),([(.row false 9 1 (List.map enc ns))],[])))else(G (((.pv (.int .i64 0)),([(.row false 9 1 (List.map enc ns))],[]))))))):At YI 1 (Zt 1 Yp G) Yn 0 38 [(3,.row 0 q 0 q),(4,.ptr 1 0),(23,.pv (enc fs)),(24,.pv (.int .i64 fs.length)),(25,.pv (.int .i64 i))] [.obj (.row false 9 1 (ns.map enc)),.obj (.box [.pv (enc b.v),.pv (.int .i64 b.m)])]:=At.to (.lit (.ask (.req (.abs (Fact) (fun YY=>AV.pv (PV.rptr (PV.cells ((enc) YY)))) (.lit (.req (.abs (List Str) (fun YY=>AV.pv (enc YY)) (.req (.req (.lit (.nil))))))))) (.req (.keep (.ask (.nil) (.nil)))))) h (by kernel_rfl)
def PQ:IC:=(Zh [Za 2 (.box 2 (.t 0)) 0,Za 3 (.box 1 (.t 1)) 1,Za 4 (.mv (.c .nilfn)) 2] (Zh [Za 5 (.mkfn 177 [] [(.t 2),(.t 3)]) 0,Za 4 (Zc 5) 0] .ret))
def Ms:List IRes:=[(.tmp 4)]
abbrev b9y:Nat:=6
def OV:ZO:=Xc []
theorem c6x{G:AV×List AObj×List AObj->Prop}(b:BoxT)(fs:List Fact)(h:G (((.fn 177 [] [(.ptr 0 0),(.ptr 1 0)]),([],[(.box [(.pv (.sl 1 false (List.map enc b.v))),(.pv (.int .i64 b.m))]),(.box [(.pv (.sl 3 false (List.map enc fs)))])])))):Ze OV 0 (Zt 0 Ms G) PQ [] (YV 6 [.pv (enc b),.pv (enc fs)] []):=Ze.to (.nil) h (by kernel_rfl)
def QF:IC:=(.block 1 (.reg [Za 20 (Yl [(.sl 1)] (.t 7)) 0,Za 21 (Zc 8) 0,Za 22 (.bslice 34 1 1 (.sl 0 true []) [(0,(.t 21))]) 0,Za 23 (.append 34 1 24 (.t 20) (.t 22)) 1,Ui (.store 1 (.t 7) (.t 23)) 2] none))
def Mo:ZO:=Xc [(116,.pure (preT (fun x:BoxT×List Fact×Bool×NilS×Unit=>ZH x.1&&Zf x.2.1&&decide (x.2.1.length<=100))) (Zj (fun x:BoxT×List Fact×Bool×NilS×Unit=>Zv x.1 x.2.1 x.2.2.1 []))),(117,.own Xn Vd)]
theorem c3w{G:ZC->Prop}(E:YL)(p:List Int)(vs:List Coef)(h:E 99 ⟨Z4 25 0 [],[(.obj (.box [(.row 1 1 0 1)])),(.obj (.row false 34 1 [(.sl 1 false (List.map enc p))]))]⟩ (fun x S'=>JP Mo E 1 (fun st=>G st.heap) QF 99 x S')):ZM Mo E 1 (fun st=>G st.heap) (.inl QF) [.seq (.ext 99 [])] ⟨Z4 25 0 [(7,.ptr 0 0),(8,.pv (enc p)),(18,.pv (enc p)),(19,.pv (enc vs))],[.obj (.box [.pv (.sl 0 true [])])]⟩:=ZM.mh (.lit (.lit (.lit (.lit (.lit (.nil)))))) h (by kernel_rfl)
theorem c4m{G:ZC->Prop}(E:YL)(p:List Int)(vs:List Coef)(n:Nat)(xs:List (List Int))(h:(List.length (List.map enc xs)==n&&n==n&&decide ((n+List.length (List.drop 0 (List.take 1 [enc p])))*24<=1099511627776)&&decide (n+List.length (List.drop 0 (List.take 1 [enc p]))<=1099511627776))=true∧(E 99 ⟨Z4 25 0 [],[(.obj (.box [(.row 1 (n+List.length (List.drop 0 (List.take 1 [enc p]))) 0 (n+List.length (List.drop 0 (List.take 1 [enc p]))))])),(.obj (.row false 34 1 (List.map enc xs++List.drop 0 (List.take 1 [enc p]))))]⟩ (fun x S'=>JP Mo E 2 (fun st=>G st.heap) QF 99 x S'))):ZM Mo E 2 (fun st=>G st.heap) (.inl QF) [.seq (.ext 99 [])] ⟨Z4 25 0 [(7,.ptr 0 0),(8,.pv (enc p)),(18,.pv (enc p)),(19,.pv (enc vs))],[.obj (.box [.row 1 n 0 n]),.obj (.row false 34 1 (xs.map enc))]⟩:=ZM.mh (.lit (.lit (.req (.nil)))) h (by kernel_rfl)
def Df:IC:=(Zh [Za 2 (.box 2 (.t 0)) 0,Za 4 (.mv (.c (.sl 0 true []))) 1,Za 5 (.mv (Zy 0)) 1] (.seq (Zh [Za 9 (.load true [(.sl 1),(.int .i64)] (.t 2)) 0,Za 10 (Zc 1) 0,Za 11 (YT 116 [(.t 9),(.t 10),(.c (.bool true)),(.c (.sl 0 true []))]) 0,Za 6 (Zc 11) 2] (Zh [Za 12 (Zc 6) 0,Za 13 (ZA .neq (.t 12) (Zy 0)) 0] (.cond (.t 13) (Zh [Za 14 (Zc 6) 0,Za 4 (.mv (.c (.sl 0 true []))) 0,Za 5 (Zc 14) 0] .ret) .skip))) (Zh [Za 7 (.alloc (.sl 0 true [])) 0] (.seq (Zh [Za 15 (.load true [(.sl 1),(.int .i64)] (.t 2)) 0,Za 16 (Zc 1) 0,Za 17 (YT 117 [(.t 15),(.t 16)]) 0] (.block 0 (.ext 0 [17,18,7,8,21,20,22,23]))) (Zh [Za 24 (Yl [(.sl 1)] (.t 7)) 0,Za 4 (Zc 24) 0,Za 5 (.mv (Zy 0)) 0] .ret)))))
def Dv:List IRes:=[(.tmp 4),(.tmp 5)]
abbrev c5x:Nat:=25
def JR:ZO:=Xc [(116,.pure (preT (fun x:BoxT×List Fact×Bool×NilS×Unit=>ZH x.1&&Zf x.2.1&&decide (x.2.1.length<=100))) (Zj (fun x:BoxT×List Fact×Bool×NilS×Unit=>Zv x.1 x.2.1 x.2.2.1 []))),(117,.own Xn Vd)]
theorem d0n{G:PV->Prop}(E:YL)(b:BoxT)(fs:List Fact)(h:(Go.Pl.preT (fun(x:BoxT×List Fact×Bool×NilS×Unit)=>ZH x.1&&Zf x.2.1&&decide (List.length x.2.1<=100)) [(.agg [(.sl 1 false (List.map enc b.v)),(.int .i64 b.m)]),(.sl 3 false (List.map enc fs)),(.bool true),(.sl 0 true [])])=true∧(∃ y0:Int,AV.pv (Zj (fun(x:BoxT×List Fact×Bool×NilS×Unit)=>Zv x.1 x.2.1 x.2.2.1 []) [(.agg [(.sl 1 false (List.map enc b.v)),(.int .i64 b.m)]),(.sl 3 false (List.map enc fs)),(.bool true),(.sl 0 true [])])=AV.pv (enc y0)∧(if (y0 != 0)=true then G ((.tup [(.sl 0 true []),(.int .i64 y0)]))else((Xn [(.pv (.agg [(.sl 1 false (List.map enc b.v)),(.int .i64 b.m)])),(.pv (.sl 3 false (List.map enc fs)))] [])=true∧(E 0 ⟨Z4 25 0 [(7,(.ptr 0 0)),(8,.undef),(17,(.fn 177 [] [(.ptr 1 0),(.ptr 2 0)])),(18,.undef),(20,.undef),(21,.undef),(22,.undef),(23,.undef)],[(.obj (.box [(.pv (.sl 0 true []))])),(.obj (.box [(.pv (.sl 1 false (List.map enc b.v))),(.pv (.int .i64 b.m))])),(.obj (.box [(.pv (.sl 3 false (List.map enc fs)))]))]⟩ (fun x S'=>JP JR E 0 (Zb Dv G) Df 0 x S')))))):ZM JR E 0 (Zb Dv G) (.inl Df) [] (Yk 25 [enc b,enc fs]):=ZM.mp (.req (.abs (Int) (fun YY=>AV.pv (enc YY)) (.lit (.ask (.nil) (.req (.keep (.nil))))))) h (by kernel_rfl)
theorem c0l{G:PV->Prop}(E:YL)(b:BoxT)(fs:List Fact)(h:G ((.tup [(.sl 0 true []),(.int .i64 0)]))):JP JR E 0 (Zb Dv G) Df 0 .normal ⟨Z4 25 0 [(7,.ptr 0 0)],[.obj (.box [.pv (.sl 0 true [])])]⟩:=ZM.mp (.nil) h (by kernel_rfl)
theorem c3i{G:PV->Prop}(E:YL)(b:BoxT)(fs:List Fact)(n:Nat)(xs:List (List Int))(h:(List.length (List.map enc xs)==n)=true∧(G ((.tup [(.sl 1 false (List.drop 0 (List.take n (List.map enc xs)))),(.int .i64 0)])))):JP JR E 0 (Zb Dv G) Df 0 .normal ⟨Z4 25 0 [(7,.ptr 0 0)],[.obj (.box [.row 1 n 0 n]),.obj (.row false 34 1 (xs.map enc))]⟩:=ZM.mp (.req (.nil)) h (by kernel_rfl)
def DF:IC:=(Zh [Za 2 (.box 2 (.t 0)) 0,Za 4 (.mv (Zy 0)) 1,Za 5 (.mv (Zy 0)) 1] (Zh [Za 9 (.load true [(.sl 1),(.int .i64)] (.t 2)) 0,Za 10 (Zc 1) 0,Za 11 (YT 45 [(.t 9),(.t 10)]) 0,Za 8 (Zc 11) 2,Za 12 (.extract (.t 8) 0) 2,Za 13 (.extract (.t 8) 1) 2,Za 6 (Zc 12) 2,Za 7 (Zc 13) 2] (Zh [Za 14 (Zc 6) 0,Za 15 (.len 1 (.t 14)) 0,Za 16 (Zc 7) 0,Za 4 (Zc 15) 0,Za 5 (Zc 16) 0] .ret)))
def D6:List IRes:=[(.tmp 4),(.tmp 5)]
abbrev a6c:Nat:=17
def AJ:ZO:=Xc [(45,.pure (preT (fun x:BoxT×List Fact×Unit=>ZH x.1&&Zf x.2.1&&decide (x.2.1.length<=100)&&decide (x.1.v.length<=1000))) (Zj (fun x:BoxT×List Fact×Unit=>Zo x.1 x.2.1)))]
theorem b0v{G:PV->Prop}(b:BoxT)(fs:List Fact)(h:(Go.Pl.preT (fun(x:BoxT×List Fact×Unit)=>ZH x.1&&Zf x.2.1&&decide (List.length x.2.1<=100)&&decide (List.length x.1.v<=1000)) [(.agg [(.sl 1 false (List.map enc b.v)),(.int .i64 b.m)]),(.sl 3 false (List.map enc fs))])=true∧(∃ y0:List (List Int)×Int,AV.pv (Zj (fun(x:BoxT×List Fact×Unit)=>Zo x.1 x.2.1) [(.agg [(.sl 1 false (List.map enc b.v)),(.int .i64 b.m)]),(.sl 3 false (List.map enc fs))])=AV.pv (enc y0)∧(G ((.tup [(.int .i64 (↑(List.length (List.map enc y0.1)):Int)),(.int .i64 y0.2)]))))):Ze AJ 0 (Zb D6 G) DF [] (Yk 17 [enc b,enc fs]):=Ze.tp (.req (.abs (List (List Int)×Int) (fun YY=>AV.pv (enc YY)) (.nil))) h (by kernel_rfl)
end Go.Pl
namespace Go.Pl
open Go.RowKit
open Enc (enc dec is)
open EncL (encL decL isL)
end Go.Pl
namespace Go.Pl
open Go.RowKit
open Enc (enc dec is)
open EncL (encL decL isL)
set_option maxRecDepth 100000
-- IMPOSSIBLE
end Go.Pl
namespace Go.Pl
open Go.RowKit
open Enc (enc dec is)
open EncL (encL decL isL)
def OO(l:Lin)(i:Nat):List Str:=(l.t.take i).map (·.v)
theorem JM(l:Lin){i:Nat}(h:i<l.t.length):(OO l (i+1)).map (enc:Str->PV)=(OO l i).map enc++[.str l.t[i].v.s]:=by
 unfold OO
 rw[List.take_succ_eq_append_getElem h,List.map_append,List.map_append];rfl
theorem KQ(l:Lin){i:Nat}(h:i<=l.t.length):(OO l i).length=i:=by unfold OO;rw[List.length_map,List.length_take];omega
theorem NR(l:Lin):OO l l.t.length=Zg l:=by unfold OO Zg;rw[List.take_of_length_le (Nat.le_refl _)]
theorem Au{q sz m:Nat}{xs:List PV}(h:xs.length=q)(h1:(q+m)*sz<=1099511627776)(h2:q+m<=1099511627776):(xs.length==q&&q==q&&decide ((q+m)*sz<=1099511627776)&&decide (q+m<=1099511627776))=true:=by simp[h,h1,h2]
theorem Ei(l:Lin)(hl:l.t.length<=1000000): ∀ (k i:Nat),k+i=l.t.length->1<=i ->
  At YX 0 (Zt 0 YE fun r=>r=Jn (Zg l)) YH 0 20 [(3,.row 0 i 0 i),(7,.pv (enc l.t)),(8,.pv (.int .i64 l.t.length)),(9,.pv (.int .i64 i))] [.obj (.row false 9 1 ((OO l i).map enc))]:=by
 intro k
 induction k with
 | zero=>
  intro i hi h1
  obtain rfl:i=l.t.length:=by omega
  refine Rn l _ _ (OO l l.t.length) (ZR (Yd (by omega)) ?_)
  rw[NR]
  unfold Jn
  have e:(Zg l).length=l.t.length:=by rw[<- NR,KQ l (Nat.le_refl _)]
  rw[e]
 | succ k ih=>
  intro i hi h1
  have hlt:i<l.t.length:=by omega
  refine Rn l i i (OO l i) (ZN (Z8 hlt) ⟨Zu hlt rfl,ZB hlt ⟨Au (m:=1) (by rw[List.length_map,KQ l (by omega)]) (by omega) (by omega),?_⟩⟩)
  have:=ih (i+1) (by omega) (by omega)
  rw[JM l hlt,<- next (by omega)]at this
  exact this
theorem a8z: ∀ args os,JN args os=true->Ze YX os.length (Zt os.length YE fun r=>r=G8 args os) YH [] (YV BI args os):=by
 intro args os h
 unfold JN at h
 split at h
 ·rename_i a
  simp only[Bool.and_eq_true,Bool.not_eq_true',decide_eq_true_eq]at h
  obtain⟨⟨h1,h2⟩,h3⟩:=h
  obtain⟨l,rfl⟩:=YB h1
  rw[Enc.dec_enc]at h2 h3
  have hlt:0<l.t.length:=by
   rcases Nat.eq_zero_or_pos l.t.length with e|e
   ·rw[List.length_eq_zero_iff.1 e]at h2;cases h2
   ·exact e
  have ev:G8 [.pv (enc l)] []=Jn (Zg l):=by show Jn (Zg (dec (enc l:PV)))=_;rw[Enc.dec_enc]
  rw[ev]
  refine a4e l ?_
  rw[List.length_map]
  refine RZ l ((0:Nat):Int) (ZN (Z8 hlt) ⟨Zu hlt rfl,ZB hlt ?_⟩)
  have:=Ei l h3 (l.t.length - 1) 1 (by omega) (by omega)
  rw[show(1:Nat)=0+1 from rfl,JM l hlt]at this
  exact this
 ·cases h
theorem OT: ∀ args os,Jo args os=true->Ze YX os.length (Zt os.length YE fun r=>r=CY args os) YH [] (YV BI args os):=by
 intro args os h
 unfold Jo at h
 split at h
 ·rename_i a
  simp only[Bool.and_eq_true,List.isEmpty_iff]at h
  obtain⟨h1,h2⟩:=h
  obtain⟨l,rfl⟩:=YB h1
  rw[Enc.dec_enc]at h2
  refine a4e l ?_
  rw[List.length_map]
  exact RZ l ((0:Nat):Int) (ZR (Yd (by rw[h2];simp)) rfl)
 ·cases h
theorem LF(l:Lin)(hl:l.t.length<=1000000): ∀ (k i:Nat),k+i=l.t.length->1<=i ->
  At YX 0 (Zb YE (Zi (Zg l))) YH 0 20 [(3,.row 0 i 0 i),(7,.pv (enc l.t)),(8,.pv (.int .i64 l.t.length)),(9,.pv (.int .i64 i))] [.obj (.row false 9 1 ((OO l i).map enc))]:=by
 intro k
 induction k with
 | zero=>
  intro i hi h1
  obtain rfl:i=l.t.length:=by omega
  refine Ay l _ _ (OO l l.t.length) (ZR (Yd (by omega)) ⟨by simp[KQ],?_⟩)
  rw[List.drop_zero,List.take_of_length_le (by rw[List.length_map,KQ l (Nat.le_refl _)];exact Nat.le_refl _),NR]
  exact Z0 (x:=Zg l) rfl
 | succ k ih=>
  intro i hi h1
  have hlt:i<l.t.length:=by omega
  refine Ay l i i (OO l i) (ZN (Z8 hlt) ⟨Zu hlt rfl,ZB hlt ⟨Au (m:=1) (by rw[List.length_map,KQ l (by omega)]) (by omega) (by omega),?_⟩⟩)
  have:=ih (i+1) (by omega) (by omega)
  rw[JM l hlt,<- next (by omega)]at this
  exact this
theorem Eg: ∀ a:Lin×Unit,decide (a.1.t.length<=1000000)=true->Ze YX 0 (Zb YE (Zi (Zg a.1))) YH [] (Yk BI (encL a)):=by
 rintro⟨l,⟨⟩⟩ h
 have h:l.t.length<=1000000:=of_decide_eq_true h
 refine b0q l ?_
 rw[List.length_map]
 by_cases h0:l.t.length=0
 ·refine SB l ((0:Nat):Int) (ZR (Yd (by omega)) ?_)
  have:Zg l=[]:=by unfold Zg;rw[List.length_eq_zero_iff.1 h0];rfl
  rw[this]
  exact⟨rfl,rfl⟩
 ·have hlt:0<l.t.length:=by omega
  refine SB l ((0:Nat):Int) (ZN (Z8 hlt) ⟨Zu hlt rfl,ZB hlt ?_⟩)
  have:=LF l h (l.t.length - 1) 1 (by omega) (by omega)
  rw[show(1:Nat)=0+1 from rfl,JM l hlt]at this
  exact this
theorem b3w: ∀ args os,Jy args os=true->Ze O6 os.length (Zt os.length NU fun r=>r=Bl args os) PE [] (YV c3n args os):=by
 intro args os h
 unfold Jy at h
 split at h
 ·rename_i s v m
  simp only[Bool.and_eq_true]at h
  obtain⟨h1,h2⟩:=h
  obtain⟨l,rfl⟩:=YB h1
  rw[Enc.dec_enc]at h2
  have ev:Bl [.pv (.str s),.ptr 0 0] [.box [.pv (enc l),.pv (.int .i64 m)]]=(.pv (.bool (!(l.contains ⟨s⟩))),[.box [.pv (enc l),.pv (.int .i64 m)]],[]):=by
   show(AV.pv (.bool (!((dec (enc l:PV):List Str).contains ⟨s⟩))),_,_)=_
   rw[Enc.dec_enc]
  rw[ev]
  exact c8r s ⟨l,m⟩ ⟨Zl (l,⟨s⟩,()) rfl h2,Zk (l,⟨s⟩,()) rfl rfl⟩
 ·cases h
theorem Pt{n m:Nat}{xs:List PV}(h:TF n m xs=true): ∃ l:List Str,xs=l.map enc∧m=n∧l.length=n∧l.length<=9223372036854775807:=by
 simp only[TF,Bool.and_eq_true,beq_iff_eq]at h
 obtain⟨⟨⟨h1,h2⟩,h3⟩,h4⟩:=h
 obtain⟨l,hl⟩:=YB h3
 have hl:PV.sl 1 false xs=PV.sl 1 false (l.map enc):=hl
 injection hl with _ _ hx
 subst hx
 have e:KS (l.map enc)=l:=Enc.dec_enc l
 rw[e]at h4
 exact⟨l,rfl,h1,by simpa using h2,ZF.1 h4⟩
theorem Qc(l:List Str):KS (l.map enc)=l:=Enc.dec_enc l
theorem Br{l:List Str}{n:Nat}(hn:l.length=n)(hs:l.length<=9223372036854775807):TF n n (l.map enc)=true:=by
 have hc:VV (List Str) (.sl 1 false (l.map enc))=true:=Yb l
 simp only[TF,hc,Qc,ZF.2 hs,List.length_map,hn]
 simp
theorem b7i{l:List Str}{i:Nat}(h:i<l.length):List.getD (List.map (enc:Str->PV) l) (0+Int.toNat (i:Int)) default=enc l[i]:=by simp[List.getD,h]
theorem c2f(s:List UInt8)(l:List Str)(m:Int)(h:Zr l=true):Jy [.pv (.str s),.ptr 0 0] [.box [.pv (enc l),.pv (.int .i64 m)]]=true:=by
 show(VV (List Str) (enc l)&&Zr (dec (enc l:PV):List Str))=true
 rw[Yb,Enc.dec_enc,h];rfl
theorem b9m(l:List Str)(n:Nat)(b:BoxT)(hn:l.length=n)(hl:l.length<=9223372036854775807)(hb:Zr b.v=true): ∀ (j i:Nat),j+i=n->(∀ k (h:k<l.length),k<i->(!(b.v.contains l[k]))=false) ->
  At JW 2 (Zt 2 QJ fun r=>r=(.pv (.int .i64 (ZI (fun s:Str=> !(b.v.contains s)) l)),[.row false 9 1 (l.map enc),.box [.pv (enc b.v),.pv (.int .i64 b.m)]],[])) Qn 0 19 [(0,.row 0 n 0 n),(1,.fn 176 [] [.ptr 1 0]),(7,.pv (.int .i64 n)),(8,.pv (.int .i64 i))] [.obj (.row false 9 1 (l.map enc)),.obj (.box [.pv (enc b.v),.pv (.int .i64 b.m)])]:=by
 intro j
 induction j with
 | zero=>
  intro i hi hno
  refine b5o l n b i (ZR (Yd (by omega)) ?_)
  rw[Qz _ _ (fun k hk=>hno k hk (by omega))]
  rfl
 | succ j ih=>
  intro i hi hno
  have hlt:i<l.length:=by omega
  refine b5o l n b i (ZN (Z8 (by omega)) ?_)
  simp only[b7i hlt]
  refine⟨by simp;omega,by simp;omega,rfl,c2f _ _ _ hb,?_⟩
  rw[Enc.dec_enc]
  refine XU (fun h=> ?_) fun h=> ?_
  ·have h:b.v.contains l[i]=false:=h
   rw[QC (fun s:Str=> !(b.v.contains s)) l i hlt hno (by rw[h];rfl)]
   rfl
  ·have h:b.v.contains l[i]=true:=h
   rw[next (by omega)]
   refine ih (i+1) (by omega) fun k hk hki=> ?_
   by_cases e:k=i
   ·subst e;rw[h];rfl
   ·exact hno k hk (by omega)
theorem c4t: ∀ args os,WH 176 args os=true->Ze JW os.length (Zt os.length QJ fun r=>r=Ba args os) Qn [] (YV c7x args os):=by
 intro args os h
 unfold WH at h
 split at h
 ·rename_i n m g ty xs v k
  simp only[Bool.and_eq_true,beq_iff_eq]at h
  obtain⟨⟨⟨⟨rfl,rfl⟩,h3⟩,h4⟩,h5⟩:=h
  obtain⟨l,rfl,rfl,hn,hl⟩:=Pt h3
  obtain⟨bv,rfl⟩:=YB h4
  rw[Enc.dec_enc]at h5
  have ev:Ba [.row 0 m 0 m,.fn 176 [] [.ptr 1 0]] [.row false 9 1 (l.map enc),.box [.pv (enc bv),.pv (.int .i64 k)]]=(.pv (.int .i64 (ZI (fun s:Str=> !(bv.contains s)) l)),[.row false 9 1 (l.map enc),.box [.pv (enc bv),.pv (.int .i64 k)]],[]):=by
   show(AV.pv (.int .i64 (ZI (fun s:Str=> !((dec (enc bv:PV):List Str).contains s)) (KS (l.map enc)))),_,_)=_
   rw[Enc.dec_enc,Qc]
  rw[ev]
  exact d1t l m ⟨bv,k⟩ (b9m l m ⟨bv,k⟩ hn hl h5 m 0 rfl fun k _ h=>by omega)
 ·rename_i g v k
  simp only[Bool.and_eq_true,beq_iff_eq]at h
  obtain⟨⟨rfl,h4⟩,h5⟩:=h
  obtain⟨bv,rfl⟩:=YB h4
  exact d2a ⟨bv,k⟩ (c9h ⟨bv,k⟩ 0 (ZR (by decide) rfl))
 ·cases h
theorem c0r: ∀ args os,WH 176 args os=true->Ze a3b os.length (Zt os.length PS fun r=>r=Mc args os) BN [] (YV c9m args os):=by
 intro args os h
 have h0:=h
 unfold WH at h
 split at h
 ·rename_i n m g ty xs v k
  simp only[Bool.and_eq_true,beq_iff_eq]at h
  obtain⟨⟨⟨⟨rfl,rfl⟩,h3⟩,h4⟩,h5⟩:=h
  obtain⟨l,rfl,rfl,hn,hl⟩:=Pt h3
  obtain⟨bv,rfl⟩:=YB h4
  refine d0k l m ⟨bv,k⟩ ⟨h0,?_⟩
  rw[Wi]
  rfl
 ·rename_i g v k
  simp only[Bool.and_eq_true,beq_iff_eq]at h
  obtain⟨⟨rfl,h4⟩,h5⟩:=h
  obtain⟨bv,rfl⟩:=YB h4
  exact d0r ⟨bv,k⟩ ⟨h0,rfl⟩
 ·cases h
def Gh(fs:List Fact):List Str:=fs.flatMap fun f=>Zg f.l
theorem K8{fs:List Fact}{i:Nat}(h:i<fs.length):Gh (fs.take (i+1))=Gh (fs.take i)++Zg fs[i].l:=by
 unfold Gh
 rw[List.take_succ_eq_append_getElem h,List.flatMap_append];simp
theorem Qx{fs:List Fact}(hv:YC fs=true){i:Nat}(hi:i<fs.length):(Zg fs[i].l).length<=12:=by
 unfold Zg
 rw[List.length_map]
 unfold YC at hv
 exact RU (List.all_eq_true.1 hv _ (List.getElem_mem hi))
theorem Gw{fs:List Fact}(hv:YC fs=true): ∀ i,i<=fs.length->(Gh (fs.take i)).length<=12*i
 | 0,_=>by simp[Gh]
 | i+1,h=>by
  rw[K8 (by omega),List.length_append]
  have:=Gw hv i (by omega)
  have:=Qx hv (i:=i) (by omega)
  omega
def inE(vs:List Str)(ns:List Str):Int:=if YQ vs ns then 0 else 7
theorem TM(vs ns:List Str):(ns.any fun s=> !(vs.contains s)) = !(YQ vs ns):=by
 unfold YQ
 induction ns with
 | nil=>rfl
 | cons s r ih=>simp only[List.any_cons,List.all_cons,ih,Bool.not_and]
theorem NC(b:BoxT)(fs:List Fact)(ok:Bool)(l:List Str)(hb:Zr b.v=true)(hf:Zf fs=true)(hv:YC fs=true)(hfl:fs.length<=100)(hl:l.length<=1000)(n:Nat)(ls:List Str): ∀ (k i:Nat),k+i=fs.length ->
  At YI 1 (Zt 1 Yp fun r=>r=(.pv (.int .i64 (inE b.v (l++Gh fs))),[.row false 9 1 ((l++Gh fs).map enc)],[])) Yn 0 38 [(3,.row 0 (l++Gh (fs.take i)).length 0 (l++Gh (fs.take i)).length),(4,.ptr 1 0),(23,.pv (enc fs)),(24,.pv (.int .i64 fs.length)),(25,.pv (.int .i64 i))] [.obj (.row false 9 1 ((l++Gh (fs.take i)).map enc)),.obj (.box [.pv (enc b.v),.pv (.int .i64 b.m)])]:=by
 intro k
 induction k with
 | zero=>
  intro i hi
  have hn:=Gw hv i (by omega)
  have hd:fs.take i=fs:=List.take_of_length_le (by omega)
  rw[hd]at hn ⊢
  refine Ah b fs ok n ls i _ (l++Gh fs) (ZR (Yd (by omega)) ⟨?_,?_⟩)
  ·show(176==176&&9==9&&TF _ _ _&&VV (List Str) (enc b.v)&&Zr (dec (enc b.v:PV):List Str))=true
   rw[Br rfl (by rw[List.length_append];omega),Yb,Enc.dec_enc,hb];rfl
  ·rw[Qc,Enc.dec_enc,TM]
   unfold inE
   refine XU (fun h=> ?_) fun h=> ?_
   ·rw[h];rfl
   ·rw[h];rfl
 | succ k ih=>
  intro i hi
  have hlt:i<fs.length:=by omega
  have hn:=Gw hv i (by omega)
  have hnb:=Qx hv hlt
  have hnm:(Zg fs[i].l).length=fs[i].l.t.length:=by unfold Zg;rw[List.length_map]
  refine Ah b fs ok n ls i _ (l++Gh (fs.take i)) (ZN (Z8 hlt) ⟨Zu hlt rfl,ZB hlt ⟨Zl (fs[i].l,()) rfl (decide_eq_true (by show fs[i].l.t.length<=_;omega)),Zk (fs[i].l,()) rfl ⟨by simp,Au (by rw[List.length_map]) (by rw[List.length_map,List.length_append];show(_+(Zg fs[i].l).length)*16<=_;omega) (by rw[List.length_map,List.length_append];show _+(Zg fs[i].l).length<=_;omega),?_⟩⟩⟩)
  have:=ih (i+1) (by omega)
  rw[K8 hlt,<- List.append_assoc,show(l++Gh (fs.take i)++Zg fs[i].l).map (enc:Str->PV)=(l++Gh (fs.take i)).map enc++(Zg fs[i].l).map enc from List.map_append,List.length_append (as:=l++Gh (fs.take i)),<- next (by omega)]at this
  rw[List.length_map]
  exact this
theorem Fs: ∀ args os,UM args os=true->Ze YI os.length (Zt os.length Yp fun r=>r=KE args os) Yn [] (YV TI args os):=by
 intro args os h
 unfold UM at h
 split at h
 ·rename_i b0 f0 ok n m ty xs
  simp only[Bool.and_eq_true,beq_iff_eq,decide_eq_true_eq,Bool.not_eq_true']at h
  obtain⟨⟨⟨⟨⟨⟨⟨⟨⟨h1,h2⟩,rfl⟩,h4⟩,h5⟩,h6⟩,h7⟩,h8⟩,h9⟩,h10⟩:=h
  obtain⟨b,rfl⟩:=YB h1
  obtain⟨fs,rfl⟩:=YB h2
  obtain⟨l,rfl,rfl,hn,hl⟩:=Pt h4
  rw[Enc.dec_enc]at h7 h8 h9
  rw[List.length_map]at h10
  have ev:KE [.pv (enc b),.pv (enc fs),.pv (.bool ok),.row 0 m 0 m] [.row false 9 1 (l.map enc)]=(.pv (.int .i64 (Zv b fs ok l)),[.row false 9 1 ((ckV b fs ok l).map enc)],[]):=by
   show(AV.pv (.int .i64 (Zv (dec (enc b:PV)) (dec (enc fs:PV)) ok (KS (l.map enc)))),[AObj.row false 9 1 ((ckV (dec (enc b:PV)) (dec (enc fs:PV)) ok (KS (l.map enc))).map enc)],_)=_
   rw[Enc.dec_enc,Enc.dec_enc,Qc]
  rw[ev]
  have hb:Zr b.v=true:=by simp only[ZH,XX,Bool.and_eq_true]at h7;exact h7.1
  refine a6w b fs ok m l ⟨Zl (b,()) rfl h7,Zk (b,()) rfl (XU (fun h=> ?_) fun hbv=>⟨Zl (fs,()) rfl h8,Zk (fs,()) rfl (XU (fun h=> ?_) fun hfv=>XU (fun h=> ?_) fun hok=> ?_)⟩)⟩
  ·have h:Y4 b=false:=h
   simp[Zv,ckV,h]
  ·have h:YC fs=false:=h
   simp[Zv,ckV,h]
  ·have h:ok=false:=h
   simp[Zv,ckV,h]
  ·have hbv:Y4 b=true:=hbv
   have hfv:YC fs=true:=hfv
   have hok:ok=true:=hok
   have e1:Zv b fs ok l=inE b.v (l++Gh fs):=by unfold Zv;rw[hbv,hfv,hok];rfl
   have e2:ckV b fs ok l=l++Gh fs:=by unfold ckV;rw[hbv,hfv,hok];rfl
   rw[e1,e2,List.length_map]
   have:=NC b fs ok l hb h8 hfv h9 (by omega) m l fs.length 0 (by omega)
   rw[List.take_zero]at this
   have e0:l++Gh []=l:=by simp[Gh]
   rw[e0,hn]at this
   exact this
 ·cases h
theorem La(b:BoxT)(fs:List Fact)(ok:Bool)(hb:Zr b.v=true)(hf:Zf fs=true)(hv:YC fs=true)(hfl:fs.length<=100): ∀ (k i:Nat),k+i=fs.length ->
  At YI 0 (Zb Yp (Zi (inE b.v (Gh fs)))) Yn 0 38 [(3,.row 0 (Gh (fs.take i)).length 0 (Gh (fs.take i)).length),(4,.ptr 1 0),(23,.pv (enc fs)),(24,.pv (.int .i64 fs.length)),(25,.pv (.int .i64 i))] [.obj (.row false 9 1 ((Gh (fs.take i)).map enc)),.obj (.box [.pv (enc b.v),.pv (.int .i64 b.m)])]:=by
 intro k
 induction k with
 | zero=>
  intro i hi
  have hn:=Gw hv i (by omega)
  have hd:fs.take i=fs:=List.take_of_length_le (by omega)
  rw[hd]at hn ⊢
  refine Sb b fs ok i _ (Gh fs) (ZR (Yd (by omega)) ⟨?_,?_⟩)
  ·show(176==176&&9==9&&TF _ _ _&&VV (List Str) (enc b.v)&&Zr (dec (enc b.v:PV):List Str))=true
   rw[Br rfl (by omega),Yb,Enc.dec_enc,hb];rfl
  ·rw[Qc,Enc.dec_enc,TM]
   unfold inE
   refine XU (fun h=> ?_) fun h=> ?_
   ·rw[h];exact⟨rfl,rfl⟩
   ·rw[h];exact⟨rfl,rfl⟩
 | succ k ih=>
  intro i hi
  have hlt:i<fs.length:=by omega
  have hn:=Gw hv i (by omega)
  have hnb:=Qx hv hlt
  have hnm:(Zg fs[i].l).length=fs[i].l.t.length:=by unfold Zg;rw[List.length_map]
  refine Sb b fs ok i _ (Gh (fs.take i)) (ZN (Z8 hlt) ⟨Zu hlt rfl,ZB hlt ⟨Zl (fs[i].l,()) rfl (decide_eq_true (by show fs[i].l.t.length<=_;omega)),Zk (fs[i].l,()) rfl ⟨by simp,Au (by rw[List.length_map]) (by rw[List.length_map];show(_+(Zg fs[i].l).length)*16<=_;omega) (by rw[List.length_map];show _+(Zg fs[i].l).length<=_;omega),?_⟩⟩⟩)
  have:=ih (i+1) (by omega)
  rw[K8 hlt,show(Gh (fs.take i)++Zg fs[i].l).map (enc:Str->PV)=(Gh (fs.take i)).map enc++(Zg fs[i].l).map enc from List.map_append,List.length_append (as:=Gh (fs.take i)),<- next (by omega)]at this
  rw[List.length_map]
  exact this
theorem a0z(b:BoxT)(fs:List Fact)(ok:Bool)(hb:Zr b.v=true)(hf:Zf fs=true)(hv:YC fs=true)(hfl:fs.length<=100): ∀ (k i:Nat),k+i=fs.length->Gh (fs.take i)=[] ->
  At YI 0 (Zb Yp (Zi (inE b.v (Gh fs)))) Yn 0 38 [(3,.pv (.sl 0 true [])),(4,.ptr 0 0),(23,.pv (enc fs)),(24,.pv (.int .i64 fs.length)),(25,.pv (.int .i64 i))] [.obj (.box [.pv (enc b.v),.pv (.int .i64 b.m)])]:=by
 intro k
 induction k with
 | zero=>
  intro i hi h0
  have hd:fs.take i=fs:=List.take_of_length_le (by omega)
  rw[hd]at h0
  refine A8 b fs ok i (ZR (Yd (by omega)) ⟨?_,?_⟩)
  ·show(176==176&&VV (List Str) (enc b.v)&&Zr (dec (enc b.v:PV):List Str))=true
   rw[Yb,Enc.dec_enc,hb];rfl
  ·rw[h0]
   exact⟨rfl,rfl⟩
 | succ k ih=>
  intro i hi h0
  have hlt:i<fs.length:=by omega
  have hnb:=Qx hv hlt
  have hnm:(Zg fs[i].l).length=fs[i].l.t.length:=by unfold Zg;rw[List.length_map]
  refine A8 b fs ok i (ZN (Z8 hlt) ⟨Zu hlt rfl,ZB hlt ⟨Zl (fs[i].l,()) rfl (decide_eq_true (by show fs[i].l.t.length<=_;omega)),Zk (fs[i].l,()) rfl ⟨by simp,XT (fun h=> ?_) fun h=>⟨?_,?_⟩⟩⟩⟩)
  ·have h:Zg fs[i].l=[]:=by simpa using h
   rw[next (by omega)]
   exact ih (i+1) (by omega) (by rw[K8 hlt,h0,h];rfl)
  ·rw[List.length_map]
   show(true&&decide ((0+(Zg fs[i].l).length)*16<=1099511627776)&&decide (0+(Zg fs[i].l).length<=1099511627776))=true
   rw[decide_eq_true (by omega),decide_eq_true (by omega)];rfl
  ·have:=La b fs ok hb hf hv hfl k (i+1) (by omega)
   rw[K8 hlt,h0,List.nil_append,<- next (by omega)]at this
   rw[List.length_map]
   show At YI 0 _ Yn 0 38 [(3,.row 0 (0+(Zg fs[i].l).length) 0 (0+(Zg fs[i].l).length)),_,_,_,_] _
   rw[Nat.zero_add]
   exact this
theorem EW: ∀ a:BoxT×List Fact×Bool×NilS×Unit,(ZH a.1&&Zf a.2.1&&decide (a.2.1.length<=100))=true->Ze YI 0 (Zb Yp (Zi (Zv a.1 a.2.1 a.2.2.1 []))) Yn [] (Yk TI (encL a)):=by
 rintro⟨b,fs,ok,⟨⟩,⟨⟩⟩ h
 simp only[Bool.and_eq_true,decide_eq_true_eq]at h
 obtain⟨⟨h7,h8⟩,h9⟩:=h
 have hb:Zr b.v=true:=by have:=h7;simp only[ZH,XX,Bool.and_eq_true]at this;exact this.1
 show Ze YI 0 (Zb Yp (Zi (Zv b fs ok []))) _ _ _
 refine b9a b fs ok ⟨Zl (b,()) rfl h7,Zk (b,()) rfl (XU (fun h=> ?_) fun hbv=>⟨Zl (fs,()) rfl h8,Zk (fs,()) rfl (XU (fun h=> ?_) fun hfv=>XU (fun h=> ?_) fun hok=> ?_)⟩)⟩
 ·have h:Y4 b=false:=h
  exact VQ (by simp[Zv,h])
 ·have h:YC fs=false:=h
  exact VQ (by simp[Zv,h])
 ·have h:ok=false:=h
  exact VQ (by simp[Zv,h])
 ·have hbv:Y4 b=true:=hbv
  have hfv:YC fs=true:=hfv
  have hok:ok=true:=hok
  have e1:Zv b fs ok []=inE b.v (Gh fs):=by unfold Zv;rw[hbv,hfv,hok];rfl
  rw[e1,List.length_map]
  exact a0z b fs ok hb h8 hfv h9 fs.length 0 (by omega) rfl
theorem FZ(s:List UInt8)(hs:s.length<=281474976710656): ∀ (m i:Nat),m+i=s.length->At X6 0 (Zb Xu (Zi (XR s i))) Xt 0 67 [(0,.pv (.str s)),(34,.pv (.sl 1 false (ZE s))),(35,.pv (.int .i64 (ZE s).length)),(36,.pv (.int .i64 i))] []:=by
 intro m
 induction m with
 | zero=>
  intro i hi
  have e:XR s i=(!(s==[])&&decide (s.length<=30)):=by
   unfold XR
   cases i with
   | zero=>cases s with
    | nil=>rfl
    | cons c r=>simp at hi
   | succ i=>simp only;rw[List.drop_of_length_le (show s.length<=i+1 by omega)];simp
  rw[e]
  refine RG s i (ZR (Yd (by rw[UU];omega)) (XT (fun h=>ZL ?_) fun h=>ZL ?_))
  ·rw[h,Bool.true_and];exact decide_eq_decide.2 (by omega)
  ·rw[h,Bool.false_and]
 | succ m ih=>
  intro i hi
  have hlt:i<s.length:=by omega
  have h:=ih (i+1) (by omega)
  refine RG s i ?_
  rw[Mx hlt,next (by omega)]
  have stop:(WW s[i]=false∧(i=0∨digB s[i]=false))->Zi (XR s i) (.bool false):=fun hb=>ZL (RJ hlt hb).symm
  have go:(WW s[i]=true∨(i≠0∧digB s[i]=true))->At X6 0 (Zb Xu (Zi (XR s i))) Xt 0 67 [(0,.pv (.str s)),(34,.pv (.sl 1 false (ZE s))),(35,.pv (.int .i64 (ZE s).length)),(36,.pv (.int .i64 ((i+1:Nat):Int)))] []:=fun hb=>by rw[Pg hlt hb];exact h
  have rest:WW s[i]=false->(if ((i:Int)==0)=true then Zi (XR s i) (.bool false)else if decide ((s[i].toNat:Int)<48)=true then Zi (XR s i) (.bool false)else if decide ((s[i].toNat:Int)>57)=true then Zi (XR s i) (.bool false)else At X6 0 (Zb Xu (Zi (XR s i))) Xt 0 67 [(0,.pv (.str s)),(34,.pv (.sl 1 false (ZE s))),(35,.pv (.int .i64 (ZE s).length)),(36,.pv (.int .i64 ((i+1:Nat):Int)))] []):=by
   intro hl
   refine Kb (fun h0=>stop ⟨hl,.inl (by omega)⟩) fun h0=>XQ (fun h1=>stop ⟨hl,.inr (JK (by omega))⟩) fun h1=>XQ (fun h2=>stop ⟨hl,.inr (JK (by omega))⟩) fun h2=>go (.inr ⟨by omega,VR.2 (by omega)⟩)
  refine ZN (Z8 (by rw[UU];exact hlt)) ⟨by rw[UU];simp[hlt],by rfl,?_⟩
  refine XQ (fun h1=>rest (JH ?_)) fun h1=>XQ (fun h2=>rest (JH ?_)) fun h2=>go (.inl (Nr.2 ?_))
  ·have h1:(s[i].toNat:Int)<97:=h1
   omega
  ·have h2:(s[i].toNat:Int)>122:=h2
   omega
  ·have h1 : ¬ (s[i].toNat:Int)<97:=h1
   have h2 : ¬ (s[i].toNat:Int)>122:=h2
   omega
theorem a0a: ∀ a:Str×Unit,decide (a.1.s.length<=281474976710656)=true->Ze X6 0 (Zb Xu (Zi (ZG a.1))) Xt [] (Yk a5h (encL a)):=by
 rintro⟨⟨s⟩,⟨⟩⟩ hl
 have hl:s.length<=281474976710656:=by simpa using hl
 refine b0i s (Zk (⟨s⟩,⟨[95]⟩,()) rfl (XT (fun h=> ?_) fun h=> ?_))
 ·have h:[95].isPrefixOf s=true:=h
  obtain⟨r,rfl⟩ : ∃ r,s=95::r:=by
   cases s with
   | nil=>simp at h
   | cons c r=>
    have:95=c:=by simpa using h
    exact⟨r,by rw[this]⟩
  have e1:List.drop (Int.toNat 1) (List.take (List.length (95::r)) (95::r))=r:=by rw[List.take_of_length_le (Nat.le_refl _)];rfl
  simp only[e1]
  refine⟨by simp,Zl (⟨r⟩,()) rfl (by simp at hl ⊢;omega),Zk (⟨r⟩,()) rfl ⟨by show(Ar (enc (YD ⟨r⟩).2)&&true)=true;rw[c5b];rfl,?_⟩⟩
  show if U2 (enc (YD ⟨r⟩).2)=true then(if decide ((YD ⟨r⟩).1>0)=true then(if _ then _ else Zi (ZG ⟨95::r⟩) _)else Zi (ZG ⟨95::r⟩) _)else Zi (ZG ⟨95::r⟩) _
  rw[LM]
  by_cases h9:r.length<=9
  ·rw[<- a3k r h9,decide_eq_true h9,Bool.and_true]
   refine XT (fun h1=>XT (fun h2=>ZN (by simp;omega) ⟨Zl ((YD ⟨r⟩).1,()) rfl (by have:=Sq ⟨r⟩;simp;omega),Zk ((YD ⟨r⟩).1,()) rfl ⟨by simp,ZL ?_⟩⟩) fun h2=>ZL ?_) fun h1=>ZL ?_
   ·rw[h1,h2];simp only[Bool.true_and,Bool.and_true];rfl
   ·rw[h2];simp
   ·rw[h1];simp
  ·rw[decide_eq_false h9,Bool.and_false]
   refine XT (fun h1=>XT (fun h2=>ZR (by simp;omega) (ZL rfl)) fun h2=>ZL rfl) fun h1=>ZL rfl
 ·have h:[95].isPrefixOf s=false:=h
  show At X6 0 (Zb Xu (Zi (ZG ⟨s⟩))) Xt 0 67 _ _
  rw[RQ h]
  exact FZ s hl s.length 0 (by omega)
end Go.Pl
namespace Go.Pl
open Go.RowKit
open Enc (enc dec is)
open EncL (encL decL isL)
set_option maxRecDepth 100000
def Mg:IC:=(.reg [Za 7 (.faddr 0 (.t 1)) 0,Za 8 (Yl [(.sl 1)] (.t 7)) 0,Za 9 (.len 1 (.t 8)) 0,Za 10 (.mksl 3 1 8 (.int .i64 0) (.t 9) (.t 9)) 0,Za 4 (Zc 10) 1] none)
def a0h:List IRes:=[]
def a2t:ZO:=Xc [(48,.own Wo Ur)]
theorem c5s{G:AV×List AObj×List AObj->Prop}(E:YL)(l:Nat)(b:BoxT)(fs:List Fact)(h:(decide (0<=(↑(List.length (PV.asXs (List.getD (List.drop 0 [enc b.v,PV.int .i64 b.m]) 0 default))):Int))&&(↑(List.length (PV.asXs (List.getD (List.drop 0 [enc b.v,PV.int .i64 b.m]) 0 default))):Int)==(↑(List.length (PV.asXs (List.getD (List.drop 0 [enc b.v,PV.int .i64 b.m]) 0 default))):Int)&&decide ((↑(List.length (PV.asXs (List.getD (List.drop 0 [enc b.v,PV.int .i64 b.m]) 0 default))):Int)*(↑8:Int)<=1099511627776)&&decide ((↑(List.length (PV.asXs (List.getD (List.drop 0 [enc b.v,PV.int .i64 b.m]) 0 default))):Int)<=1099511627776))=true∧(E 99 ⟨Z4 52 0 [(0,(.yld l)),(1,(.pv (.rptr [(.sl 1 false (List.map enc b.v)),(.int .i64 b.m)]))),(2,(.pv (.rptr [(.sl 3 false (List.map enc fs))]))),(4,(.row 0 (Int.toNat (↑(List.length (PV.asXs (List.getD (List.drop 0 [enc b.v,PV.int .i64 b.m]) 0 default))):Int)) 0 (Int.toNat (↑(List.length (PV.asXs (List.getD (List.drop 0 [enc b.v,PV.int .i64 b.m]) 0 default))):Int))))],[(.obj (.row false 3 1 (List.replicate (Int.toNat (↑(List.length (PV.asXs (List.getD (List.drop 0 [enc b.v,PV.int .i64 b.m]) 0 default))):Int)) (PV.int .i64 0))))]⟩ (fun x S'=>JP a2t E 0 (Zt 0 a0h G) Mg 99 x S'))):ZM a2t E 0 (Zt 0 a0h G) (.inl Mg) [.seq (.ext 99 [0,1,2,4])] ⟨Z4 52 0 [(0,.yld l),(1,(.pv (.rptr [enc b.v,.int .i64 b.m]))),(2,(.pv (.rptr [enc fs])))],[]⟩:=ZM.mo (.lit (.req (.nil))) h (by kernel_rfl)
def NE:IC:=(.reg [Za 11 (.load true [(.sl 1),(.int .i64)] (.t 1)) 0,Za 12 (Zc 4) 0,Za 13 (YT 48 [(.t 11),(.t 12)]) 0,Za 5 (Zc 13) 2] none)
def a0x:List IRes:=[]
def b8z:ZO:=Xc [(48,.own Wo Ur)]
theorem c7h{G:AV×List AObj×List AObj->Prop}(E:YL)(l:Nat)(b:BoxT)(fs:List Fact)(n:Nat)(p:List Int)(h:(Wo [(.pv (.agg [(.sl 1 false (PV.asXs (List.getD [enc b.v,PV.int .i64 b.m] 0 default))),(.int .i64 (PV.asInt (List.getD [enc b.v,PV.int .i64 b.m] (0+1) default)))])),(.row 0 n 0 n)] [(.row false 3 1 (List.map enc p))])=true∧(E 99 ⟨Z4 52 0 [(0,(.yld l)),(1,(.pv (.rptr [(.sl 1 false (List.map enc b.v)),(.int .i64 b.m)]))),(2,(.pv (.rptr [(.sl 3 false (List.map enc fs))]))),(4,(.row 0 n 0 n)),(5,(.pv (.sl 2 false (List.map enc (Zq (dec (Sh.co (Sh.sl 1) (List.getD [enc b.v,PV.int .i64 b.m] 0 default))) (Sa (List.map enc p)))))))],[(.obj (.row false 3 1 (List.map enc p)))]⟩ (fun x S'=>JP b8z E 1 (Zt 1 a0x G) NE 99 x S'))):ZM b8z E 1 (Zt 1 a0x G) (.inl NE) [.seq (.ext 99 [0,1,2,4,5])] ⟨Z4 52 0 [(0,.yld l),(1,(.pv (.rptr [enc b.v,.int .i64 b.m]))),(2,(.pv (.rptr [enc fs]))),(4,.row 0 n 0 n)],[.obj (.row false 3 1 (p.map enc))]⟩:=ZM.mo (.lit (.req (.keep (.nil)))) h (by kernel_rfl)
def QO:IC:=(Zh [Za 25 (Zc 4) 0,Za 26 (.len 1 (.t 25)) 0,Za 27 (ZA .sub (.t 26) (Zy 1)) 0,Za 6 (Zc 27) 0] (.seq (.block 2 (.loop [6,4,1,2,0] (.seq (.seq (.reg [Za 28 (Zc 6) 0,Za 29 (ZA .geq (.t 28) (Zy 0)) 0,Za 30 (Zc 29) 0,Z6 31 (Zc 4) 0 30,Z6 32 (Zc 6) 0 30,Z6 33 (.iaddr 1 (.t 31) (.t 32)) 0 30,Z6 34 (Yl [(.int .i64)] (.t 33)) 0 30,Z6 35 (.faddr 1 (.t 1)) 0 30,Z6 36 (Yl [(.int .i64)] (.t 35)) 0 30,Z6 37 (ZA .eql (.t 34) (.t 36)) 0 30,Za 38 (.pick (.t 30) (.t 37) (.c (.bool false))) 0] (some [[],[0],[1,0],[2,1,0],[2,1,0],[3,4,2,1,0],[5,2,3,4,1,0],[2,1,0],[7,2,1,0],[6,8,2,5,3,4,1,0,7],[2,9,1,0,6,8,5,3,4,7]])) (.cond (.t 38) .skip (.exit 2))) (.block 3 (Zh [Za 39 (Zc 4) 0,Za 40 (Zc 6) 0,Za 41 (.iaddr 1 (.t 39) (.t 40)) 0,Ui (.store 1 (.t 41) (Zy 0)) 0] (.reg [Za 42 (Zc 6) 0,Za 43 (ZA .sub (.t 42) (Zy 1)) 0,Za 6 (Zc 43) 0] none)))))) (.seq (Zh [Za 44 (Zc 6) 0,Za 45 (ZA .lss (.t 44) (Zy 0)) 0] (.cond (.t 45) .ret .skip)) (.reg [Za 46 (Zc 4) 0,Za 47 (Zc 6) 0,Za 48 (.iaddr 1 (.t 46) (.t 47)) 0,Za 49 (Yl [(.int .i64)] (.t 48)) 0,Za 50 (ZA .add (.t 49) (Zy 1)) 0,Za 51 (.iaddr 1 (.t 46) (.t 47)) 0,Ui (.store 1 (.t 51) (.t 50)) 0] none))))
def Jm:List IRes:=[]
def CG:ZO:=Xc [(48,.own Wo Ur)]
theorem b7p{G:AV×List AObj×List AObj->Prop}(E:YL)(l:Nat)(b:BoxT)(fs:List Fact)(n:Nat)(p:List Int)(k:Int)(h:if (decide (k ≥ 0))=true then(decide (0<=k)&&decide (0+Int.toNat k<n)&&List.length (List.map enc p)==n)=true∧((List.length (List.map enc p)==n&&decide (0+Int.toNat k<List.length (List.map enc p)))=true∧((decide (0+List.length [Sh.int .i64]<=List.length (PV.cells (List.getD (List.map enc p) (0+Int.toNat k) default)))&&Yx (PV.cells (List.getD (List.map enc p) (0+Int.toNat k) default)) 0 [Sh.int .i64])=true∧(if (PV.asInt (List.getD (PV.cells (List.getD (List.map enc p) (0+Int.toNat k) default)) 0 default)==PV.asInt (List.getD (List.drop 1 [enc b.v,PV.int .i64 b.m]) 0 default))=true then(decide (0<=k)&&decide (0+Int.toNat k<n)&&List.length (List.map enc p)==n)=true∧((List.length (List.map enc p)==n&&decide (0+Int.toNat k<List.length (List.map enc p))&&List.length (PV.cells (PV.int .i64 0))==1&&decide (0+1<=List.length (PV.cells (List.getD (List.map enc p) (0+Int.toNat k) default)))&&PV.cellsOk (PV.int .i64 0))=true∧(AtS [.seq (.ext 99 [0,1,2,4])] CG E 1 (Zt 1 Jm G) QO 0 52 [(0,(.yld l)),(1,(.pv (.rptr [(.sl 1 false (List.map enc b.v)),(.int .i64 b.m)]))),(2,(.pv (.rptr [(.sl 3 false (List.map enc fs))]))),(4,(.row 0 n 0 n)),(6,(.pv (.int .i64 (IntKind.wrap IntKind.i64 (k - 1)))))] [(.obj (.row false 3 1 (List.set (List.map enc p) (0+Int.toNat k) (PV.withCells (List.getD (List.map enc p) (0+Int.toNat k) default) (splice (PV.cells (List.getD (List.map enc p) (0+Int.toNat k) default)) 0 (PV.cells (PV.int .i64 0)))))))]))else(if (decide (k<0))=true then G (((.tup []),([(.row false 3 1 (List.map enc p))],[])))else((decide (0<=k)&&decide (0+Int.toNat k<n)&&List.length (List.map enc p)==n)=true∧((List.length (List.map enc p)==n&&decide (0+Int.toNat k<List.length (List.map enc p)))=true∧((decide (0+List.length [Sh.int .i64]<=List.length (PV.cells (List.getD (List.map enc p) (0+Int.toNat k) default)))&&Yx (PV.cells (List.getD (List.map enc p) (0+Int.toNat k) default)) 0 [Sh.int .i64])=true∧((decide (0<=k)&&decide (0+Int.toNat k<n)&&List.length (List.map enc p)==n)=true∧((List.length (List.map enc p)==n&&decide (0+Int.toNat k<List.length (List.map enc p))&&List.length (PV.cells (PV.int .i64 (IntKind.wrap IntKind.i64 (PV.asInt (List.getD (PV.cells (List.getD (List.map enc p) (0+Int.toNat k) default)) 0 default)+1))))==1&&decide (0+1<=List.length (PV.cells (List.getD (List.map enc p) (0+Int.toNat k) default)))&&PV.cellsOk (PV.int .i64 (IntKind.wrap IntKind.i64 (PV.asInt (List.getD (PV.cells (List.getD (List.map enc p) (0+Int.toNat k) default)) 0 default)+1))))=true∧(E 99 ⟨Z4 52 0 [(0,(.yld l)),(1,(.pv (.rptr [(.sl 1 false (List.map enc b.v)),(.int .i64 b.m)]))),(2,(.pv (.rptr [(.sl 3 false (List.map enc fs))]))),(4,(.row 0 n 0 n))],[(.obj (.row false 3 1 (List.set (List.map enc p) (0+Int.toNat k) (PV.withCells (List.getD (List.map enc p) (0+Int.toNat k) default) (splice (PV.cells (List.getD (List.map enc p) (0+Int.toNat k) default)) 0 (PV.cells (PV.int .i64 (IntKind.wrap IntKind.i64 (PV.asInt (List.getD (PV.cells (List.getD (List.map enc p) (0+Int.toNat k) default)) 0 default)+1)))))))))]⟩ (fun x S'=>JP CG E 1 (Zt 1 Jm G) QO 99 x S')))))))))))else(if (decide (k<0))=true then G (((.tup []),([(.row false 3 1 (List.map enc p))],[])))else((decide (0<=k)&&decide (0+Int.toNat k<n)&&List.length (List.map enc p)==n)=true∧((List.length (List.map enc p)==n&&decide (0+Int.toNat k<List.length (List.map enc p)))=true∧((decide (0+List.length [Sh.int .i64]<=List.length (PV.cells (List.getD (List.map enc p) (0+Int.toNat k) default)))&&Yx (PV.cells (List.getD (List.map enc p) (0+Int.toNat k) default)) 0 [Sh.int .i64])=true∧((decide (0<=k)&&decide (0+Int.toNat k<n)&&List.length (List.map enc p)==n)=true∧((List.length (List.map enc p)==n&&decide (0+Int.toNat k<List.length (List.map enc p))&&List.length (PV.cells (PV.int .i64 (IntKind.wrap IntKind.i64 (PV.asInt (List.getD (PV.cells (List.getD (List.map enc p) (0+Int.toNat k) default)) 0 default)+1))))==1&&decide (0+1<=List.length (PV.cells (List.getD (List.map enc p) (0+Int.toNat k) default)))&&PV.cellsOk (PV.int .i64 (IntKind.wrap IntKind.i64 (PV.asInt (List.getD (PV.cells (List.getD (List.map enc p) (0+Int.toNat k) default)) 0 default)+1))))=true∧(E 99 ⟨Z4 52 0 [(0,(.yld l)),(1,(.pv (.rptr [(.sl 1 false (List.map enc b.v)),(.int .i64 b.m)]))),(2,(.pv (.rptr [(.sl 3 false (List.map enc fs))]))),(4,(.row 0 n 0 n))],[(.obj (.row false 3 1 (List.set (List.map enc p) (0+Int.toNat k) (PV.withCells (List.getD (List.map enc p) (0+Int.toNat k) default) (splice (PV.cells (List.getD (List.map enc p) (0+Int.toNat k) default)) 0 (PV.cells (PV.int .i64 (IntKind.wrap IntKind.i64 (PV.asInt (List.getD (PV.cells (List.getD (List.map enc p) (0+Int.toNat k) default)) 0 default)+1)))))))))]⟩ (fun x S'=>JP CG E 1 (Zt 1 Jm G) QO 99 x S'))))))))):AtS [.seq (.ext 99 [0,1,2,4])] CG E 1 (Zt 1 Jm G) QO 0 52 [(0,.yld l),(1,(.pv (.rptr [enc b.v,.int .i64 b.m]))),(2,(.pv (.rptr [enc fs]))),(4,.row 0 n 0 n),(6,.pv (.int .i64 k))] [.obj (.row false 3 1 (p.map enc))]:=ZM.mo (.lit (.ask (.lit (.lit (.req (.keep (.lit (.req (.req (.lit (.lit (.lit (.lit (.lit (.lit (.ask (.req (.keep (.req (.lit (.nil))))) (.lit (.ask (.nil) (.req (.keep (.req (.req (.lit (.req (.keep (.req (.nil))))))))))))))))))))))))) (.lit (.lit (.lit (.lit (.lit (.lit (.lit (.lit (.lit (.ask (.nil) (.req (.keep (.req (.req (.lit (.req (.keep (.req (.nil))))))))))))))))))))) h (by kernel_rfl)
theorem c7m{G:AV×List AObj×List AObj->Prop}(E:YL)(l:Nat)(b:BoxT)(fs:List Fact)(n:Nat)(p:List Int)(h:AtS [.seq (.ext 99 [0,1,2,4])] CG E 1 (Zt 1 Jm G) QO 0 52 [(0,(.yld l)),(1,(.pv (.rptr [(.sl 1 false (List.map enc b.v)),(.int .i64 b.m)]))),(2,(.pv (.rptr [(.sl 3 false (List.map enc fs))]))),(4,(.row 0 n 0 n)),(6,(.pv (.int .i64 (IntKind.wrap IntKind.i64 ((↑(n - 0):Int) - 1)))))] [(.obj (.row false 3 1 (List.map enc p)))]):ZM CG E 1 (Zt 1 Jm G) (.inl QO) [.seq (.ext 99 [0,1,2,4])] ⟨Z4 52 0 [(0,.yld l),(1,(.pv (.rptr [enc b.v,.int .i64 b.m]))),(2,(.pv (.rptr [enc fs]))),(4,.row 0 n 0 n)],[.obj (.row false 3 1 (p.map enc))]⟩:=ZM.mo (.lit (.nil)) h (by kernel_rfl)
def WF:IC:=(Zh [Za 2 (.box 2 (.t 0)) 0,Za 4 (.mv (.c (.sl 0 true []))) 1] (Zh [Za 5 (.mv (.c (.sl 0 true []))) 0] (.seq (Zh [Za 7 (Zc 1) 0,Za 8 (.len 1 (.t 7)) 0,Za 9 (.faddr 0 (.t 2)) 0,Za 10 (Yl [(.sl 1)] (.t 9)) 0,Za 11 (.len 1 (.t 10)) 0,Za 12 (.mm false (.t 8) (.t 11)) 0,Za 13 (.mv (Zy 0)) 0] (.block 0 (.loop [13,12,5,2,1] (Zh [Za 14 (ZA .lss (.t 13) (.t 12)) 0] (.seq (.cond (.t 14) .skip (.exit 0)) (.seq (.block 1 (Zh [Za 15 (Zc 13) 0,Za 6 (Zc 15) 0] (.reg [Za 16 (Zc 5) 0,Za 17 (.faddr 0 (.t 2)) 0,Za 18 (Yl [(.sl 1)] (.t 17)) 0,Za 19 (Zc 6) 0,Za 20 (.iaddr 1 (.t 18) (.t 19)) 0,Za 21 (.load false [.str] (.t 20)) 0,Za 22 (Zc 1) 0,Za 23 (Zc 6) 0,Za 24 (.iaddr 1 (.t 22) (.t 23)) 0,Za 25 (Yl [(.int .i64)] (.t 24)) 0,Za 26 (.build [(.str []),(.int .i64 0)] [(0,(1,(.t 21))),(1,(1,(.t 25)))]) 0,Za 27 (.bslice 63 2 1 (.agg [(.str []),(.int .i64 0)]) [(0,(.t 26))]) 0,Za 28 (.append 63 2 24 (.t 16) (.t 27)) 1,Za 5 (Zc 28) 2] (some [[],[],[1],[],[2,3,1],[4,2,3,1],[],[],[6,7],[8,6,7],[5,9,4,2,3,1,8,6,7],[10,5,9,4,2,3,1,8,6,7],[0,11,10,5,9,4,2,3,1,8,6,7],[12,0,1,2,3,4,5,6,7,8,9,10,11]])))) (.reg [Za 29 (ZA .add (.t 13) (Zy 1)) 0,Za 13 (Zc 29) 0] none))))))) (Zh [Za 30 (Zc 5) 0,Za 4 (Zc 30) 0] .ret))))
def WQ:List IRes:=[(.tmp 4)]
abbrev a7x:Nat:=31
def Vu:ZO:=Xc []
theorem b1d{G:AV×List AObj×List AObj->Prop}(b:BoxT)(m:Nat)(p:List Int)(h:At Vu 1 (WT 1 WQ G) WF 0 31 [(1,(.row 0 m 0 m)),(2,(.ptr 1 0)),(5,(.pv (.sl 0 true []))),(12,(.pv (.int .i64 (if false=true then if (↑(List.length (List.map enc b.v)):Int)>(↑(m - 0):Int)then(↑(List.length (List.map enc b.v)):Int)else(↑(m - 0):Int)else if (↑(List.length (List.map enc b.v)):Int)<(↑(m - 0):Int)then(↑(List.length (List.map enc b.v)):Int)else(↑(m - 0):Int))))),(13,(.pv (.int .i64 0)))] [(.obj (.row false 3 1 (List.map enc p))),(.obj (.box [(.pv (.sl 1 false (List.map enc b.v))),(.pv (.int .i64 b.m))]))]):Ze Vu 1 (WT 1 WQ G) WF [] (YV 31 [.pv (enc b),.row 0 m 0 m] [.row false 3 1 (p.map enc)]):=Ze.tf (.nil) h (by kernel_rfl)
theorem SY{G:AV×List AObj×List AObj->Prop}(b:BoxT)(m:Nat)(p:List Int)(n i:Int)(h:if (decide (i<n))=true then(decide (0<=i)&&decide (Int.toNat i<List.length (List.map enc b.v))&&Enc.sz Str==1)=true∧(∃ y0:Str,AV.pv (PV.rptr (PV.cells (List.getD (List.map enc b.v) (Int.toNat i) default)))=AV.pv (PV.rptr (PV.cells ((enc) y0)))∧((decide (0<=i)&&decide (0+Int.toNat i<m)&&List.length (List.map enc p)==m)=true∧((List.length (List.map enc p)==m&&decide (0+Int.toNat i<List.length (List.map enc p)))=true∧((decide (0+List.length [Sh.int .i64]<=List.length (PV.cells (List.getD (List.map enc p) (0+Int.toNat i) default)))&&Yx (PV.cells (List.getD (List.map enc p) (0+Int.toNat i) default)) 0 [Sh.int .i64])=true∧(At Vu 1 (WT 1 WQ G) WF 0 31 [(1,(.row 0 m 0 m)),(2,(.ptr 1 0)),(5,(.row 2 1 0 1)),(12,(.pv (.int .i64 n))),(13,(.pv (.int .i64 (IntKind.wrap IntKind.i64 (i+1)))))] [(.obj (.row false 3 1 (List.map enc p))),(.obj (.box [(.pv (.sl 1 false (List.map enc b.v))),(.pv (.int .i64 b.m))])),(.obj (.row false 63 2 [(.agg [(.str (PV.asStr (List.getD (PV.cells (enc y0)) 0 default))),(.int .i64 (PV.asInt (List.getD (PV.cells (List.getD (List.map enc p) (0+Int.toNat i) default)) 0 default)))])]))])))))else(G (((.pv (.sl 0 true [])),([(.row false 3 1 (List.map enc p))],[]))))):At Vu 1 (WT 1 WQ G) WF 0 31 [(1,.row 0 m 0 m),(2,.ptr 1 0),(5,.pv (.sl 0 true [])),(12,.pv (.int .i64 n)),(13,.pv (.int .i64 i))] [.obj (.row false 3 1 (p.map enc)),.obj (.box [.pv (enc b.v),.pv (.int .i64 b.m)])]:=At.tf (.lit (.ask (.req (.abs (Str) (fun YY=>AV.pv (PV.rptr (PV.cells ((enc) YY)))) (.lit (.req (.keep (.req (.req (.lit (.lit (.lit (.lit (.lit (.lit (.nil)))))))))))))) (.nil))) h (by kernel_rfl)
theorem Sc{G:AV×List AObj×List AObj->Prop}(b:BoxT)(m:Nat)(p:List Int)(n i:Int)(q:Nat)(vs:List Coef)(h:if (decide (i<n))=true then(decide (0<=i)&&decide (Int.toNat i<List.length (List.map enc b.v))&&Enc.sz Str==1)=true∧(∃ y0:Str,AV.pv (PV.rptr (PV.cells (List.getD (List.map enc b.v) (Int.toNat i) default)))=AV.pv (PV.rptr (PV.cells ((enc) y0)))∧((decide (0<=i)&&decide (0+Int.toNat i<m)&&List.length (List.map enc p)==m)=true∧((List.length (List.map enc p)==m&&decide (0+Int.toNat i<List.length (List.map enc p)))=true∧((decide (0+List.length [Sh.int .i64]<=List.length (PV.cells (List.getD (List.map enc p) (0+Int.toNat i) default)))&&Yx (PV.cells (List.getD (List.map enc p) (0+Int.toNat i) default)) 0 [Sh.int .i64])=true∧((List.length (List.map enc vs)==q&&q==q&&decide ((q+List.length (List.drop 0 (List.take 1 [PV.agg [Sh.co Sh.str (List.getD (PV.cells (enc y0)) 0 default),Sh.co (Sh.int .i64) (List.getD (PV.cells (List.getD (List.map enc p) (0+Int.toNat i) default)) 0 default)]])))*24<=1099511627776)&&decide (q+List.length (List.drop 0 (List.take 1 [PV.agg [Sh.co Sh.str (List.getD (PV.cells (enc y0)) 0 default),Sh.co (Sh.int .i64) (List.getD (PV.cells (List.getD (List.map enc p) (0+Int.toNat i) default)) 0 default)]]))<=1099511627776))=true∧(At Vu 1 (WT 1 WQ G) WF 0 31 [(1,(.row 0 m 0 m)),(2,(.ptr 1 0)),(5,(.row 2 (q+List.length (List.drop 0 (List.take 1 [PV.agg [Sh.co Sh.str (List.getD (PV.cells (enc y0)) 0 default),Sh.co (Sh.int .i64) (List.getD (PV.cells (List.getD (List.map enc p) (0+Int.toNat i) default)) 0 default)]]))) 0 (q+List.length (List.drop 0 (List.take 1 [PV.agg [Sh.co Sh.str (List.getD (PV.cells (enc y0)) 0 default),Sh.co (Sh.int .i64) (List.getD (PV.cells (List.getD (List.map enc p) (0+Int.toNat i) default)) 0 default)]]))))),(12,(.pv (.int .i64 n))),(13,(.pv (.int .i64 (IntKind.wrap IntKind.i64 (i+1)))))] [(.obj (.row false 3 1 (List.map enc p))),(.obj (.box [(.pv (.sl 1 false (List.map enc b.v))),(.pv (.int .i64 b.m))])),(.obj (.row false 63 2 (List.map enc vs++List.drop 0 (List.take 1 [PV.agg [Sh.co Sh.str (List.getD (PV.cells (enc y0)) 0 default),Sh.co (Sh.int .i64) (List.getD (PV.cells (List.getD (List.map enc p) (0+Int.toNat i) default)) 0 default)]]))))]))))))else((List.length (List.map enc vs)==q)=true∧(G (((.pv (.sl 2 false (List.drop 0 (List.take q (List.map enc vs))))),([(.row false 3 1 (List.map enc p))],[])))))):At Vu 1 (WT 1 WQ G) WF 0 31 [(1,.row 0 m 0 m),(2,.ptr 1 0),(5,.row 2 q 0 q),(12,.pv (.int .i64 n)),(13,.pv (.int .i64 i))] [.obj (.row false 3 1 (p.map enc)),.obj (.box [.pv (enc b.v),.pv (.int .i64 b.m)]),.obj (.row false 63 2 (vs.map enc))]:=At.tf (.lit (.ask (.req (.abs (Str) (fun YY=>AV.pv (PV.rptr (PV.cells ((enc) YY)))) (.lit (.req (.keep (.req (.req (.lit (.lit (.req (.lit (.nil)))))))))))) (.req (.nil)))) h (by kernel_rfl)
end Go.Pl
namespace Go.Pl
open Go.RowKit
open Enc (enc dec is)
open EncL (encL decL isL)
theorem Qe{l:List Int}{i:Nat}(h:i<l.length):List.getD (List.map (enc:Int->PV) l) (0+Int.toNat (i:Int)) default=enc l[i]:=by simp[List.getD,h]
theorem MP(b:BoxT)(p:List Int)(hb:b.v.length<=1000)(hp:p.length<=1000): ∀ (k i:Nat),k+i=min b.v.length p.length->1<=i ->
  At Vu 1 (WT 1 WQ fun r=> ∃ q q',r.1 = .pv q∧Sub q q'∧((.pv (.sl 2 false ((Zq b.v p).map enc)),[.row false 3 1 (p.map enc)],[]):AV×List AObj×List AObj)=(.pv q',r.2)) WF 0 31 [(1,.row 0 p.length 0 p.length),(2,.ptr 1 0),(5,.row 2 i 0 i),(12,.pv (.int .i64 ((min b.v.length p.length:Nat):Int))),(13,.pv (.int .i64 i))] [.obj (.row false 3 1 (p.map enc)),.obj (.box [.pv (enc b.v),.pv (.int .i64 b.m)]),.obj (.row false 63 2 ((Zq (b.v.take i) (p.take i)).map enc))]:=by
 intro k
 induction k with
 | zero=>
  intro i hi h1
  have hl:=GN b.v p (i:=i) (by omega) (by omega)
  refine Sc b p.length p _ i i (Zq (b.v.take i) (p.take i)) (ZR (Yd (by omega)) ⟨by simp[hl],?_⟩)
  rw[List.drop_zero,List.take_of_length_le (by rw[List.length_map,hl];exact Nat.le_refl _),OI b.v p (by omega)]
  exact⟨_,_,rfl,Sub.refl _,rfl⟩
 | succ k ih=>
  intro i hi h1
  have hl:=GN b.v p (i:=i) (by omega) (by omega)
  have hlt:i<b.v.length:=by omega
  have hlt2:i<p.length:=by omega
  have e:=Qe hlt2
  refine Sc b p.length p _ i i (Zq (b.v.take i) (p.take i)) (ZN (Z8 (by omega)) ⟨Zu hlt rfl,ZB hlt ⟨by simp;omega,by simp;omega,?_,?_,?_⟩⟩)
  ·rw[e];rfl
  ·rw[List.length_map,hl]
   show((i==i)&&(i==i)&&decide ((i+1)*24<=1099511627776)&&decide (i+1<=1099511627776))=true
   rw[decide_eq_true (by omega),decide_eq_true (by omega)];simp
  ·have:=ih (i+1) (by omega) (by omega)
   rw[JA b.v p hlt hlt2,List.map_append,<- next (by omega)]at this
   rw[e]
   exact this
theorem Gr(l:List Int):Sa (l.map enc)=l:=Enc.dec_enc l
theorem a1r: ∀ args os,Wo args os=true->Ze Vu os.length (WT os.length WQ fun r=> ∃ p p',r.1 = .pv p∧Sub p p'∧Ur args os=(.pv p',r.2)) WF [] (YV a7x args os):=by
 intro args os h
 unfold Wo at h
 split at h
 ·rename_i v k n m ty xs
  simp only[Bool.and_eq_true,beq_iff_eq,decide_eq_true_eq]at h
  obtain⟨⟨⟨⟨⟨⟨rfl,h2⟩,rfl⟩,h4⟩,h5⟩,h6⟩,h7⟩:=h
  obtain⟨p,hp⟩:=YB h4
  have hp:PV.sl 1 false xs=PV.sl 1 false (p.map enc):=hp
  injection hp with _ _ hx
  subst hx
  obtain⟨bv,rfl⟩:=YB h5
  rw[Enc.dec_enc]at h6
  rw[List.length_map]at h2
  subst h2
  have ev:Ur [.pv (.agg [enc bv,.int .i64 k]),.row 0 p.length 0 p.length] [.row false 3 1 (p.map enc)]=(.pv (.sl 2 false ((Zq bv p).map enc)),[.row false 3 1 (p.map enc)],[]):=by
   show(AV.pv (.sl 2 false ((Zq (dec (enc bv:PV)) (Sa (p.map enc))).map enc)),_,_)=_
   rw[Enc.dec_enc,Gr]
  rw[ev]
  refine b1d ⟨bv,k⟩ p.length p ?_
  simp only[List.length_map]
  rw[if_neg (by decide)]
  have em:(if ((bv.length:Nat):Int)<((p.length - 0:Nat):Int)then(bv.length:Int)else((p.length - 0:Nat):Int))=((min bv.length p.length:Nat):Int):=by
   split <;> omega
  rw[em]
  by_cases h0:min bv.length p.length=0
  ·rw[h0]
   refine SY ⟨bv,k⟩ p.length p 0 0 (ZR (by decide) ?_)
   have:Zq bv p=[]:=by
    rw[<- List.length_eq_zero_iff];unfold Zq;rw[List.length_zipWith];exact h0
   rw[this]
   exact⟨_,_,rfl,Sub.sl0 0 2 true,rfl⟩
  ·have hlt:0<bv.length:=by omega
   have hlt2:0<p.length:=by omega
   have e:=Qe hlt2
   refine SY ⟨bv,k⟩ p.length p _ 0 (ZN (Z8 (i:=0) (by omega)) ⟨Zu hlt rfl,ZB hlt ⟨by simp;omega,by simp;omega,?_,?_⟩⟩)
   ·have e:List.getD (List.map (enc:Int->PV) p) (0+Int.toNat 0) default=enc p[0]:=e
    rw[e];rfl
   ·have:=MP ⟨bv,k⟩ p h6 h7 (min bv.length p.length - 1) 1 (by show min bv.length p.length - 1+1=min bv.length p.length;omega) (by omega)
    rw[show(1:Nat)=0+1 from rfl,JA bv p hlt hlt2]at this
    have e:List.getD (List.map (enc:Int->PV) p) (0+Int.toNat 0) default=enc p[0]:=e
    rw[e]
    exact this
 ·cases h
def JY(l:Nat)(b:BoxT)(fs:List Fact)(n:Nat):List AV:=Z4 52 0 [(0,.yld l),(1,.pv (.rptr [enc b.v,.int .i64 b.m])),(2,.pv (.rptr [enc fs])),(4,.row 0 n 0 n)]
def YU(p:List Int):ZC:=[.obj (.row false 3 1 (p.map enc))]
def b6r(l:Nat)(b:BoxT)(fs:List Fact)(n:Nat)(p:List Int):List AV:=Z4 52 0 [(0,.yld l),(1,.pv (.rptr [enc b.v,.int .i64 b.m])),(2,.pv (.rptr [enc fs])),(4,.row 0 n 0 n),(5,.pv (enc (Zq b.v p)))]
theorem c2s(l:Nat)(b:BoxT)(fs:List Fact)(hb:b.v.length<=1000):ZM a2t (fun n S' _=>n=99∧S'=⟨JY l b fs b.v.length,YU (Wu b.v)⟩) 0 (Zt 0 a0h fun _=>False) (.inl Mg) [.seq (.ext 99 [0,1,2,4])] ⟨Z4 52 0 [(0,.yld l),(1,.pv (.rptr [enc b.v,.int .i64 b.m])),(2,.pv (.rptr [enc fs]))],[]⟩:=by
 have e:PV.asXs (List.getD (List.drop 0 [enc b.v,PV.int .i64 b.m]) 0 default)=b.v.map enc:=rfl
 have en:Int.toNat ((List.length (List.map (enc:Str->PV) b.v):Nat):Int)=b.v.length:=by simp
 have ez:List.replicate b.v.length (PV.int .i64 0)=(Wu b.v).map enc:=by
  unfold Wu
  rw[List.map_map]
  exact(List.map_const' ..).symm
 refine c5s (G:=fun _=>False) _ l b fs ⟨?_,rfl,?_⟩
 ·simp only[e,List.length_map]
  simp
  omega
 ·simp only[e,en,ez]
  rfl
theorem c2j(l:Nat)(b:BoxT)(fs:List Fact)(p:List Int)(hb:b.v.length<=1000)(hp:p.length<=1000):ZM b8z (fun n S' _=>n=99∧S'=⟨b6r l b fs p.length p,YU p⟩) 1 (Zt 1 a0x fun _=>False) (.inl NE) [.seq (.ext 99 [0,1,2,4,5])] ⟨JY l b fs p.length,YU p⟩:=by
 refine c7h (G:=fun _=>False) _ l b fs p.length p ⟨?_,rfl,?_⟩
 ·show(p.length==p.length&&(p.map enc).length==p.length&&3==3&&VV (List Int) (enc p)&&VV (List Str) (enc b.v)&&decide ((dec (enc b.v:PV):List Str).length<=1000)&&decide (p.length<=1000))=true
  rw[Yb,Yb,Enc.dec_enc,decide_eq_true hb,decide_eq_true hp];simp
 ·have e1:Zq (dec (Sh.co (Sh.sl 1) (List.getD [enc b.v,PV.int .i64 b.m] 0 default))) (Sa (p.map enc))=Zq b.v p:=by
   rw[Gr]
   show Zq (dec (enc b.v:PV)) p=_
   rw[Enc.dec_enc]
  rw[e1]
  rfl
theorem b3r(l:Nat)(b:BoxT)(fs:List Fact): ∀ (k:Nat) (p:List Int),k<=p.length->p.length<=1000->(∀ x∈p,-1<=x∧x<=20000) ->
  AtS [.seq (.ext 99 [0,1,2,4])] CG (fun n S' _=>n=99∧ ∃ q,Y1 b.m k p=some q∧S'=⟨JY l b fs p.length,YU q⟩) 1 (Zt 1 Jm fun _=>Y1 b.m k p=none) QO 0 52 [(0,.yld l),(1,.pv (.rptr [enc b.v,.int .i64 b.m])),(2,.pv (.rptr [enc fs])),(4,.row 0 p.length 0 p.length),(6,.pv (.int .i64 ((k:Int) - 1)))] (YU p):=by
 intro k
 induction k with
 | zero=>
  intro p hk hp hx
  exact b7p (G:=fun _=>Y1 b.m 0 p=none) _ l b fs p.length p _ (ZR (by simp) (ZN (by simp) rfl))
 | succ k ih=>
  intro p hk hp hx
  have hlt:k<p.length:=by omega
  have ek:((k+1:Nat):Int) - 1=(k:Int):=by omega
  rw[ek]
  have e:=Qe hlt
  have eg:p.getD k 0=p[k]:=by simp[List.getD,hlt]
  have hxk:=hx _ (List.getElem_mem hlt)
  have em:PV.asInt (List.getD (List.drop 1 [enc b.v,PV.int .i64 b.m]) 0 default)=b.m:=rfl
  have q1:(decide (0<=(k:Int))&&decide (0+Int.toNat (k:Int)<p.length)&&List.length (List.map (enc:Int->PV) p)==p.length)=true:=by simp;omega
  have q2:(List.length (List.map (enc:Int->PV) p)==p.length&&decide (0+Int.toNat (k:Int)<List.length (List.map (enc:Int->PV) p)))=true:=by simp;omega
  have hset : ∀ y:Int,List.set (List.map (enc:Int->PV) p) (0+Int.toNat (k:Int)) (enc y)=(p.set k y).map enc:=fun y=>by rw[Nat.zero_add,Int.toNat_natCast,List.map_set]
  refine b7p (G:=fun _=>Y1 b.m (k+1) p=none) _ l b fs p.length p k (ZN (by simp) ?_)
  rw[e]
  refine⟨q1,q2,rfl,Kb (fun h=>⟨q1,?_,?_⟩) fun h=>ZR (by simp) ⟨q1,q2,rfl,q1,?_,?_⟩⟩
  ·rw[q2];rfl
  ·have h:p[k]=b.m:=h
   have hn:Y1 b.m (k+1) p=Y1 b.m k (p.set k 0):=by rw[Y1,eg,if_pos h]
   rw[hn]
   have hw:IntKind.i64.wrap ((k:Int) - 1)=(k:Int) - 1:=X0 (by omega) (by omega)
   rw[hw]
   have:=ih (p.set k 0) (by rw[List.length_set];omega) (by rw[List.length_set];exact hp) (fun x hx'=>by
    rcases List.mem_or_eq_of_mem_set hx' with h|rfl
    ·exact hx x h
    ·omega)
   rw[List.length_set]at this
   have e0:=hset 0
   unfold YU at this
   rw[<- e0]at this
   exact this
  ·rw[q2];rfl
  ·have h : ¬ p[k]=b.m:=h
   have hn:Y1 b.m (k+1) p=some (p.set k (p[k]+1)):=by rw[Y1,eg,if_neg h]
   have hw:IntKind.i64.wrap (p[k]+1)=p[k]+1:=X0 (by omega) (by omega)
   refine⟨rfl,_,hn,?_⟩
   have e0:=hset (IntKind.i64.wrap (p[k]+1))
   show(⟨JY l b fs p.length,[.obj (.row false 3 1 (List.set (List.map (enc:Int->PV) p) (0+Int.toNat (k:Int)) (enc (IntKind.i64.wrap (p[k]+1)))))]⟩:St)=_
   rw[e0,hw]
   rfl
theorem c2a(l:Nat)(b:BoxT)(fs:List Fact)(p:List Int)(hp:p.length<=1000)(hx : ∀ x∈p,-1<=x∧x<=20000):ZM CG (fun n S' _=>n=99∧ ∃ q,VY b.m p=some q∧S'=⟨JY l b fs p.length,YU q⟩) 1 (Zt 1 Jm fun _=>VY b.m p=none) (.inl QO) [.seq (.ext 99 [0,1,2,4])] ⟨JY l b fs p.length,YU p⟩:=by
 refine c7m (G:=fun _=>VY b.m p=none) _ l b fs p.length p ?_
 have hw:IntKind.i64.wrap (((p.length - 0:Nat):Int) - 1)=((p.length:Nat):Int) - 1:=by rw[Nat.sub_zero];exact X0 (by omega) (by omega)
 rw[hw]
 exact b3r l b fs p.length p (Nat.le_refl _) hp hx
end Go.Pl
namespace Go.Pl
open Go.RowKit
open Enc (enc dec is)
open EncL (encL decL isL)
set_option maxRecDepth 100000
def Vm:IC:=(Zh [Za 4 (Xo false) 0] (.seq (Zh [Za 5 (.mv (Zy 0)) 0] (.block 0 (.loop [5,0,1] (.seq (Zh [Za 8 (Zc 5) 0,Za 9 (Zc 0) 0,Za 10 (.len 1 (.t 9)) 0,Za 11 (ZA .lss (.t 8) (.t 10)) 0] (.cond (.t 11) .skip (.exit 0))) (.seq (.block 1 (Zh [Za 15 (Zc 0) 0,Za 16 (Zc 5) 0,Za 17 (.iaddr 3 (.t 15) (.t 16)) 0,Za 18 (.faddr 1 (.t 17)) 0,Za 19 (.load true [(.int .i64),(.sl 2)] (.t 18)) 0,Za 20 (Zc 1) 0,Za 21 (YT 65 [(.t 19),(.t 20)]) 0,Za 14 (Zc 21) 2,Za 22 (.extract (.t 14) 0) 2,Za 23 (.extract (.t 14) 1) 2,Za 6 (Zc 22) 2,Za 7 (Zc 23) 2] (Zh [Za 24 (Zc 7) 0,Za 25 (ZA .neq (.t 24) (Zy 0)) 0,Za 26 (Zc 25) 0,ZX 27 (Zc 6) 0 26,ZX 28 (ZA .lss (.t 27) (Zy 0)) 0 26,Za 29 (.pick (.t 26) (.c (.bool true)) (.t 28)) 0,Za 30 (Zc 29) 0,ZX 31 (Zc 0) 0 30,ZX 32 (Zc 5) 0 30,ZX 33 (.iaddr 3 (.t 31) (.t 32)) 0 30,ZX 34 (.faddr 0 (.t 33)) 0 30,ZX 35 (.load false [.bool] (.t 34)) 0 30,ZX 36 (Zc 35) 0 30,Z6 37 (Zc 6) 0 36,Z6 38 (ZA .neq (.t 37) (Zy 0)) 0 36,ZX 39 (.pick (.t 36) (.t 38) (.c (.bool false))) 0 30,Za 40 (.pick (.t 30) (.c (.bool true)) (.t 39)) 0] (.cond (.t 40) (Zh [Za 4 (Xo false) 0] .ret) .skip)))) (.reg [Za 12 (Zc 5) 0,Za 13 (ZA .add (.t 12) (Zy 1)) 0,Za 5 (Zc 13) 0] none)))))) (Zh [Za 4 (Xo true) 0] .ret)))
def Vq:List IRes:=[(.tmp 4)]
abbrev a6r:Nat:=41
def UA:ZO:=Xc [(65,.pure (preT (fun x:Lin×List Coef×Unit=>YF x.1&&decide (x.2.1.length<=9223372036854775807))) (Zj (fun x:Lin×List Coef×Unit=>Yy x.1 x.2.1)))]
theorem b4v{G:PV->Prop}(fs:List Fact)(v:List Coef)(h:At UA 0 (Zb Vq G) Vm 0 41 [(0,(.pv (.sl 3 false (List.map enc fs)))),(1,(.pv (.sl 2 false (List.map enc v)))),(5,(.pv (.int .i64 0)))] []):Ze UA 0 (Zb Vq G) Vm [] (Yk 41 [enc fs,enc v]):=Ze.tp (.nil) h (by kernel_rfl)
theorem R7{G:PV->Prop}(fs:List Fact)(v:List Coef)(i:Int)(h:if (decide (i<(↑(List.length (List.map enc fs)):Int)))=true then(decide (0<=i)&&decide (Int.toNat i<List.length (List.map enc fs))&&Enc.sz Fact==3)=true∧(∃ y0:Fact,AV.pv (PV.rptr (PV.cells (List.getD (List.map enc fs) (Int.toNat i) default)))=AV.pv (PV.rptr (PV.cells ((enc) y0)))∧((Go.Pl.preT (fun(x:Lin×List Coef×Unit)=>YF x.1&&decide (List.length x.2.1<=9223372036854775807)) [(.agg [(.int .i64 (PV.asInt (List.getD (List.drop 1 (PV.cells (enc y0))) 0 default))),(.sl 2 false (PV.asXs (List.getD (List.drop 1 (PV.cells (enc y0))) (0+1) default)))]),(.sl 2 false (List.map enc v))])=true∧(∃ y1:Int×Int,AV.pv (Zj (fun(x:Lin×List Coef×Unit)=>Yy x.1 x.2.1) [(.agg [(.int .i64 (PV.asInt (List.getD (List.drop 1 (PV.cells (enc y0))) 0 default))),(.sl 2 false (PV.asXs (List.getD (List.drop 1 (PV.cells (enc y0))) (0+1) default)))]),(.sl 2 false (List.map enc v))])=AV.pv (enc y1)∧(if (y1.2 != 0)=true then G ((.bool false))else(if (decide (y1.1<0))=true then G ((.bool false))else((decide (0<=i)&&decide (Int.toNat i<List.length (List.map enc fs))&&Enc.sz Fact==3)=true∧(∃ y2:Fact,AV.pv (PV.rptr (PV.cells (List.getD (List.map enc fs) (Int.toNat i) default)))=AV.pv (PV.rptr (PV.cells ((enc) y2)))∧(if (PV.asBool (List.getD (List.drop 0 (PV.cells (enc y2))) 0 default))=true then if (y1.1 != 0)=true then G ((.bool false))else(At UA 0 (Zb Vq G) Vm 0 41 [(0,(.pv (.sl 3 false (List.map enc fs)))),(1,(.pv (.sl 2 false (List.map enc v)))),(5,(.pv (.int .i64 (IntKind.wrap IntKind.i64 (i+1)))))] [])else(At UA 0 (Zb Vq G) Vm 0 41 [(0,(.pv (.sl 3 false (List.map enc fs)))),(1,(.pv (.sl 2 false (List.map enc v)))),(5,(.pv (.int .i64 (IntKind.wrap IntKind.i64 (i+1)))))] [])))))))))else(G ((.bool true)))):At UA 0 (Zb Vq G) Vm 0 41 [(0,.pv (enc fs)),(1,.pv (enc v)),(5,.pv (.int .i64 i))] []:=At.tp (.lit (.ask (.req (.abs (Fact) (fun YY=>AV.pv (PV.rptr (PV.cells ((enc) YY)))) (.lit (.req (.abs (Int×Int) (fun YY=>AV.pv (enc YY)) (.lit (.ask (.lit (.lit (.lit (.lit (.lit (.lit (.lit (.lit (.lit (.lit (.lit (.nil)))))))))))) (.lit (.lit (.lit (.ask (.lit (.lit (.lit (.lit (.lit (.lit (.lit (.lit (.nil))))))))) (.lit (.lit (.req (.abs (Fact) (fun YY=>AV.pv (PV.rptr (PV.cells ((enc) YY)))) (.lit (.lit (.lit (.lit (.ask (.lit (.lit (.lit (.lit (.lit (.ask (.nil) (.lit (.nil)))))))) (.lit (.lit (.lit (.lit (.lit (.lit (.nil))))))))))))))))))))))))))) (.nil))) h (by kernel_rfl)
end Go.Pl
namespace Go.Pl
open Go.RowKit
open Enc (enc dec is)
open EncL (encL decL isL)
set_option maxRecDepth 100000
end Go.Pl
