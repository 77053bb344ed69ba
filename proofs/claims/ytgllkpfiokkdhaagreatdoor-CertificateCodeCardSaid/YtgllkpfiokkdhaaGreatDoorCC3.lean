/-
  Texts of mine that belong together (packed by pack.py), for every input: TyL, TyM, TyN, TyT, TyO, TyS, GLb, GLa, QLa, QLb, GLc, QLc, GLd, QLd, TyU, QLh, QLm, GLe, QLe, GLg, QLg, QLf, GLi, GL1, QL1, QL2, QLi, QLj, QL3, QL4, GL5, QL5, GL7.
-/
import Derived.Test.YtgllkpfiokkdhaaGreatDoorChecked
import Derived.Test.YtgllkpfiokkdhaaGreatDoorCC2
import Derived.KernelRfl
import Derived.Lib.AtoiAllMem
import Derived.Lib.AtoiAllCases
import Derived.Lib.ItoaNum
set_option linter.unusedVariables false
set_option linter.unusedSimpArgs false
namespace Go.Pl
open Go.RowKit
open Enc (enc dec is)
open EncL (encL decL isL)
structure Coef where
 v:Str
 c:Int
 deriving DecidableEq
instance:Enc Coef where
 sz:=2
 enc x:=.agg [enc x.v,enc x.c]
 dec | .agg [a,b]=>⟨dec a,dec b⟩|_=>⟨⟨[]⟩,0⟩
 is | .agg [a,b]=>is Str a&&is Int b|_=>false
 is_enc v:=by simp
 dec_enc v:=by simp
 sub p h:=by
  cases p with
  | agg xs=>
   match xs,h with
   | [a,b],h=>
    simp only[Bool.and_eq_true]at h
    exact .agg (.cons (Enc.sub a h.1).2 (.cons (Enc.sub b h.2).2 .nil))
  | _=>cases h
structure Lin where
 k:Int
 t:List Coef
 deriving DecidableEq
instance:Enc Lin where
 sz:=2
 enc x:=.agg [enc x.k,enc x.t]
 dec | .agg [a,b]=>⟨dec a,dec b⟩|_=>⟨0,[]⟩
 is | .agg [a,b]=>is Int a&&is (List Coef) b|_=>false
 is_enc v:=by simp
 dec_enc v:=by simp
 sub p h:=by
  cases p with
  | agg xs=>
   match xs,h with
   | [a,b],h=>
    simp only[Bool.and_eq_true]at h
    exact .agg (.cons (Enc.sub a h.1).2 (.cons (Enc.sub b h.2).2 .nil))
  | _=>cases h
@[simp] theorem e0m (a b : PV) : is Coef (.agg [a, b]) = (is Str a && is Int b) := rfl
@[simp] theorem d9x (a b : PV) : (dec (.agg [a, b]) : Coef) = ⟨dec a, dec b⟩ := rfl
@[simp] theorem e1q (a b : PV) : is Lin (.agg [a, b]) = (is Int a && is (List Coef) b) := rfl
@[simp] theorem e0t (a b : PV) : (dec (.agg [a, b]) : Lin) = ⟨dec a, dec b⟩ := rfl
def digB(c:UInt8):Bool:=decide (48<=c)&&decide (c<=57)
def VW(c:UInt8):Bool:=decide (97<=c)&&decide (c<=122)
def YZ(s:Str):Bool:=match s.s with
 | []=>false
 | c::r=>if c=95 then r.all digB&& !r.isEmpty&&decide (r.head? ≠ some 48)&&decide (r.length<=9)else VW c&&r.all (fun c=>VW c||digB c)&&decide (r.length<=29)
def Yy(n:Int):Bool:=decide (-1000000<=n)&&decide (n<=1000000)
def Nq:List Coef->Bool
 | a::b::l=>decide (a.v.s<b.v.s)&&Nq (b::l)
 | _=>true
def Zm(l:Lin):Bool:=l.t.all (fun t=>YZ t.v&&decide (t.c≠0)&&Yy t.c)&&Nq l.t&&Yy l.k&&decide (l.t.length<=12)
def Zw(m:List (Str×Int)):List (PV×PV):=m.map fun p=>(.str p.1.s,.int .i64 p.2)
def KO(m:List (Str×Int))(s:List UInt8):Int:=((m.find? fun p=>p.1.s==s).map (·.2)).getD 0
def JZ(m:List (Str×Int)):List Coef:=(Wt ((m.filter fun p=>decide (p.2≠0)).map (·.1.s))).map fun s=>⟨⟨s⟩,KO m s⟩
def Nn(n:Int)(m:List (Str×Int)):Lin×Int:=if Zm ⟨n,JZ m⟩then(⟨n,JZ m⟩,0)else(⟨0,[]⟩,3)
end Go.Pl
namespace Go.Pl
open Go.RowKit
open Enc (enc dec is)
open EncL (encL decL isL)
structure Fact where
 eq:Bool
 l:Lin
 deriving DecidableEq
instance:Enc Fact where
 sz:=3
 enc x:=.agg [enc x.eq,enc x.l.k,enc x.l.t]
 dec | .agg [a,b,c]=>⟨dec a,⟨dec b,dec c⟩⟩|_=>⟨false,⟨0,[]⟩⟩
 is | .agg [a,b,c]=>is Bool a&&is Int b&&is (List Coef) c|_=>false
 is_enc v:=by simp
 dec_enc v:=by simp
 sub p h:=by
  cases p with
  | agg xs=>
   match xs,h with
   | [a,b,c],h=>
    simp only[Bool.and_eq_true]at h
    exact .agg (.cons (Enc.sub a h.1.1).2 (.cons (Enc.sub b h.1.2).2 (.cons (Enc.sub c h.2).2 .nil)))
  | _=>cases h
@[simp] theorem e0w (a b c : PV) : is Fact (.agg [a, b, c]) = (is Bool a && is Int b && is (List Coef) c) := rfl
@[simp] theorem d9j (a b c : PV) : (dec (.agg [a, b, c]) : Fact) = ⟨dec a, ⟨dec b, dec c⟩⟩ := rfl
structure Bnd where
 kind:Int
 v:Str
 dim:Lin
 row:Str
 dims:List Lin
 elem:Str
 deriving DecidableEq
instance:Enc Bnd where
 sz:=7
 enc x:=.agg [enc x.kind,enc x.v,enc x.dim.k,enc x.dim.t,enc x.row,enc x.dims,enc x.elem]
 dec | .agg [a,b,c,d,e,f,g]=>⟨dec a,dec b,⟨dec c,dec d⟩,dec e,dec f,dec g⟩|_=>⟨0,⟨[]⟩,⟨0,[]⟩,⟨[]⟩,[],⟨[]⟩⟩
 is | .agg [a,b,c,d,e,f,g]=>is Int a&&is Str b&&is Int c&&is (List Coef) d&&is Str e&&is (List Lin) f&&is Str g|_=>false
 is_enc v:=by simp
 dec_enc v:=by simp
 sub p h:=by
  cases p with
  | agg xs=>
   match xs,h with
   | [a,b,c,d,e,f,g],h=>
    simp only[Bool.and_eq_true]at h
    exact .agg (.cons (Enc.sub a h.1.1.1.1.1.1).2 (.cons (Enc.sub b h.1.1.1.1.1.2).2 (.cons (Enc.sub c h.1.1.1.1.2).2 (.cons (Enc.sub d h.1.1.1.2).2 (.cons (Enc.sub e h.1.1.2).2 (.cons (Enc.sub f h.1.2).2 (.cons (Enc.sub g h.2).2 .nil)))))))
  | _=>cases h
@[simp] theorem e0z (a b c d e f g : PV) : is Bnd (.agg [a, b, c, d, e, f, g]) = (is Int a && is Str b && is Int c && is (List Coef) d && is Str e && is (List Lin) f && is Str g) := rfl
@[simp] theorem e0n (a b c d e f g : PV) : (dec (.agg [a, b, c, d, e, f, g]) : Bnd) = ⟨dec a, dec b, ⟨dec c, dec d⟩, dec e, dec f, dec g⟩ := rfl
inductive Cert where
 | mk (kind:Int) (mults:List Int) (lin:Lin) (kids:List Cert)
mutual
def KA:Cert->PV
 | .mk k m l ks=>.agg [enc k,enc m,enc l.k,enc l.t,.sl 5 false (Wo ks)]
def Wo:List Cert->List PV
 | []=>[]
 | c::cs=>KA c::Wo cs
end
mutual
def Gw:PV->Cert
 | .agg [a,b,c,d,.sl _ _ ks]=>.mk (dec a) (dec b) ⟨dec c,dec d⟩ (VZ ks)
 | _=>.mk 0 [] ⟨0,[]⟩ []
def VZ:List PV->List Cert
 | []=>[]
 | p::ps=>Gw p::VZ ps
end
mutual
def Qv:PV->Bool
 | .agg [a,b,c,d,.sl s _ ks]=>is Int a&&is (List Int) b&&is Int c&&is (List Coef) d&&(ks.isEmpty||s==5)&&Ke ks
 | _=>false
def Ke:List PV->Bool
 | []=>true
 | p::ps=>Qv p&&Ke ps
end
theorem PM(cs:List Cert):Wo cs=cs.map KA:=by
 induction cs with
 | nil=>simp[Wo]
 | cons c cs ih=>simp[Wo,ih]
theorem a5l(cs:List PV):VZ cs=cs.map Gw:=by
 induction cs with
 | nil=>simp[VZ]
 | cons c cs ih=>simp[VZ,ih]
theorem a6u(cs:List PV):Ke cs=cs.all Qv:=by
 induction cs with
 | nil=>simp[Ke]
 | cons c cs ih=>simp[Ke,ih]
mutual
theorem LX: ∀ c:Cert,Qv (KA c)=true
 | .mk k m l ks=>by
  have h:=a0v ks
  simp only[KA,Qv,Enc.is_enc,Bool.true_and,Bool.and_eq_true,h,and_true]
  simp
theorem a0v: ∀ cs:List Cert,Ke (Wo cs)=true
 | []=>by simp[Wo,Ke]
 | c::cs=>by simp[Wo,Ke,LX c,a0v cs]
end
mutual
theorem OE: ∀ c:Cert,Gw (KA c)=c
 | .mk k m l ks=>by
  have h:=EC ks
  simp only[KA,Gw,Enc.dec_enc,h]
theorem EC: ∀ cs:List Cert,VZ (Wo cs)=cs
 | []=>by simp[Wo,VZ]
 | c::cs=>by simp[Wo,VZ,OE c,EC cs]
end
mutual
theorem Em: ∀ p:PV,Qv p=true->Kl p (KA (Gw p))
 | .agg [a,b,c,d,.sl s t ks],h=>by
  simp only[Qv,Bool.and_eq_true]at h
  obtain⟨⟨⟨⟨⟨h1,h2⟩,h3⟩,h4⟩,h5⟩,h6⟩:=h
  have hk:=Me ks h6
  simp only[Gw,KA]
  refine .agg (.cons (Enc.sub a h1).2 (.cons (Enc.sub b h2).2 (.cons (Enc.sub c h3).2 (.cons (Enc.sub d h4).2 (.cons ?_ .nil)))))
  simp only[Bool.or_eq_true,List.isEmpty_iff,beq_iff_eq]at h5
  rcases h5 with rfl|rfl
  ·simp only[VZ,Wo]
   exact(Kl.sl0 _ _ _).2
  ·exact(Kl.sl hk.1 hk.2).2
 | .bool _,h | .int _ _,h | .str _,h | .sl _ _ _,h | .tup _,h | .nilp,h | .nilmap,h | .nilfn,h | .nili,h | .ifc,h | .fn _,h | .rptr _,h=>by simp[Qv]at h
 | .agg [],h | .agg [_],h | .agg [_,_],h | .agg [_,_,_],h | .agg [_,_,_,_],h=>by simp[Qv]at h
 | .agg (a::b::c::d::e::f::g),h=>by
  have h':Qv (.agg (a::b::c::d::e::f::g))=false:=by cases e <;> kernel_rfl
  rw[h']at h;cases h
 | .agg [_,_,_,_,.bool _],h | .agg [_,_,_,_,.int _ _],h | .agg [_,_,_,_,.str _],h | .agg [_,_,_,_,.agg _],h | .agg [_,_,_,_,.tup _],h | .agg [_,_,_,_,.nilp],h | .agg [_,_,_,_,.nilmap],h | .agg [_,_,_,_,.nilfn],h | .agg [_,_,_,_,.nili],h | .agg [_,_,_,_,.ifc],h | .agg [_,_,_,_,.fn _],h | .agg [_,_,_,_,.rptr _],h=>by simp[Qv]at h
theorem Me: ∀ ps:List PV,Ke ps=true->ps.length=(Wo (VZ ps)).length∧ ∀ (j:Nat) x y,ps[j]? = some x->(Wo (VZ ps))[j]? = some y->Kl x y
 | [],_=>⟨by simp[VZ,Wo],fun j x y h=>by simp at h⟩
 | p::ps,h=>by
  simp only[Ke,Bool.and_eq_true]at h
  have h1:=Em p h.1
  have h2:=Me ps h.2
  refine⟨by simp[VZ,Wo,<- h2.1],fun j x y hx hy=> ?_⟩
  simp only[VZ,Wo]at hy
  cases j with
  | zero=>simp at hx hy;subst hx hy;exact h1
  | succ j=>exact h2.2 j x y (by simpa using hx) (by simpa using hy)
end
instance:Enc Cert where
 sz:=5
 enc:=KA
 dec:=Gw
 is:=Qv
 is_enc:=LX
 dec_enc:=OE
 sub:=Em
abbrev Cert.mults:Cert->List Int | .mk _ m _ _=>m
abbrev Cert.lin:Cert->Lin | .mk _ _ l _=>l
abbrev Cert.kids:Cert->List Cert | .mk _ _ _ k=>k
theorem ZO(k:Int)(m:List Int)(l:Lin)(ks:List Cert):(enc (Cert.mk k m l ks):PV) = .agg [enc k,enc m,enc l.k,enc l.t,enc ks]:=by
 show KA _=_
 rw[KA,PM]
 rfl
@[simp] theorem d1v (a b c d e : PV) : is Cert (.agg [a, b, c, d, e]) = (is Int a && is (List Int) b && is Int c && is (List Coef) d && is (List Cert) e) := by
 show Qv _=_
 cases e <;> simp only[Qv] <;> try (simp[is];done)
 rename_i s t ks
 rw[a6u]
 show _=(_&&((ks.isEmpty||s==5)&&ks.all Qv))
 rw[Bool.and_assoc]
@[simp] theorem c3f (a b c d e : PV) (h : is (List Cert) e = true) : (dec (.agg [a, b, c, d, e]) : Cert) = .mk (dec a) (dec b) ⟨dec c, dec d⟩ (dec e) := by
 show Gw _=_
 cases e <;> try (cases h;done)
 rw[Gw,a5l]
 rfl
end Go.Pl
namespace Go.Pl
open Enc (enc dec is)
structure Er where
 b:Bool
 deriving DecidableEq
instance:Enc Er where
 sz:=1
 enc x:=if x.b then .ifc else .nili
 dec | .ifc=>⟨true⟩|_=>⟨false⟩
 is | .ifc=>true | .nili=>true|_=>false
 is_enc v:=by obtain⟨b⟩:=v;cases b <;> rfl
 dec_enc v:=by obtain⟨b⟩:=v;cases b <;> rfl
 sub p h:=by cases p <;> first|exact .refl _|cases h
def XH(s:Str):Int×Er:=match Lib.atoiAll s.s with
 | .ok v=>(v,⟨false⟩)
 | .range=>(Lib.atoiSat s.s,⟨true⟩)
 | _=>(0,⟨true⟩)
def c5t(n:Int):Str:=⟨Lib.itoa n⟩
def GI(l:Lin)(n:Int):Bool:=l.t.all (fun t=>decide (t.v.s.length<=40))&&decide ((l.t.length:Int)<=n)
abbrev V9(n:Int):Int:=IntKind.i64.wrap n
def UY(s:Str)(c:Int):Bool->List Coef->List Coef
 | put,[]=>if put then []else [⟨s,c⟩]
 | put,t::r=>(if !put&&decide (s.s<t.v.s)then [⟨s,c⟩]else [])++(if t.v=s then⟨t.v,V9 (t.c+c)⟩::UY s c true r else t::UY s c (put||decide (s.s<t.v.s)) r)
def MQ(l:Lin)(s:Str)(c:Int):Lin:=⟨l.k,(UY s c false l.t).filter fun t=>decide (t.c≠0)⟩
def Su(a b:Int):Int:=if a<b then -1 else if a>b then 1 else 0
def Cf:List Coef->List Coef->Int
 | [],[]=>0
 | [],_::_=> -1
 | _::_,[]=>1
 | x::l,y::m=>if x.v.s<y.v.s∨x.v.s=y.v.s∧x.c<y.c then -1 else if x=y then Cf l m else 1
def Nl(a b:Lin):Int:=if Cf a.t b.t≠0 then Cf a.t b.t else Su a.k b.k
def VG(l:List Int):Int:=l.foldl (fun g n=>(Int.gcd g n:Int)) 0
def Gu(l:List Int):Int×Int:=(VG l,0)
def Nt(n:Int):Int:=if n<0 then V9 (-n)else n
def V8(n:Int):Bool:=decide (-4611686018427387904<=n)&&decide (n<=4611686018427387904)
def Sq(a b:Int):Int:=if V8 a&&V8 b then(if b=0 then 1 else 0)else 2
def b2c(a b:Int):Int:=if a.tmod b≠0∧decide (a<0)≠decide (b<0)then V9 (V9 (a.tdiv b) - 1)else V9 (a.tdiv b)
def c5x(a b:Int):Int:=if a.tmod b≠0∧decide (a<0)≠decide (b<0)then V9 (a.tmod b+b)else a.tmod b
def CP(a b:Int):Int×Int:=if Sq a b≠0 then(0,Sq a b)else(b2c a b,0)
mutual
def Yj:Cert->Int
 | .mk _ _ _ ks=>Y4 1 ks
def Y4(n:Int):List Cert->Int
 | []=>n
 | c::cs=>Y4 (V9 (n+Yj c)) cs
end
def Yb(l:Lin):Bool:=decide (l.t.length<=9223372036854775807)
def ZG(l:Lin):Bool:=Yb l&&l.t.all fun t=>decide (t.v.s.length<=1000000)
mutual
def Y8:Cert->Bool
 | .mk _ m l ks=>decide (m.length<=9223372036854775807)&&Yb l&&decide (ks.length<=9223372036854775807)&&Ug ks
def Ug:List Cert->Bool
 | []=>true
 | c::cs=>Y8 c&&Ug cs
end
theorem UI{c:Cert}: ∀ {cs:List Cert},Ug cs=true->c∈cs->Y8 c=true
 | d::cs,hc,h=>by
  simp only[Ug,Bool.and_eq_true]at hc
  rcases List.mem_cons.1 h with rfl|h
  ·exact hc.1
  ·exact UI hc.2 h
mutual
def ZL:Cert->Nat
 | .mk _ _ _ ks=>XN ks+1
def XN:List Cert->Nat
 | []=>0
 | c::cs=>max (ZL c) (XN cs)
end
theorem Qo{c:Cert}: ∀ {cs:List Cert},c∈cs->ZL c<=XN cs
 | d::cs,h=>by
  rcases List.mem_cons.1 h with rfl|h
  ·simp only[XN];omega
  ·have:=Qo h;simp only[XN];omega
end Go.Pl
namespace Go.Pl
open Go.RowKit
open Enc (enc dec is)
open EncL (encL decL isL)
abbrev ca'{α β:Type}[EncL α][Enc β](F:α->β)(ps:List PV)(K:β->Prop):Prop:= ∃ y,AV.pv (Zk F ps)=AV.pv (enc y)∧K y
abbrev el'{α:Type}[Enc α](l:List α)(i:Int)(K:α->Prop):Prop:= ∃ y:α,AV.pv (PV.rptr (PV.cells (List.getD (List.map enc l) (Int.toNat i) default)))=AV.pv (PV.rptr (PV.cells ((enc) y)))∧K y
abbrev ix'{α:Type}[Enc α](l:List α)(i:Int)(n:Nat):Prop:=(decide (0<=i)&&decide (Int.toNat i<List.length (List.map (enc:α->PV) l))&&Enc.sz α==n)=true
abbrev lt'{α:Type}[Enc α](l:List α)(i:Int):Bool:=decide (i<(↑(List.length (List.map (enc:α->PV) l)):Int))
abbrev d1'{α:Type}[Enc α](y:α):PV:=List.getD (List.drop 1 (PV.cells (enc y))) 0 default
abbrev x1'{α:Type}[Enc α](y:α):List PV:=PV.asXs (List.getD (List.drop 1 (PV.cells (enc y))) 0 default)
abbrev e0'{α:Type}[Enc α](y:α):PV:=List.getD (PV.cells (enc y)) 0 default
abbrev e1'{α:Type}[Enc α](y:α):PV:=List.getD (PV.cells (enc y)) (0+1) default
abbrev g0'{α:Type}[Enc α](l:List α)(i:Int):PV:=List.getD (List.map enc l) (0+Int.toNat i) default
abbrev gx'{α:Type}[Enc α](y:α)(i:Int):PV:=List.getD (x1' y) (Int.toNat i) default
def mv'(α:Type)[Enc α](m:Mq):Mq:=.abs α (fun y=>AV.pv (enc y)) m
def L'':Nat->Mq->Mq
 | 0,m=>m
 | n+1,m=>.lit (L'' n m)
def n''(n:Nat):Mq:=L'' n .nil
abbrev i''(n:Int):AV:=.pv (.int .i64 n)
abbrev s1'{α:Type}[Enc α](l:List α):AV:=.pv (.sl 1 false (List.map enc l))
abbrev s2'{α:Type}[Enc α](l:List α):AV:=.pv (.sl 2 false (List.map enc l))
abbrev fi'(s:List Sh)(x:List PV):Bool:=decide (0+List.length s<=List.length x)&&Xu x 0 s
def mr'(α:Type)[Enc α](m:Mq):Mq:=.abs α (fun y=>AV.pv (PV.rptr (PV.cells (enc y)))) m
theorem WB{α:Type}[Enc α]{l:List α}{i:Nat}(h:i<l.length){P:α->Prop}(k:P l[i]):
  ∃ y:α,AV.pv (PV.rptr (PV.cells (List.getD (List.map enc l) (Int.toNat (i:Int)) default)))=AV.pv (PV.rptr (PV.cells (enc y)))∧P y:=⟨l[i],by rw[CX enc h],k⟩
theorem YU{α:Type}[Enc α]{l:List α}{i n:Nat}(h:i<l.length)(hn:Enc.sz α=n):(decide (0<=(i:Int))&&decide (Int.toNat (i:Int)<List.length (List.map (enc:α->PV) l))&&Enc.sz α==n)=true:=by simp[hn,h]
theorem Gy{α:Type}[Enc α]{l:List α}{i:Nat}(h:i<l.length):decide ((i:Int)<(List.length (List.map (enc:α->PV) l):Int))=true:=by simp;omega
theorem Gx{α:Type}[Enc α]{l:List α}{i:Nat}(h : ¬ i<l.length): ¬ decide ((i:Int)<(List.length (List.map (enc:α->PV) l):Int))=true:=by simp;omega
theorem U4{n i:Nat}(h:i<n):decide ((i:Int)<(n:Int))=true:=by simp;omega
theorem UX{n i:Nat}(h : ¬ i<n): ¬ decide ((i:Int)<(n:Int))=true:=by simp;omega
theorem d4q{P Q:Prop}:(if (!false)=true then P else Q)=P:=rfl
theorem d8z{P Q:Prop}:(if (!true)=true then P else Q)=Q:=rfl
theorem Zu{c:Prop}[Decidable c]{P Q:Prop}(h:c)(k:P):if c then P else Q:=by rw[if_pos h];exact k
theorem Zv{c:Prop}[Decidable c]{P Q:Prop}(h : ¬ c)(k:Q):if c then P else Q:=by rw[if_neg h];exact k
theorem e1r{c:Prop}[Decidable c]{P Q:Prop}(h1:c->P)(h2 : ¬ c->Q):if c then P else Q:=by split;exact h1 ‹_›;exact h2 ‹_›
theorem WV{b:Bool}{P Q:Prop}(h1:b=false->P)(h2:b=true->Q):if (!b)=true then P else Q:=by cases b;exact h1 rfl;exact h2 rfl
theorem Ba{b:Bool}{P Q:Prop}(h1:b=true->P)(h2:b=false->Q):if b=true then P else Q:=by cases b;exact h2 rfl;exact h1 rfl
theorem Qz{c:Prop}[Decidable c]{P Q:Prop}(h1:c->P)(h2 : ¬ c->Q):if decide c=true then P else Q:=by by_cases h:c;rw[if_pos (by simpa using h)];exact h1 h;rw[if_neg (by simpa using h)];exact h2 h
theorem Qe{α:Type}[BEq α][LawfulBEq α]{x y:α}{P Q:Prop}(h1:x=y->P)(h2:x≠y->Q):if (x==y)=true then P else Q:=by by_cases h:x=y;rw[if_pos (by simpa using h)];exact h1 h;rw[if_neg (by simpa using h)];exact h2 h
theorem YC{β:Type}[Enc β]{x y:β}(h:x=y):ZB y (enc x):=⟨Enc.is_enc x,by rw[Enc.dec_enc,h]⟩
theorem ZY{x y:Bool}(h:x=y):ZB y (.bool x):=⟨rfl,h⟩
theorem U3{x y:Int}(h:x=y):ZB y (.int .i64 x):=⟨rfl,h⟩
section
variable (x:Coef) (f:Fact)
theorem co1:PV.asStr (List.getD (PV.cells (enc x)) 0 default)=x.v.s:=rfl
theorem co2:PV.asInt (List.getD (PV.cells (enc x)) (0+1) default)=x.c:=rfl
theorem co3:PV.asStr (List.getD (List.drop 0 (PV.cells (enc x))) 0 default)=x.v.s:=rfl
theorem co4:PV.asInt (List.getD (List.drop 1 (PV.cells (enc x))) 0 default)=x.c:=rfl
end
theorem d4w{c:UInt8}(n:Nat)(h:c≠UInt8.ofNat n)(hn:n<256): ¬ ((c.toNat:Int)==(n:Int))=true:=by
 intro e
 have e:(c.toNat:Int)=n:=by simpa using e
 have e:c.toNat=n:=by omega
 exact h (UInt8.toNat_inj.1 (by rw[e,UInt8.toNat_ofNat'];omega))
theorem YV: ∀ a b:List UInt8,Op.bytesLess a b=decide (a<b)
 | [],[]=>by simp[Op.bytesLess]
 | _::_,[]=>by simp[Op.bytesLess]
 | [],_::_=>by simp[Op.bytesLess]
 | x::a,y::b=>by
  rw[Op.bytesLess,YV a b]
  simp only[List.cons_lt_cons_iff]
  by_cases h1:x<y
  ·simp[h1]
  ·by_cases h2:x=y
   ·subst h2;simp
   ·simp[h1,h2]
theorem Zr.fuel{P:Program}{f:Nat}{α β:Type}[EncL α][Enc β]{pre:α->Bool}{F:α->β}(μ:α->Nat)(h : ∀ N,Zr P f (fun a=>pre a&&decide (μ a<N)) F):Zr P f pre F:=fun ps hps=>by
 refine h (μ (decL ps)+1) ps ?_
 simp only[preT,Bool.and_eq_true,decide_eq_true_eq]at hps ⊢
 exact⟨hps.1,hps.2,by omega⟩
theorem Zr.void{P:Program}{f:Nat}{α β:Type}[EncL α][Enc β]{pre:α->Bool}{F:α->β}(h : ∀ a,pre a=false):Zr P f pre F:=fun ps hps=>by simp[preT,h]at hps
theorem Zr.rec{P:Program}{f:Nat}{α β:Type}[EncL α][Enc β]{pre:α->Bool}{F:α->β}(μ:α->Nat)(h : ∀ N,Zr P f (fun a=>pre a&&decide (μ a<N)) F->Zr P f (fun a=>pre a&&decide (μ a<N+1)) F):Zr P f pre F:=by
 refine Zr.fuel μ fun N=> ?_
 induction N with
 | zero=>exact Zr.void fun a=>by simp
 | succ N ih=>exact h N ih
theorem Zr.or{P:Program}{f:Nat}{α β:Type}[EncL α][Enc β]{pre:α->Bool}{F:α->β}(c:α->Bool)(h1:Zr P f (fun a=>pre a&&c a) F)(h2:Zr P f (fun a=>pre a&& !c a) F):Zr P f pre F:=fun ps hps=>by
 have hps':=hps
 simp only[preT,Bool.and_eq_true]at hps'
 cases hc:c (decL ps)
 ·exact h2 ps (by simp only[preT,hps'.1,hps'.2,hc];rfl)
 ·exact h1 ps (by simp only[preT,hps'.1,hps'.2,hc];rfl)
mutual
def Na:PV->PV->Bool
 | .bool a,.bool b=>a==b
 | .int k a,.int l b=>GV k l&&a==b
 | .str a,.str b=>a==b
 | .sl s t xs,.sl s' t' ys=>s==s'&&t==t'&&SB xs ys
 | .agg xs,.agg ys=>SB xs ys
 | .tup xs,.tup ys=>SB xs ys
 | .nilp,.nilp=>true
 | .nilmap,.nilmap=>true
 | .nilfn,.nilfn=>true
 | .nili,.nili=>true
 | .ifc,.ifc=>true
 | .fn a,.fn b=>a==b
 | .rptr xs,.rptr ys=>SB xs ys
 | _,_=>false
def SB:List PV->List PV->Bool
 | [],[]=>true
 | x::xs,y::ys=>Na x y&&SB xs ys
 | _,_=>false
end
theorem a2n(k:IntKind):GV k k=true:=by cases k <;> rfl
mutual
theorem c7p: ∀ (p q:PV),Na p q=true->p=q
 | .bool a,q,h=>by cases q <;> simp[Na]at h;rw[h]
 | .int k a,q,h=>by cases q <;> simp[Na]at h;rw[H5 h.1,h.2]
 | .str a,q,h=>by cases q <;> simp[Na]at h;rw[h]
 | .sl s t xs,q,h=>by cases q <;> simp[Na]at h;rw[h.1.1,h.1.2,Co xs _ h.2]
 | .agg xs,q,h=>by cases q <;> simp[Na]at h;rw[Co xs _ h]
 | .tup xs,q,h=>by cases q <;> simp[Na]at h;rw[Co xs _ h]
 | .nilp,q,h=>by cases q <;> simp[Na]at h;rfl
 | .nilmap,q,h=>by cases q <;> simp[Na]at h;rfl
 | .nilfn,q,h=>by cases q <;> simp[Na]at h;rfl
 | .nili,q,h=>by cases q <;> simp[Na]at h;rfl
 | .ifc,q,h=>by cases q <;> simp[Na]at h;rfl
 | .fn a,q,h=>by cases q <;> simp[Na]at h;rw[h]
 | .rptr xs,q,h=>by cases q <;> simp[Na]at h;rw[Co xs _ h]
theorem Co: ∀ (xs ys:List PV),SB xs ys=true->xs=ys
 | [],ys,h=>by cases ys <;> simp[SB]at h;rfl
 | x::xs,ys,h=>by
  cases ys with
  | nil=>simp[SB]at h
  | cons y ys=>simp[SB]at h;rw[c7p x y h.1,Co xs ys h.2]
end
mutual
theorem a0e: ∀ (p:PV),Na p p=true
 | .bool a | .str a | .fn a=>by simp[Na]
 | .int k a=>by simp[Na,a2n]
 | .sl s t xs=>by simp[Na,Bz xs]
 | .agg xs | .tup xs | .rptr xs=>by simp[Na,Bz xs]
 | .nilp | .nilmap | .nilfn | .nili | .ifc=>by simp[Na]
theorem Bz: ∀ (xs:List PV),SB xs xs=true
 | []=>by simp[SB]
 | x::xs=>by simp[SB,a0e x,Bz xs]
end
def QV(α:Type)[Enc α](p:PV):Bool:=Na p (enc (dec p:α))
@[simp] theorem YD {α : Type} [Enc α] (a : α) : QV α (enc a) = true := by unfold QV; rw [Enc.dec_enc]; exact a0e _
theorem XX{α:Type}[Enc α]{p:PV}(h:QV α p=true): ∃ a:α,p=enc a:=⟨_,c7p _ _ h⟩
end Go.Pl
namespace Go.Pl
open Enc (enc dec is)
@[irreducible] def Dp (a : Nat) (r : List UInt8) : Nat := r.foldl (fun a c => a * 10 + (c.toNat - 48)) a
theorem DJ(a:Nat):Dp a []=a:=by unfold Dp;rfl
theorem KP(a:Nat)(c:UInt8)(r:List UInt8):Dp a (c::r)=Dp (a*10+(c.toNat - 48)) r:=by unfold Dp;rfl
theorem UN{c:UInt8}:digB c=true ↔ 48<=c.toNat∧c.toNat<=57:=by
 simp only[digB,Bool.and_eq_true,decide_eq_true_eq,UInt8.le_iff_toNat_le]
 have e1:(48:UInt8).toNat=48:=rfl
 have e2:(57:UInt8).toNat=57:=rfl
 rw[e1,e2]
theorem a8q: ∀ (r:List UInt8) (a:Nat),r.all digB=true->Dp a r<(a+1)*10 ^ r.length
 | [],a,_=>by simp[DJ]
 | c::r,a,h=>by
  simp only[List.all_cons,Bool.and_eq_true,UN]at h
  have:=a8q r (a*10+(c.toNat - 48)) h.2
  rw[KP,List.length_cons,Nat.pow_succ]
  refine Nat.lt_of_lt_of_le this ?_
  rw[Nat.mul_comm (10 ^ r.length) 10,<- Nat.mul_assoc]
  exact Nat.mul_le_mul_right _ (by omega)
theorem Lh: ∀ (r:List UInt8) (a:Nat),a<=Dp a r
 | [],a=>by rw[DJ];exact Nat.le_refl _
 | c::r,a=>by
  have:=Lh r (a*10+(c.toNat - 48))
  rw[KP]
  omega
theorem MO: ∀ (r:List UInt8) (a:Nat),r.all digB=true->Dp a r<1000000000000000000->Lib.parseUint10 a r = .ok (Dp a r)
 | [],a,_,_=>by rw[DJ,Lib.parseUint10]
 | c::r,a,h,hv=>by
  simp only[List.all_cons,Bool.and_eq_true,UN]at h
  rw[KP]at hv ⊢
  have hge:=Lh r (a*10+(c.toNat - 48))
  rw[Lib.parseUint10,if_pos h.1,if_neg (by omega),if_neg (by omega)]
  exact MO r _ h.2 hv
theorem c2n{a d:Nat}(ha:1<=a)(hd:d<=9):Lib.decDigits (a*10+d)=Lib.decDigits a++[UInt8.ofNat (48+d)]:=by
 rw[Lib.decDigits,dif_neg (by omega),show(a*10+d) / 10=a by omega,show(a*10+d) % 10=d by omega]
theorem a7y: ∀ (r:List UInt8) (a:Nat),1<=a->r.all digB=true->Lib.decDigits (Dp a r)=Lib.decDigits a++r
 | [],a,_,_=>by simp[DJ]
 | c::r,a,ha,h=>by
  simp only[List.all_cons,Bool.and_eq_true,UN]at h
  rw[KP,a7y r _ (by omega) h.2,c2n ha (by omega)]
  have:UInt8.ofNat (48+(c.toNat - 48))=c:=by
   rw[show 48+(c.toNat - 48)=c.toNat by omega]
   exact UInt8.ofNat_toNat
  rw[this]
  simp
theorem c7t{n:Nat}(h:n<256):(UInt8.ofNat n).toNat=n:=by rw[UInt8.toNat_ofNat'];omega
theorem a6l: ∀ (u:Nat),1<=u->(Lib.decDigits u).all digB=true∧(Lib.decDigits u).head? ≠ some 48∧Lib.decDigits u≠[]:=by
 intro u
 induction u using Nat.strongRecOn with
 | _ u ih=>
  intro h1
  rw[Lib.decDigits]
  by_cases h:u<10
  ·rw[dif_pos h]
   refine⟨?_,?_,by simp⟩
   ·simp only[List.all_cons,List.all_nil,Bool.and_true]
    rw[UN,c7t (by omega)]
    omega
   ·simp only[List.head?_cons,ne_eq,Option.some.injEq]
    intro e
    have:=congrArg UInt8.toNat e
    rw[c7t (by omega)]at this
    have e48:(48:UInt8).toNat=48:=rfl
    rw[e48]at this
    omega
  ·rw[dif_neg h]
   obtain⟨i1,i2,i3⟩:=ih (u / 10) (by omega) (by omega)
   refine⟨?_,?_,by simp⟩
   ·rw[List.all_append,i1]
    simp only[List.all_cons,List.all_nil,Bool.and_true,Bool.true_and]
    rw[UN,c7t (by omega)]
    omega
   ·cases hd:Lib.decDigits (u / 10)with
    | nil=>exact absurd hd i3
    | cons c r=>rw[hd]at i2;simpa using i2
def a0s(r:List UInt8):Bool:=r.all digB&& !r.isEmpty&&decide (r.head? ≠ some 48)
theorem d6x(b:Bool):JP (enc (⟨b⟩:Er)) = !b:=by cases b <;> rfl
theorem d9i(e:Er):a0f (enc e)=true:=by obtain⟨b⟩:=e;cases b <;> rfl
theorem d2u(r:List UInt8)(hr:r.length<=9):(JP (enc (XH ⟨r⟩).2)&&decide ((XH ⟨r⟩).1>0)&&(Lib.itoa (XH ⟨r⟩).1==r))=a0s r:=by
 by_cases hn:a0s r=true
 ·rw[hn]
  simp only[a0s,Bool.and_eq_true,Bool.not_eq_true',decide_eq_true_eq]at hn
  obtain⟨⟨h1,h2⟩,h3⟩:=hn
  cases r with
  | nil=>simp at h2
  | cons c r=>
   have h1':=h1
   simp only[List.all_cons,Bool.and_eq_true,UN]at h1
   have hc:c≠48:=by simpa using h3
   have hc':c.toNat≠48:=fun e=>hc (UInt8.toNat_inj.1 (by rw[e];rfl))
   have hv:=a8q (c::r) 0 h1'
   have hp:10 ^ (c::r).length<=10 ^ 9:=Nat.pow_le_pow_right (by omega) hr
   have hpm:=MO (c::r) 0 h1' (by omega)
   have hat:Lib.atoiAll (c::r) = .ok (Dp 0 (c::r):Int):=by
    have e1 : ¬ (c.toNat=43∨c.toNat=45):=by omega
    have e2 : ¬ c.toNat=45:=by omega
    simp only[Lib.atoiAll,if_neg e1,Lib.parseMag,if_neg (show ¬ (c::r=[]) by simp),hpm]
    rw[if_neg (by omega),if_neg (fun e=>e2 e.1),if_neg e2]
   have ha:XH ⟨c::r⟩=((Dp 0 (c::r):Int),⟨false⟩):=by simp only[XH,hat]
   have hvd:Dp 0 (c::r)=Dp (c.toNat - 48) r:=by rw[KP];congr 1;omega
   have hpos:=Lh r (c.toNat - 48)
   rw[ha]
   have h4:Lib.itoa (Dp 0 (c::r):Int)=c::r:=by
    rw[Lib.itoa,if_neg (by omega),Int.toNat_natCast,hvd,a7y r _ (by omega) h1.2,Lib.decDigits,dif_pos (by omega)]
    have:UInt8.ofNat (48+(c.toNat - 48))=c:=by
     rw[show 48+(c.toNat - 48)=c.toNat by omega]
     exact UInt8.ofNat_toNat
    rw[this];rfl
   simp only[d6x,h4,beq_self_eq_true,Bool.and_true,Bool.not_false,Bool.true_and]
   exact decide_eq_true (by omega)
 ·have hn:a0s r=false:=by simpa using hn
  rw[hn]
  by_cases h1:decide ((XH ⟨r⟩).1>0)=true
  ·by_cases h2:(Lib.itoa (XH ⟨r⟩).1==r)=true
   ·exfalso
    have h1:(XH ⟨r⟩).1>0:=by simpa using h1
    have h2:Lib.itoa (XH ⟨r⟩).1=r:=by simpa using h2
    rw[Lib.itoa,if_neg (by omega)]at h2
    obtain⟨d1,d2,d3⟩:=a6l (XH ⟨r⟩).1.toNat (by omega)
    rw[h2]at d1 d2 d3
    have:a0s r=true:=by simp only[a0s,d1,decide_eq_true d2,Bool.true_and,Bool.and_true];cases r <;> simp at d3 ⊢
    rw[this]at hn;cases hn
   ·simp[h2]
  ·simp[h1]
theorem c6a(r:List UInt8):YZ ⟨95::r⟩=(a0s r&&decide (r.length<=9)):=by simp[YZ,a0s]
end Go.Pl
namespace Go.Pl
open Go.RowKit
open Enc (enc dec is)
open EncL (encL decL isL)
theorem R4(s:List UInt8): ∀ m:List (Str×Int),Np (.str s) (Zw m)=some ((m.find? fun p=>p.1.s==s).map fun p=>.int .i64 p.2)
 | []=>rfl
 | p::m=>by
  simp only[Zw,List.map_cons,Np,a0g,List.find?_cons]
  by_cases h:s=p.1.s
  ·subst h
   simp
  ·have h1:(s==p.1.s)=false:=by simpa using h
   have h2:(p.1.s==s)=false:=by simpa using fun e:p.1.s=s=>h e.symm
   simp only[h1,h2]
   exact R4 s m
theorem Uq(s:List UInt8)(m:List (Str×Int)):Ki (.str s) (Zw m)=true:=by simp[Ki,R4]
theorem Qi(s:List UInt8)(m:List (Str×Int)):YL (.str s) (.int .i64 0) (Zw m) = .int .i64 (KO m s):=by
 simp only[YL,R4,KO]
 cases m.find? fun p=>p.1.s==s <;> rfl
def Qt(s:Str)(c:Int):List (Str×Int)->List (Str×Int)
 | []=>[(s,c)]
 | p::m=>if s.s=p.1.s then(s,c)::m else p::Qt s c m
theorem FI(s:Str)(c:Int): ∀ m:List (Str×Int),upd (.str s.s) (.int .i64 c) (Zw m)=some (Zw (Qt s c m))
 | []=>rfl
 | p::m=>by
  have ih:=FI s c m
  simp only[Zw]at ih
  simp only[Zw,List.map_cons,upd,a0g,Qt]
  by_cases h:s.s=p.1.s
  ·simp[h]
  ·have h1:(s.s==p.1.s)=false:=by simpa using h
   simp[h1,h,ih]
def WW(k:Int):List Coef->List (Str×Int)->List (Str×Int)
 | [],m=>m
 | t::l,m=>WW k l (Qt t.v (IntKind.i64.wrap (KO m t.v.s+IntKind.i64.wrap (k*t.c))) m)
def Yx(m:List (Str×Int)):List (List UInt8):=m.map (·.1.s)
theorem Cq(s:Str)(c:Int): ∀ m:List (Str×Int),(Yx (Qt s c m)=Yx m)∨(s.s ∉ Yx m∧Yx (Qt s c m)=Yx m++[s.s])
 | []=>.inr ⟨by simp[Yx],rfl⟩
 | p::m=>by
  rw[Qt]
  split
  ·rename_i h
   exact .inl (by simp[Yx,h])
  ·rename_i h
   rcases Cq s c m with e|⟨e1,e2⟩
   ·exact .inl (by simp only[Yx,List.map_cons]at e ⊢;rw[e])
   ·refine .inr ⟨?_,?_⟩
    ·simp only[Yx,List.map_cons,List.mem_cons,not_or]at e1 ⊢
     exact⟨h,e1⟩
    ·simp only[Yx,List.map_cons]at e2 ⊢
     rw[e2];rfl
theorem b3b{s:Str}{c:Int}{m:List (Str×Int)}(h:(Yx m).Nodup):(Yx (Qt s c m)).Nodup:=by
 rcases Cq s c m with e|⟨e1,e2⟩
 ·rw[e];exact h
 ·rw[e2,List.nodup_append]
  exact⟨h,by simp,fun a ha b hb e=>by simp at hb;subst hb;subst e;exact e1 ha⟩
theorem Rp(k:Int): ∀ (l:List Coef) (m:List (Str×Int)),(Yx m).Nodup->(Yx (WW k l m)).Nodup
 | [],m,h=>h
 | t::l,m,h=>Rp k l _ (b3b h)
theorem b6p{m:List (Str×Int)}(h:(Yx m).Nodup):((Zw m).map (·.1)).Nodup:=by
 have e:(Zw m).map (·.1)=(Yx m).map PV.str:=by simp[Zw,Yx]
 rw[e,List.nodup_iff_pairwise_ne]at *
 exact List.Pairwise.map _ (fun a b hab e=>hab (by cases e;rfl)) h
theorem d0i(s:Str)(c:Int)(m:List (Str×Int)):(Qt s c m).length<=m.length+1:=by
 have h:(Qt s c m).length=(Yx (Qt s c m)).length:=by simp[Yx]
 have h2:m.length=(Yx m).length:=by simp[Yx]
 rcases Cq s c m with e|⟨_,e⟩
 ·rw[h,e,<- h2];omega
 ·rw[h,e];simp;omega
theorem CQ(k:Int): ∀ (l:List Coef) (m:List (Str×Int)),(WW k l m).length<=m.length+l.length
 | [],m=>Nat.le_refl _
 | t::l,m=>by
  have h1:=CQ k l (Qt t.v (IntKind.i64.wrap (KO m t.v.s+IntKind.i64.wrap (k*t.c))) m)
  have h2:=d0i t.v (IntKind.i64.wrap (KO m t.v.s+IntKind.i64.wrap (k*t.c))) m
  rw[WW,List.length_cons];omega
def Sl(m:List (Str×Int)):List (Str×Int):=m.filter fun p=>decide (p.2≠0)
theorem d2v(m:List (Str×Int)):(Zw m).filter (fun kv=> !Sc kv)=Zw (Sl m):=by
 unfold Zw Sl
 rw[List.filter_map]
 congr 1
 apply List.filter_congr
 intro p _
 show(!(p.2==0))=decide (p.2≠0)
 by_cases h:p.2=0 <;> simp[h]
def Zt(l:List Fact):Bool:=decide (l.length<=9223372036854775807)&&l.all fun f=>ZG f.l
def ZT(l:List Fact):Bool:=l.all fun f=>Zm f.l
def okQ(q:Int×Fact):Bool:= !decide (q.1 < -1000000000)&& !decide (q.1>1000000000)&&(!decide (q.1<0)||q.2.eq)
def Pi(s:Int×List (Str×Int))(q:Int×Fact):Int×List (Str×Int):=(V9 (s.1+V9 (q.1*q.2.l.k)),WW q.1 q.2.l.t s.2)
def Xb(fs:List Fact)(ms:List Int):Int×List (Str×Int):=(ms.zip fs).foldl Pi (0,[])
def Nc(fs:List Fact)(ms:List Int):Bool:=decide (ms.length=fs.length)&&(ms.zip fs).all okQ
def KX(a b:PV):Int×List (Str×Int):=Xb (dec a) (dec b)
def KV:AV×List AObj×List AObj:=(.tup [.pv (.int .i64 0),.pv .nilmap,.pv (.bool false)],[],[])
def a9p(s:Int×List (Str×Int)):AV×List AObj×List AObj:=(.tup [.pv (.int .i64 s.1),.map 0,.pv (.bool true)],[],[.map (Zw (Sl s.2))])
def Wm(ok:Bool)(a b:PV):Bool:=QV (List Fact) a&&QV (List Int) b&&decide ((dec a:List Fact).length<=9223372036854775807)&&(dec a:List Fact).all (fun f=>Yb f.l)&&(Nc (dec a) (dec b)==ok)
def Wj:List AV->List AObj->Bool
 | [.pv a,.pv b],[]=>Wm true a b
 | _,_=>false
def Uu:List AV->List AObj->AV×List AObj×List AObj
 | [.pv a,.pv b],_=>a9p (KX a b)
 | _,_=>KV
def WK:List AV->List AObj->Bool
 | [.pv a,.pv b],[]=>Wm false a b
 | _,_=>false
def Qj:List AV->List AObj->AV×List AObj×List AObj:=fun _ _=>KV
def UG(m:List (Str×Int)):List Int:=m.map (·.2)
def GY(m:List (Str×Int)):List (List UInt8):=Wt (Yx m)
def Kg(m:List (Str×Int))(g:Int)(xs:List (List UInt8)):List Coef:=xs.map fun v=>⟨⟨v⟩,V9 ((KO m v).tdiv g)⟩
def FD(n:Int)(m:List (Str×Int)):Lin×Int:=
 if m=[]then(⟨0,[]⟩,18)else
  if Zm ⟨(CP n (VG (UG m))).1,Kg m (VG (UG m)) (GY m)⟩then(⟨(CP n (VG (UG m))).1,Kg m (VG (UG m)) (GY m)⟩,0)else(⟨0,[]⟩,3)
def Y3(fs:List Fact)(ms:List Int):Lin×Int:=
 if ZT fs then(if Nc fs ms then FD (Xb fs ms).1 (Sl (Xb fs ms).2)else(⟨0,[]⟩,18))else(⟨0,[]⟩,1)
theorem b6z{a b:List Int}(h:a.Perm b):VG a=VG b:=by
 unfold VG
 refine h.foldl_eq' (fun x _ y _ z=> ?_) 0
 show((Int.gcd (Int.gcd z x:Int) y:Nat):Int)=((Int.gcd (Int.gcd z y:Int) x:Nat):Int)
 rw[Int.gcd_assoc,Int.gcd_comm x y,<- Int.gcd_assoc]
theorem c8p{l:List Int}(h : ∃ x∈l,x≠0):VG l≠0:=by
 have key : ∀ (l:List Int) (g:Int),(l.foldl (fun g n=>(Int.gcd g n:Int)) g=0)->g=0∧ ∀ x∈l,x=0:=by
  intro l
  induction l with
  | nil=>intro g h;exact⟨h,fun x hx=>by simp at hx⟩
  | cons y l ih=>
   intro g h
   rw[List.foldl_cons]at h
   obtain⟨h1,h2⟩:=ih _ h
   have h1:Int.gcd g y=0:=by omega
   rw[Int.gcd_eq_zero_iff]at h1
   refine⟨h1.1,fun x hx=> ?_⟩
   rcases List.mem_cons.1 hx with rfl|hx
   ·exact h1.2
   ·exact h2 x hx
 intro h0
 obtain⟨x,hx,hne⟩:=h
 exact hne ((key l 0 h0).2 x hx)
theorem a1x{a b:List (List UInt8)}(h:a.Perm b):Wt a=Wt b:=by
 have tr : ∀ x y z:List UInt8,decide (x<=y)=true->decide (y<=z)=true->decide (x<=z)=true:=fun x y z h k=>by simp only[decide_eq_true_eq]at *;exact List.le_trans h k
 have to : ∀ x y:List UInt8,(decide (x<=y)||decide (y<=x))=true:=fun x y=>by simp only[Bool.or_eq_true,decide_eq_true_eq];exact List.le_total x y
 refine List.Perm.eq_of_pairwise (le:=fun x y=>decide (x<=y)=true) (fun x y _ _ h1 h2=> ?_) (List.pairwise_mergeSort tr to a) (List.pairwise_mergeSort tr to b) (((List.mergeSort_perm a _).trans h).trans (List.mergeSort_perm b _).symm)
 simp only[decide_eq_true_eq]at h1 h2
 exact List.le_antisymm h1 h2
structure FnV (n:Nat) where
 u:Unit:=()
instance (n:Nat):Enc (FnV n) where
  sz:=1
  enc _:=.fn n
  dec _:={}
  is | .fn m=>m==n|_=>false
  is_enc _:=by simp
  dec_enc _:=rfl
  sub p h:=by
    cases p with
    | fn m => have : m = n := by simpa using h
              subst this;exact .refl _
    | _=>cases h
def Qx{α:Type}(p:α->Bool)(l:List α):Int:=match l.findIdx? p with|some i=>i|none=> -1
theorem ND{α:Type}(p:α->Bool)(l:List α):decide (Qx p l ≥ 0)=l.any p:=by
 unfold Qx
 cases h:l.findIdx? p with
 | none=>
  rw[List.findIdx?_eq_none_iff]at h
  have:l.any p=false:=by rw[List.any_eq_false];intro x hx;simp[h x hx]
  rw[this];rfl
 | some i=>
  have:l.any p=true:=by
   rw[List.findIdx?_eq_some_iff_getElem]at h
   obtain⟨hi,hp,_⟩:=h
   rw[List.any_eq_true]
   exact⟨_,List.getElem_mem hi,hp⟩
  rw[this]
  exact decide_eq_true (by show(i:Int) ≥ 0;omega)
theorem d3i{α:Type}(p:α->Bool)(l:List α)(i:Nat)(hlt:i<l.length)(hno : ∀ j (h:j<l.length),j<i->p l[j]=false)(hp:p l[i]=true):Qx p l=i:=by
 unfold Qx
 have:l.findIdx? p=some i:=by
  rw[List.findIdx?_eq_some_iff_getElem]
  exact⟨hlt,hp,fun j hj=>by simp[hno j (by omega) hj]⟩
 rw[this]
theorem d2m{α:Type}(p:α->Bool)(l:List α)(hno : ∀ j (h:j<l.length),p l[j]=false):Qx p l = -1:=by
 unfold Qx
 have:l.findIdx? p=none:=by
  rw[List.findIdx?_eq_none_iff]
  intro x hx
  obtain⟨j,hj,rfl⟩:=List.getElem_of_mem hx
  exact hno j hj
 rw[this]
end Go.Pl
namespace Go.Pl
open Go.RowKit
open Enc (enc dec is)
open EncL (encL decL isL)
set_option maxRecDepth 100000
noncomputable def Q8:IC:=Xp Proofs.Tryz.f74
def Q3:List IRes:=[]
abbrev d3n:Nat:=39
def Ha:ZI:=YN []
theorem d7x{G:AV×List AObj×List AObj->Prop}(n:Int)(m:List (Str×Int))(l:Lin)(k:Int)(h:At Ha 2 (Zj 2 Q3 G) Q8 0 39 [(0,(.ptr 0 0)),(2,(.pv (.int .i64 k))),(20,(.pv (.sl 2 false (List.map enc l.t)))),(21,(.pv (.int .i64 (↑(List.length (List.map enc l.t)):Int)))),(22,(.pv (.int .i64 0)))] [(.obj (.box [(.pv (.int .i64 (IntKind.wrap IntKind.i64 (n+IntKind.wrap IntKind.i64 (k*l.k))))),(.map 1)])),(.obj (.map (Zw m)))]):Zf Ha 2 (Zj 2 Q3 G) Q8 [] (ZN 39 [.ptr 0 0,.pv (enc l),.pv (.int .i64 k)] [.box [.pv (.int .i64 n),.map 1],.map (Zw m)]):=Zf.to (.lit (.lit (.nil))) h (by kernel_rfl)
theorem a8j{G:AV×List AObj×List AObj->Prop}(n:Int)(m:List (Str×Int))(l:Lin)(k:Int)(i:Int)(h:if (decide (i<(↑(List.length l.t):Int)))=true then(decide (0<=i)&&decide (Int.toNat i<List.length (List.map enc l.t))&&Enc.sz Coef==2)=true∧(∃ y0:Coef,AV.pv (PV.rptr (PV.cells (List.getD (List.map enc l.t) (Int.toNat i) default)))=AV.pv (PV.rptr (PV.cells ((enc) y0)))∧((Ki (Sh.co Sh.str (List.getD (PV.cells (enc y0)) 0 default)) (Zw m)&&Sh.fit (Sh.int .i64) (YL (Sh.co Sh.str (List.getD (PV.cells (enc y0)) 0 default)) (PV.int .i64 0) (Zw m)))=true∧((b8j (Sh.co Sh.str (List.getD (PV.cells (enc y0)) 0 default)) (PV.int .i64 (IntKind.wrap IntKind.i64 (PV.asInt (YL (Sh.co Sh.str (List.getD (PV.cells (enc y0)) 0 default)) (PV.int .i64 0) (Zw m))+IntKind.wrap IntKind.i64 (k*PV.asInt (List.getD (PV.cells (enc y0)) (0+1) default))))) (Zw m))=true∧(At Ha 2 (Zj 2 Q3 G) Q8 0 39 [(0,(.ptr 0 0)),(2,(.pv (.int .i64 k))),(20,(.pv (.sl 2 false (List.map enc l.t)))),(21,(.pv (.int .i64 (↑(List.length l.t):Int)))),(22,(.pv (.int .i64 (IntKind.wrap IntKind.i64 (i+1)))))] [(.obj (.box [(.pv (.int .i64 n)),(.map 1)])),(.obj (.map (OJ (Sh.co Sh.str (List.getD (PV.cells (enc y0)) 0 default)) (PV.int .i64 (IntKind.wrap IntKind.i64 (PV.asInt (YL (Sh.co Sh.str (List.getD (PV.cells (enc y0)) 0 default)) (PV.int .i64 0) (Zw m))+IntKind.wrap IntKind.i64 (k*PV.asInt (List.getD (PV.cells (enc y0)) (0+1) default))))) (Zw m))))]))))else(G (((.tup []),([(.box [(.pv (.int .i64 n)),(.map 1)]),(.map (Zw m))],[]))))):At Ha 2 (Zj 2 Q3 G) Q8 0 39 [(0,.ptr 0 0),(2,.pv (.int .i64 k)),(20,.pv (enc l.t)),(21,.pv (.int .i64 l.t.length)),(22,.pv (.int .i64 i))] [.obj (.box [.pv (.int .i64 n),.map 1]),.obj (.map (Zw m))]:=At.to (.lit (.ask (.req (.abs (Coef) (fun YY=>AV.pv (PV.rptr (PV.cells ((enc) YY)))) (.lit (.req (.keep (.lit (.lit (.req (.lit (.nil)))))))))) (.nil))) h (by kernel_rfl)
end Go.Pl
namespace Go.Pl
open Go.RowKit
open Enc (enc dec is)
open EncL (encL decL isL)
set_option maxRecDepth 100000
def UO:IC:=(Nh [Yt 25 (Vi 7) 0,Yt 26 (P6 .neq (.t 25) (PO 0)) 0] (.cond (.t 26) (.reg [Yt 27 (Vi 5) 0,Yt 28 (Vi 6) 0,Yt 29 (.bslice 9 1 1 (.str []) [(0,(.t 28))]) 0,Yt 30 (.append 9 1 16 (.t 27) (.t 29)) 1,Yt 5 (Vi 30) 2] none) .skip))
def Qn:List IRes:=[]
def Gi:ZI:=YN [(56,.own XJ VF),(41,.pure (preT (fun x:Lin×Unit=>ZG x.1)) (Zk (fun x:Lin×Unit=>Zm x.1)))]
theorem c2u{G:AV×List AObj×List AObj->Prop}(E:XK)(n:Int)(s:List UInt8)(c:Int)(h:if (c != 0)=true then E 99 ⟨Vs 58 0 [(0,(.ptr 0 0)),(2,(.ptr 2 0)),(4,(.ptr 3 0)),(5,(.row 5 1 0 1)),(18,(.map 1)),(19,(.ptr 4 0))],[(.obj (.box [(.pv (.int .i64 n)),(.map 1)])),.dead,(.obj (.box [(.pv (.int .i64 0)),(.pv (.sl 0 true []))])),(.obj (.box [(.pv (.int .i64 n)),(.pv (.sl 0 true []))])),.dead,(.obj (.row false 9 1 [(.str s)]))]⟩ (fun x S'=>AfX Gi E 5 (Zj 5 Qn G) UO 99 x S')else(E 99 ⟨Vs 58 0 [(0,(.ptr 0 0)),(2,(.ptr 2 0)),(4,(.ptr 3 0)),(5,(.pv (.sl 0 true []))),(18,(.map 1)),(19,(.ptr 4 0))],[(.obj (.box [(.pv (.int .i64 n)),(.map 1)])),.dead,(.obj (.box [(.pv (.int .i64 0)),(.pv (.sl 0 true []))])),(.obj (.box [(.pv (.int .i64 n)),(.pv (.sl 0 true []))])),.dead]⟩ (fun x S'=>AfX Gi E 5 (Zj 5 Qn G) UO 99 x S'))):Yu Gi E 5 (Zj 5 Qn G) (.inl UO) [.blk 1,.seq (.ext 99 [0,2,4,5,18,19])] ⟨Vs 58 0 [(0,.ptr 0 0),(2,.ptr 2 0),(4,.ptr 3 0),(5,.pv (.sl 0 true [])),(6,.pv (.str s)),(7,.pv (.int .i64 c)),(18,.map 1),(19,.ptr 4 0),(22,.pv (.tup [.str s,.int .i64 c])),(23,.pv (.str s)),(24,.pv (.int .i64 c))],[.obj (.box [.pv (.int .i64 n),.map 1]),.dead,.obj (.box [.pv (.int .i64 0),.pv (.sl 0 true [])]),.obj (.box [.pv (.int .i64 n),.pv (.sl 0 true [])]),.dead]⟩:=Yu.mo (.lit (.ask (.lit (.lit (.lit (.lit (.lit (.nil)))))) (.nil))) h (by kernel_rfl)
theorem c2x{G:AV×List AObj×List AObj->Prop}(E:XK)(n:Int)(s:List UInt8)(c:Int)(l:Nat)(xs:List (List UInt8))(h:if (c != 0)=true then(List.length (List.map PV.str xs)==l&&l==l&&decide ((l+List.length (List.drop 0 (List.take 1 [PV.str s])))*16<=1099511627776)&&decide (l+List.length (List.drop 0 (List.take 1 [PV.str s]))<=1099511627776))=true∧(E 99 ⟨Vs 58 0 [(0,(.ptr 0 0)),(2,(.ptr 2 0)),(4,(.ptr 3 0)),(5,(.row 5 (l+List.length (List.drop 0 (List.take 1 [PV.str s]))) 0 (l+List.length (List.drop 0 (List.take 1 [PV.str s]))))),(18,(.map 1)),(19,(.ptr 4 0))],[(.obj (.box [(.pv (.int .i64 n)),(.map 1)])),.dead,(.obj (.box [(.pv (.int .i64 0)),(.pv (.sl 0 true []))])),(.obj (.box [(.pv (.int .i64 n)),(.pv (.sl 0 true []))])),.dead,(.obj (.row false 9 1 (List.map PV.str xs++List.drop 0 (List.take 1 [PV.str s]))))]⟩ (fun x S'=>AfX Gi E 6 (Zj 6 Qn G) UO 99 x S'))else(E 99 ⟨Vs 58 0 [(0,(.ptr 0 0)),(2,(.ptr 2 0)),(4,(.ptr 3 0)),(5,(.row 5 l 0 l)),(18,(.map 1)),(19,(.ptr 4 0))],[(.obj (.box [(.pv (.int .i64 n)),(.map 1)])),.dead,(.obj (.box [(.pv (.int .i64 0)),(.pv (.sl 0 true []))])),(.obj (.box [(.pv (.int .i64 n)),(.pv (.sl 0 true []))])),.dead,(.obj (.row false 9 1 (List.map PV.str xs)))]⟩ (fun x S'=>AfX Gi E 6 (Zj 6 Qn G) UO 99 x S'))):Yu Gi E 6 (Zj 6 Qn G) (.inl UO) [.blk 1,.seq (.ext 99 [0,2,4,5,18,19])] ⟨Vs 58 0 [(0,.ptr 0 0),(2,.ptr 2 0),(4,.ptr 3 0),(5,.row 5 l 0 l),(6,.pv (.str s)),(7,.pv (.int .i64 c)),(18,.map 1),(19,.ptr 4 0),(22,.pv (.tup [.str s,.int .i64 c])),(23,.pv (.str s)),(24,.pv (.int .i64 c))],[.obj (.box [.pv (.int .i64 n),.map 1]),.dead,.obj (.box [.pv (.int .i64 0),.pv (.sl 0 true [])]),.obj (.box [.pv (.int .i64 n),.pv (.sl 0 true [])]),.dead,.obj (.row false 9 1 (xs.map .str))]⟩:=Yu.mo (.lit (.ask (.lit (.lit (.req (.nil)))) (.nil))) h (by kernel_rfl)
noncomputable def Xw:IC:=icx JN Proofs.Tryz.f70
def Xv:List IRes:=[(.cell true 2 2),(.tmp 3)]
abbrev d2s:Nat:=58
def XI:ZI:=YN [(56,.own XJ VF),(41,.pure (preT (fun x:Lin×Unit=>ZG x.1)) (Zk (fun x:Lin×Unit=>Zm x.1)))]
theorem d5u{G:AV×List AObj×List AObj->Prop}(E:XK)(n:Int)(m:List (Str×Int))(h:E 0 ⟨Vs 58 0 [(0,(.ptr 0 0)),(2,(.ptr 2 0)),(4,(.ptr 3 0)),(5,(.pv (.sl 0 true []))),(6,.undef),(7,.undef),(15,.undef),(16,.undef),(17,.undef),(18,.undef),(19,.undef),(20,.undef),(21,.undef),(22,.undef),(23,.undef),(24,.undef),(25,.undef),(26,.undef),(27,.undef),(28,.undef),(29,.undef),(30,.undef)],[(.obj (.box [(.pv (.int .i64 n)),(.map 1)])),(.obj (.map (Zw m))),(.obj (.box [(.pv (.int .i64 0)),(.pv (.sl 0 true []))])),(.obj (.box [(.pv (.int .i64 n)),(.pv (.sl 0 true []))]))]⟩ (fun x S'=>AfX XI E 2 (Zj 2 Xv G) Xw 0 x S')):Yu XI E 2 (Zj 2 Xv G) (.inl Xw) [] (ZN 58 [.ptr 0 0] [.box [.pv (.int .i64 n),.map 1],.map (Zw m)]):=Yu.mo (.nil) h (by kernel_rfl)
-- IMPOSSIBLE
theorem c4d{G:AV×List AObj×List AObj->Prop}(E:XK)(n:Int)(m:List (Str×Int))(i:Int)(h:if (decide (i<0))=true then(decide (0<=i)&&decide (Int.toNat i<List.length ([]:List PV))&&0==1)=true∧(False)else(∃ y0:Bool,AV.pv (Zk (fun(x:Lin×Unit)=>Zm x.1) [(.agg [(.int .i64 n),(.sl 0 true [])])])=AV.pv (enc y0)∧(if (!y0)=true then G (((.tup [(.pv (.agg [(.int .i64 0),(.sl 0 true [])])),(.pv (.int .i64 3))]),([(.box [(.pv (.int .i64 n)),(.map 1)]),(.map (Zw m))],[])))else(G (((.tup [(.pv (.agg [(.int .i64 n),(.sl 0 true [])])),(.pv (.int .i64 0))]),([(.box [(.pv (.int .i64 n)),(.map 1)]),(.map (Zw m))],[]))))))):Bf XI E 2 (Zj 2 Xv G) Xw 0 58 [(0,.ptr 0 0),(2,.ptr 2 0),(4,.ptr 3 0),(33,.pv (.sl 0 true [])),(34,.pv (.int .i64 0)),(35,.pv (.int .i64 i))] [.obj (.box [.pv (.int .i64 n),.map 1]),.obj (.map (Zw m)),.obj (.box [.pv (.int .i64 0),.pv (.sl 0 true [])]),.obj (.box [.pv (.int .i64 n),.pv (.sl 0 true [])])]:=Yu.mo (.lit (.ask (.req (.keep (.lit (.nil)))) (.lit (.abs (Bool) (fun YY=>AV.pv (enc YY)) (.ask (.nil) (.nil)))))) h (by kernel_rfl)
theorem c0v{G:AV×List AObj×List AObj->Prop}(E:XK)(n:Int)(m:List (Str×Int))(l:Nat)(xs:List (List UInt8))(i:Int)(h:if (decide (i<(↑l:Int)))=true then(decide (0<=i)&&decide (0+Int.toNat i<l)&&List.length (List.map PV.str xs)==l)=true∧((List.length (List.map PV.str xs)==l&&decide (0+Int.toNat i<List.length (List.map PV.str xs)))=true∧((decide (0+List.length [Sh.str]<=List.length (PV.cells (List.getD (List.map PV.str xs) (0+Int.toNat i) default)))&&Xu (PV.cells (List.getD (List.map PV.str xs) (0+Int.toNat i) default)) 0 [Sh.str])=true∧((Ki (Sh.co Sh.str (List.getD (PV.cells (List.getD (List.map PV.str xs) (0+Int.toNat i) default)) 0 default)) (Zw m)&&Sh.fit (Sh.int .i64) (YL (Sh.co Sh.str (List.getD (PV.cells (List.getD (List.map PV.str xs) (0+Int.toNat i) default)) 0 default)) (PV.int .i64 0) (Zw m)))=true∧(Bf XI E 2 (Zj 2 Xv G) Xw 0 58 [(0,(.ptr 0 0)),(2,(.ptr 2 0)),(4,(.ptr 3 0)),(33,(.row 4 l 0 l)),(34,(.pv (.int .i64 (↑l:Int)))),(35,(.pv (.int .i64 (IntKind.wrap IntKind.i64 (i+1)))))] [(.obj (.box [(.pv (.int .i64 n)),(.map 1)])),(.obj (.map (Zw m))),(.obj (.box [(.pv (.int .i64 0)),(.pv (.sl 0 true []))])),(.obj (.box [(.pv (.int .i64 n)),(.row 5 1 0 1)])),(.obj (.row false 9 1 (List.map PV.str xs))),(.obj (.row false 80 2 [(.agg [(.str (PV.asStr (List.getD (PV.cells (List.getD (List.map PV.str xs) (0+Int.toNat i) default)) 0 default))),(.int .i64 (PV.asInt (YL (Sh.co Sh.str (List.getD (PV.cells (List.getD (List.map PV.str xs) (0+Int.toNat i) default)) 0 default)) (PV.int .i64 0) (Zw m))))])]))]))))else(∃ y0:Bool,AV.pv (Zk (fun(x:Lin×Unit)=>Zm x.1) [(.agg [(.int .i64 n),(.sl 0 true [])])])=AV.pv (enc y0)∧(if (!y0)=true then G (((.tup [(.pv (.agg [(.int .i64 0),(.sl 0 true [])])),(.pv (.int .i64 3))]),([(.box [(.pv (.int .i64 n)),(.map 1)]),(.map (Zw m))],[])))else(G (((.tup [(.pv (.agg [(.int .i64 n),(.sl 0 true [])])),(.pv (.int .i64 0))]),([(.box [(.pv (.int .i64 n)),(.map 1)]),(.map (Zw m))],[]))))))):Bf XI E 2 (Zj 2 Xv G) Xw 0 58 [(0,.ptr 0 0),(2,.ptr 2 0),(4,.ptr 3 0),(33,.row 4 l 0 l),(34,.pv (.int .i64 l)),(35,.pv (.int .i64 i))] [.obj (.box [.pv (.int .i64 n),.map 1]),.obj (.map (Zw m)),.obj (.box [.pv (.int .i64 0),.pv (.sl 0 true [])]),.obj (.box [.pv (.int .i64 n),.pv (.sl 0 true [])]),.obj (.row false 9 1 (xs.map .str))]:=Yu.mo (.lit (.ask (.req (.keep (.req (.req (.req (.keep (.lit (.lit (.lit (.lit (.lit (.lit (.nil))))))))))))) (.lit (.abs (Bool) (fun YY=>AV.pv (enc YY)) (.ask (.nil) (.nil)))))) h (by kernel_rfl)
theorem a1u{G:AV×List AObj×List AObj->Prop}(E:XK)(n:Int)(m:List (Str×Int))(l:Nat)(xs:List (List UInt8))(i:Int)(q:Nat)(ts:List Coef)(h:if (decide (i<(↑l:Int)))=true then(decide (0<=i)&&decide (0+Int.toNat i<l)&&List.length (List.map PV.str xs)==l)=true∧((List.length (List.map PV.str xs)==l&&decide (0+Int.toNat i<List.length (List.map PV.str xs)))=true∧((decide (0+List.length [Sh.str]<=List.length (PV.cells (List.getD (List.map PV.str xs) (0+Int.toNat i) default)))&&Xu (PV.cells (List.getD (List.map PV.str xs) (0+Int.toNat i) default)) 0 [Sh.str])=true∧((Ki (Sh.co Sh.str (List.getD (PV.cells (List.getD (List.map PV.str xs) (0+Int.toNat i) default)) 0 default)) (Zw m)&&Sh.fit (Sh.int .i64) (YL (Sh.co Sh.str (List.getD (PV.cells (List.getD (List.map PV.str xs) (0+Int.toNat i) default)) 0 default)) (PV.int .i64 0) (Zw m)))=true∧((List.length (List.map enc ts)==q&&q==q&&decide ((q+List.length (List.drop 0 (List.take 1 [PV.agg [Sh.co Sh.str (List.getD (PV.cells (List.getD (List.map PV.str xs) (0+Int.toNat i) default)) 0 default),if false=true then PV.tup [Sh.co (Sh.int .i64) (YL (Sh.co Sh.str (List.getD (PV.cells (List.getD (List.map PV.str xs) (0+Int.toNat i) default)) 0 default)) (PV.int .i64 0) (Zw m)),PV.bool (Uy (Sh.co Sh.str (List.getD (PV.cells (List.getD (List.map PV.str xs) (0+Int.toNat i) default)) 0 default)) (Zw m))]else Sh.co (Sh.int .i64) (YL (Sh.co Sh.str (List.getD (PV.cells (List.getD (List.map PV.str xs) (0+Int.toNat i) default)) 0 default)) (PV.int .i64 0) (Zw m))]])))*24<=1099511627776)&&decide (q+List.length (List.drop 0 (List.take 1 [PV.agg [Sh.co Sh.str (List.getD (PV.cells (List.getD (List.map PV.str xs) (0+Int.toNat i) default)) 0 default),if false=true then PV.tup [Sh.co (Sh.int .i64) (YL (Sh.co Sh.str (List.getD (PV.cells (List.getD (List.map PV.str xs) (0+Int.toNat i) default)) 0 default)) (PV.int .i64 0) (Zw m)),PV.bool (Uy (Sh.co Sh.str (List.getD (PV.cells (List.getD (List.map PV.str xs) (0+Int.toNat i) default)) 0 default)) (Zw m))]else Sh.co (Sh.int .i64) (YL (Sh.co Sh.str (List.getD (PV.cells (List.getD (List.map PV.str xs) (0+Int.toNat i) default)) 0 default)) (PV.int .i64 0) (Zw m))]]))<=1099511627776))=true∧(Bf XI E 2 (Zj 2 Xv G) Xw 0 58 [(0,(.ptr 0 0)),(2,(.ptr 2 0)),(4,(.ptr 3 0)),(33,(.row 4 l 0 l)),(34,(.pv (.int .i64 (↑l:Int)))),(35,(.pv (.int .i64 (IntKind.wrap IntKind.i64 (i+1)))))] [(.obj (.box [(.pv (.int .i64 n)),(.map 1)])),(.obj (.map (Zw m))),(.obj (.box [(.pv (.int .i64 0)),(.pv (.sl 0 true []))])),(.obj (.box [(.pv (.int .i64 n)),(.row 5 (q+List.length (List.drop 0 (List.take 1 [PV.agg [Sh.co Sh.str (List.getD (PV.cells (List.getD (List.map PV.str xs) (0+Int.toNat i) default)) 0 default),if false=true then PV.tup [Sh.co (Sh.int .i64) (YL (Sh.co Sh.str (List.getD (PV.cells (List.getD (List.map PV.str xs) (0+Int.toNat i) default)) 0 default)) (PV.int .i64 0) (Zw m)),PV.bool (Uy (Sh.co Sh.str (List.getD (PV.cells (List.getD (List.map PV.str xs) (0+Int.toNat i) default)) 0 default)) (Zw m))]else Sh.co (Sh.int .i64) (YL (Sh.co Sh.str (List.getD (PV.cells (List.getD (List.map PV.str xs) (0+Int.toNat i) default)) 0 default)) (PV.int .i64 0) (Zw m))]]))) 0 (q+List.length (List.drop 0 (List.take 1 [PV.agg [Sh.co Sh.str (List.getD (PV.cells (List.getD (List.map PV.str xs) (0+Int.toNat i) default)) 0 default),if false=true then PV.tup [Sh.co (Sh.int .i64) (YL (Sh.co Sh.str (List.getD (PV.cells (List.getD (List.map PV.str xs) (0+Int.toNat i) default)) 0 default)) (PV.int .i64 0) (Zw m)),PV.bool (Uy (Sh.co Sh.str (List.getD (PV.cells (List.getD (List.map PV.str xs) (0+Int.toNat i) default)) 0 default)) (Zw m))]else Sh.co (Sh.int .i64) (YL (Sh.co Sh.str (List.getD (PV.cells (List.getD (List.map PV.str xs) (0+Int.toNat i) default)) 0 default)) (PV.int .i64 0) (Zw m))]]))))])),(.obj (.row false 9 1 (List.map PV.str xs))),(.obj (.row false 80 2 (List.map enc ts++List.drop 0 (List.take 1 [PV.agg [Sh.co Sh.str (List.getD (PV.cells (List.getD (List.map PV.str xs) (0+Int.toNat i) default)) 0 default),if false=true then PV.tup [Sh.co (Sh.int .i64) (YL (Sh.co Sh.str (List.getD (PV.cells (List.getD (List.map PV.str xs) (0+Int.toNat i) default)) 0 default)) (PV.int .i64 0) (Zw m)),PV.bool (Uy (Sh.co Sh.str (List.getD (PV.cells (List.getD (List.map PV.str xs) (0+Int.toNat i) default)) 0 default)) (Zw m))]else Sh.co (Sh.int .i64) (YL (Sh.co Sh.str (List.getD (PV.cells (List.getD (List.map PV.str xs) (0+Int.toNat i) default)) 0 default)) (PV.int .i64 0) (Zw m))]]))))])))))else((List.length (List.map enc ts)==q)=true∧((Go.Pl.preT (fun(x:Lin×Unit)=>ZG x.1) [(.agg [(.int .i64 n),(.sl 2 false (List.drop 0 (List.take q (List.map enc ts))))])])=true∧(∃ y0:Bool,AV.pv (Zk (fun(x:Lin×Unit)=>Zm x.1) [(.agg [(.int .i64 n),(.sl 2 false (List.drop 0 (List.take q (List.map enc ts))))])])=AV.pv (enc y0)∧(if (!y0)=true then G (((.tup [(.pv (.agg [(.int .i64 0),(.sl 0 true [])])),(.pv (.int .i64 3))]),([(.box [(.pv (.int .i64 n)),(.map 1)]),(.map (Zw m))],[])))else(G (((.tup [(.agg [(.pv (.int .i64 n)),(.row 2 q 0 q)]),(.pv (.int .i64 0))]),([(.box [(.pv (.int .i64 n)),(.map 1)]),(.map (Zw m))],[(.row true 80 2 (List.map enc ts))]))))))))):Bf XI E 2 (Zj 2 Xv G) Xw 0 58 [(0,.ptr 0 0),(2,.ptr 2 0),(4,.ptr 3 0),(33,.row 4 l 0 l),(34,.pv (.int .i64 l)),(35,.pv (.int .i64 i))] [.obj (.box [.pv (.int .i64 n),.map 1]),.obj (.map (Zw m)),.obj (.box [.pv (.int .i64 0),.pv (.sl 0 true [])]),.obj (.box [.pv (.int .i64 n),.row 5 q 0 q]),.obj (.row false 9 1 (xs.map .str)),.obj (.row false 80 2 (ts.map enc))]:=Yu.mo (.lit (.ask (.req (.keep (.req (.req (.req (.keep (.lit (.lit (.req (.lit (.nil))))))))))) (.req (.req (.abs (Bool) (fun YY=>AV.pv (enc YY)) (.ask (.nil) (.nil))))))) h (by kernel_rfl)
theorem c3c{G:AV×List AObj×List AObj->Prop}(E:XK)(n:Int)(m:List (Str×Int))(h:Bf XI E 2 (Zj 2 Xv G) Xw 0 58 [(0,(.ptr 0 0)),(2,(.ptr 2 0)),(4,(.ptr 3 0)),(33,(.pv (.sl 0 true []))),(34,(.pv (.int .i64 0))),(35,(.pv (.int .i64 0)))] [(.obj (.box [(.pv (.int .i64 n)),(.map 1)])),(.obj (.map (Zw m))),(.obj (.box [(.pv (.int .i64 0)),(.pv (.sl 0 true []))])),(.obj (.box [(.pv (.int .i64 n)),(.pv (.sl 0 true []))]))]):AfX XI E 2 (Zj 2 Xv G) Xw 0 .normal ⟨Vs 58 0 [(0,.ptr 0 0),(2,.ptr 2 0),(4,.ptr 3 0),(5,.pv (.sl 0 true [])),(18,.map 1),(19,.ptr 4 0)],[.obj (.box [.pv (.int .i64 n),.map 1]),.obj (.map (Zw m)),.obj (.box [.pv (.int .i64 0),.pv (.sl 0 true [])]),.obj (.box [.pv (.int .i64 n),.pv (.sl 0 true [])]),.dead]⟩:=Yu.mo (.lit (.keep (.nil))) h (by kernel_rfl)
theorem c1u{G:AV×List AObj×List AObj->Prop}(E:XK)(n:Int)(m:List (Str×Int))(l:Nat)(xs:List (List UInt8))(h:(XJ [(.row 0 l 0 l)] [(.row false 9 1 (List.map PV.str xs))])=true∧(Bf XI E 2 (Zj 2 Xv G) Xw 0 58 [(0,(.ptr 0 0)),(2,(.ptr 2 0)),(4,(.ptr 3 0)),(33,(.row 4 l 0 l)),(34,(.pv (.int .i64 (↑(l - 0):Int)))),(35,(.pv (.int .i64 0)))] [(.obj (.box [(.pv (.int .i64 n)),(.map 1)])),(.obj (.map (Zw m))),(.obj (.box [(.pv (.int .i64 0)),(.pv (.sl 0 true []))])),(.obj (.box [(.pv (.int .i64 n)),(.pv (.sl 0 true []))])),(.obj (.row false 9 1 (List.map PV.str (Wt (List.map KM (List.map PV.str xs))))))])):AfX XI E 2 (Zj 2 Xv G) Xw 0 .normal ⟨Vs 58 0 [(0,.ptr 0 0),(2,.ptr 2 0),(4,.ptr 3 0),(5,.row 5 l 0 l),(18,.map 1),(19,.ptr 4 0)],[.obj (.box [.pv (.int .i64 n),.map 1]),.obj (.map (Zw m)),.obj (.box [.pv (.int .i64 0),.pv (.sl 0 true [])]),.obj (.box [.pv (.int .i64 n),.pv (.sl 0 true [])]),.dead,.obj (.row false 9 1 (xs.map .str))]⟩:=Yu.mo (.req (.keep (.nil))) h (by kernel_rfl)
end Go.Pl
namespace Go.Pl
open Go.RowKit
open Enc (enc dec is)
open EncL (encL decL isL)
def YK(m:List (Str×Int))(xs:List (List UInt8)):List Coef:=xs.map fun s=>⟨⟨s⟩,KO m s⟩
def D7(n:Int)(m:List (Str×Int))(l:List Coef):AV×List AObj×List AObj:=
 if Zm ⟨n,l⟩then
  if l.isEmpty then(.tup [.pv (.agg [.int .i64 n,.sl 0 true []]),.pv (.int .i64 0)],[.box [.pv (.int .i64 n),.map 1],.map (Zw m)],[])
  else(.tup [.agg [.pv (.int .i64 n),.row 2 l.length 0 l.length],.pv (.int .i64 0)],[.box [.pv (.int .i64 n),.map 1],.map (Zw m)],[.row true 80 2 (l.map enc)])
 else(.tup [.pv (.agg [.int .i64 0,.sl 0 true []]),.pv (.int .i64 3)],[.box [.pv (.int .i64 n),.map 1],.map (Zw m)],[])
theorem c3s(n:Int)(m:List (Str×Int)){xs:List (List UInt8)}(hx:xs.length<=1000000)(hsx : ∀ x∈xs,x.length<=1000000):ZG ⟨n,YK m xs⟩=true:=by
 simp only[ZG,Yb,YK,List.length_map,Bool.and_eq_true,decide_eq_true_eq,List.all_eq_true,List.mem_map]
 refine⟨by omega,?_⟩
 rintro t ⟨x,hxm,rfl⟩
 exact hsx x hxm
theorem b8i{E:XK}(n:Int)(m:List (Str×Int))(xs:List (List UInt8))(hx:xs.length<=1000000)(hsx : ∀ x∈xs,x.length<=1000000): ∀ (j k:Nat),j+k=xs.length->0<k ->
  Bf XI E 2 (Zj 2 Xv fun r=>r=D7 n m (YK m xs)) Xw 0 58 [(0,.ptr 0 0),(2,.ptr 2 0),(4,.ptr 3 0),(33,.row 4 xs.length 0 xs.length),(34,.pv (.int .i64 xs.length)),(35,.pv (.int .i64 k))]
   [.obj (.box [.pv (.int .i64 n),.map 1]),.obj (.map (Zw m)),.obj (.box [.pv (.int .i64 0),.pv (.sl 0 true [])]),.obj (.box [.pv (.int .i64 n),.row 5 k 0 k]),.obj (.row false 9 1 (xs.map .str)),.obj (.row false 80 2 ((YK m (xs.take k)).map enc))]:=by
 intro j
 induction j with
 | zero=>
  intro k hk h0
  obtain rfl:k=xs.length:=by omega
  refine a1u E n m xs.length xs xs.length xs.length (YK m (xs.take xs.length)) ?_
  rw[if_neg (by simp)]
  have e1:YK m (xs.take xs.length)=YK m xs:=by rw[List.take_length]
  rw[e1]
  have e2:List.drop 0 (List.take xs.length (List.map (enc:Coef->PV) (YK m xs)))=(YK m xs).map enc:=by rw[List.drop_zero,List.take_of_length_le (by simp[YK])]
  rw[e2]
  refine⟨by simp[YK],Zo (⟨n,YK m xs⟩,()) rfl (c3s n m hx hsx),Zq (⟨n,YK m xs⟩,()) rfl ?_⟩
  have hne:(YK m xs).isEmpty=false:=by cases xs <;> simp[YK]at h0 ⊢
  by_cases hv:Zm ⟨n,YK m xs⟩=true
  ·rw[if_neg (by simp[hv])]
   unfold D7
   rw[if_pos hv,hne]
   simp[YK]
  ·rw[if_pos (by simpa using hv)]
   simp[D7,hv]
 | succ j ih=>
  intro k hk h0
  have hlt:k<xs.length:=by omega
  refine a1u E n m xs.length xs k k (YK m (xs.take k)) ?_
  rw[if_pos (by simp;omega)]
  have eg:List.getD (List.map PV.str xs) (0+Int.toNat (k:Int)) default = .str xs[k]:=by simp[List.getD,hlt]
  rw[eg]
  have ec:Sh.co Sh.str (List.getD (PV.cells (.str xs[k])) 0 default) = .str xs[k]:=rfl
  rw[ec,Qi]
  refine⟨by simp;omega,by simp;omega,rfl,by rw[Uq];rfl,?_,?_⟩
  ·simp[YK];omega
  ·have h:=ih (k+1) (by omega) (by omega)
   have et:xs.take (k+1)=xs.take k++[xs[k]]:=by rw[List.take_add_one,List.getElem?_eq_getElem hlt];rfl
   rw[et]at h
   rw[next (by omega)]
   simp only[YK,List.map_append,List.map_cons,List.map_nil]at h ⊢
   exact h
def c3y:MapParts:=⟨[⟨(some 15),(.mv (.t 0)),0,none⟩,⟨(some 16),(.nilchk (.t 15)),0,none⟩,⟨(some 17),(.faddr 1 (.t 16)),0,none⟩,⟨(some 18),(.load false [.any] (.t 17)),0,none⟩],.t 18,19,20,21,22,1,[⟨(some 23),(.extract (.t 22) 0),0,none⟩,⟨(some 24),(.extract (.t 22) 1),0,none⟩,⟨(some 6),(.mv (.t 23)),0,none⟩,⟨(some 7),(.mv (.t 24)),0,none⟩],UO⟩
def OO:XK:=fun nn st q=>nn=0∧d6z XI 2 c3y st q
def kz(vis:List (PV×PV)):List (List UInt8):=vis.filterMap fun p=>match p with|(.str s,.int _ c)=>if c=0 then none else some s|_=>none
def Jl(m:List (Str×Int)):List (List UInt8):=Wt (kz (Zw m))
def d5m(n:Int):ZQ:=[.obj (.box [.pv (.int .i64 n),.map 1]),.dead,.obj (.box [.pv (.int .i64 0),.pv (.sl 0 true [])]),.obj (.box [.pv (.int .i64 n),.pv (.sl 0 true [])]),.dead]
def FB(x:AV):List AV:=Vs 58 0 [(0,.ptr 0 0),(2,.ptr 2 0),(4,.ptr 3 0),(5,x),(18,.map 1),(19,.ptr 4 0)]
def d7z(n:Int)(vis:List (PV×PV))(s:St):Prop:=
 (kz vis=[]∧s=⟨FB (.pv (.sl 0 true [])),d5m n⟩)∨(kz vis≠[]∧s=⟨FB (.row 5 (kz vis).length 0 (kz vis).length),d5m n++[.obj (.row false 9 1 ((kz vis).map .str))]⟩)
theorem a5o{a b:List (List UInt8)}(h:a.Perm b):Wt a=Wt b:=by
 have tr : ∀ x y z:List UInt8,decide (x<=y)=true->decide (y<=z)=true->decide (x<=z)=true:=fun x y z h k=>by simp only[decide_eq_true_eq]at *;exact List.le_trans h k
 have to : ∀ x y:List UInt8,(decide (x<=y)||decide (y<=x))=true:=fun x y=>by simp only[Bool.or_eq_true,decide_eq_true_eq];exact List.le_total x y
 refine List.Perm.eq_of_pairwise (le:=fun x y=>decide (x<=y)=true) (fun x y _ _ h1 h2=> ?_) (List.pairwise_mergeSort tr to a) (List.pairwise_mergeSort tr to b) (((List.mergeSort_perm a _).trans h).trans (List.mergeSort_perm b _).symm)
 simp only[decide_eq_true_eq]at h1 h2
 exact List.le_antisymm h1 h2
theorem b1q(n:Int)(vis:List (PV×PV))(s:List UInt8)(c:Int)(st:St)(hl:(kz vis).length<1000000)(h:d7z n vis st):
  ∃ s2,KD XI st.heap.length c3y.psE (grow ⟨((st.env.set 20 .junk).set 21 .junk).set 22 (.pv (.tup [.str s,.int .i64 c])),st.heap⟩ (news c3y.psE))=some s2∧ ∃ F',(∀ x,¬ F' x) ∧
   Yu XI (fun n' S' _=>n'=99∧d7z n (vis++[(.str s,.int .i64 c)]) S') st.heap.length F' (.inl UO) [.blk 1,.seq (.ext 99 [0,2,4,5,18,19])] s2:=by
 have hno : ∀ k,∀ x,¬ Zj k Qn (fun _=>False) x:=by rintro k x ⟨r,_,h⟩;exact h
 have ek:kz (vis++[(.str s,.int .i64 c)])=kz vis++(if c=0 then []else [s]):=by
  unfold kz
  rw[List.filterMap_append]
  by_cases hc:c=0 <;> simp[hc]
 rcases h with ⟨h1,rfl⟩|⟨h1,rfl⟩
 ·refine⟨_,by kernel_rfl,_,hno 5,c2u (G:=fun _=>False) _ n s c ?_⟩
  by_cases hc:c=0
  ·rw[if_neg (by simp[hc])]
   refine⟨rfl,.inl ⟨by rw[ek,h1];simp[hc],rfl⟩⟩
  ·rw[if_pos (by simpa using hc)]
   refine⟨rfl,.inr ⟨by rw[ek,h1];simp[hc],?_⟩⟩
   rw[ek,h1]
   simp[hc]
   exact⟨rfl,rfl⟩
 ·refine⟨_,by kernel_rfl,_,hno 6,c2x (G:=fun _=>False) _ n s c (kz vis).length (kz vis) ?_⟩
  by_cases hc:c=0
  ·rw[if_neg (by simp[hc])]
   refine⟨rfl,.inr ⟨by rw[ek];simp[hc,h1],?_⟩⟩
   rw[ek]
   simp[hc]
   exact⟨rfl,rfl⟩
  ·rw[if_pos (by simpa using hc)]
   refine⟨by simp;omega,rfl,.inr ⟨by rw[ek];simp[hc],?_⟩⟩
   rw[ek]
   simp[hc]
   exact⟨rfl,rfl⟩
theorem b7g{E:XK}(n:Int)(m:List (Str×Int))(xs:List (List UInt8))(hx:xs.length<=1000000)(hsx : ∀ x∈xs,x.length<=1000000)(h0:0<xs.length):
  Bf XI E 2 (Zj 2 Xv fun r=>r=D7 n m (YK m xs)) Xw 0 58 [(0,.ptr 0 0),(2,.ptr 2 0),(4,.ptr 3 0),(33,.row 4 xs.length 0 xs.length),(34,.pv (.int .i64 xs.length)),(35,.pv (.int .i64 0))]
   [.obj (.box [.pv (.int .i64 n),.map 1]),.obj (.map (Zw m)),.obj (.box [.pv (.int .i64 0),.pv (.sl 0 true [])]),.obj (.box [.pv (.int .i64 n),.pv (.sl 0 true [])]),.obj (.row false 9 1 (xs.map .str))]:=by
 refine c0v E n m xs.length xs 0 ?_
 rw[if_pos (by simp;omega)]
 have eg:List.getD (List.map PV.str xs) (0+Int.toNat (0:Int)) default = .str xs[0]:=by simp[List.getD,h0]
 rw[eg]
 have ec:Sh.co Sh.str (List.getD (PV.cells (.str xs[0])) 0 default) = .str xs[0]:=rfl
 rw[ec,Qi]
 refine⟨by simp;omega,by simp;omega,rfl,by rw[Uq];rfl,?_⟩
 have h:=b8i (E:=E) n m xs hx hsx (xs.length - 1) 1 (by omega) (by omega)
 have et:xs.take 1=[xs[0]]:=by cases xs <;> simp at h0 ⊢
 rw[et]at h
 exact h
theorem c3u(n:Int)(m:List (Str×Int))(hm:m.length<1000000)(hkm : ∀ x∈Jl m,x.length<=1000000):
  KQ XI OO 2 (Zj 2 Xv fun r=>r=D7 n m (YK m (Jl m))) Xw [] (ZN 58 [.ptr 0 0] [.box [.pv (.int .i64 n),.map 1],.map (Zw m)]):=by
 refine d5u OO n m ?_
 have elen : ∀ x,(FB x).length=58:=fun x=>rfl
 refine⟨rfl,⟨((((Vs 58 0 [(0,.ptr 0 0),(2,.ptr 2 0),(4,.ptr 3 0),(5,.pv (.sl 0 true [])),(6,.undef),(7,.undef),(15,.undef),(16,.undef),(17,.undef),(18,.undef),(19,.undef),(20,.undef),(21,.undef),(22,.undef),(23,.undef),(24,.undef),(25,.undef),(26,.undef),(27,.undef),(28,.undef),(29,.undef),(30,.undef)]).set 15 (.ptr 0 0)).set 16 (.ptr 0 0)).set 17 (.ptr 0 1)).set 18 (.map 1),
   [.obj (.box [.pv (.int .i64 n),.map 1]),.obj (.map (Zw m)),.obj (.box [.pv (.int .i64 0),.pv (.sl 0 true [])]),.obj (.box [.pv (.int .i64 n),.pv (.sl 0 true [])])]⟩,⟨FB (.pv (.sl 0 true [])),d5m n⟩,1,4,18,1,Zw m,[0,2,4,5,18,19],[0,2,4,5,18,19],d7z n,by kernel_rfl,rfl,rfl,by kernel_rfl,rfl,by decide,rfl,.inl ⟨rfl,rfl⟩,?_,?_,?_⟩
 ·intro vis s h
  rcases h with ⟨_,rfl⟩|⟨_,rfl⟩
  ·exact⟨⟨rfl,by show 20<_;rw[elen];omega,by show 21<_;rw[elen];omega,by show 22<_;rw[elen];omega⟩,rfl⟩
  ·exact⟨⟨rfl,by show 20<_;rw[elen];omega,by show 21<_;rw[elen];omega,by show 22<_;rw[elen];omega⟩,rfl⟩
 ·intro vis kv s rest hp hI
  have hin:kv∈Zw m:=hp.mem_iff.2 (by simp)
  obtain⟨p,_,rfl⟩:=List.mem_map.1 hin
  have hl:=hp.length_eq
  simp[Zw]at hl
  have hk:(kz vis).length<=vis.length:=List.length_filterMap_le _ _
  exact b1q n vis p.1.s p.2 s (by omega) hI
 ·intro vis s hp hI
  have hpk:(kz vis).Perm (kz (Zw m)):=hp.filterMap _
  have hs:Wt (kz vis)=Jl m:=a5o hpk
  have hkl:(kz vis).length<=1000000:=by
   have h1:(kz vis).length<=vis.length:=List.length_filterMap_le _ _
   have h2:=hp.length_eq
   simp[Zw]at h2
   omega
  rcases hI with ⟨h1,rfl⟩|⟨h1,rfl⟩
  ·refine c3c OO n m ?_
   have hn:Jl m=[]:=by rw[<- hs,h1];simp[Wt]
   rw[hn]
   refine c4d OO n m 0 ?_
   rw[if_neg (by simp)]
   refine Kr (⟨n,[]⟩,()) (by simp) ?_
   by_cases hv:Zm ⟨n,[]⟩=true
   ·rw[if_neg (by simp[hv])]
    simp[D7,YK,hv]
   ·rw[if_pos (by simpa using hv)]
    simp[D7,YK,hv]
  ·refine c1u OO n m (kz vis).length (kz vis) ?_
   have e1:List.map KM (List.map PV.str (kz vis))=kz vis:=by rw[List.map_map];exact List.map_id _
   rw[e1,hs]
   have e2:(Jl m).length=(kz vis).length:=by rw[<- hs];exact(List.mergeSort_perm _ _).length_eq
   refine⟨?_,?_⟩
   ·simp[XJ,Br]
    omega
   ·have:=b7g (E:=OO) n m (Jl m) (by omega) hkm (by rw[e2];exact List.length_pos_iff.2 h1)
    rw[e2]at this
    simpa using this
def d5w(n:Int)(m:List (Str×Int)):AV×List AObj×List AObj:=(.tup [],[.box [.pv (.int .i64 n),.map 1],.map (Zw m)],[])
theorem b4d(n:Int)(l:Lin)(k:Int)(hl:l.t.length<=1000000): ∀ (j i:Nat) (m:List (Str×Int)),j+i=l.t.length ->
  At Ha 2 (Zj 2 Q3 fun r=>r=d5w n (WW k (l.t.drop i) m)) Q8 0 39 [(0,.ptr 0 0),(2,.pv (.int .i64 k)),(20,.pv (enc l.t)),(21,.pv (.int .i64 l.t.length)),(22,.pv (.int .i64 i))] [.obj (.box [.pv (.int .i64 n),.map 1]),.obj (.map (Zw m))]:=by
 intro j
 induction j with
 | zero=>
  intro i m hi
  refine a8j n m l k i ?_
  rw[if_neg (by simp;omega),List.drop_of_length_le (by omega)]
  rfl
 | succ j ih=>
  intro i m hi
  have hlt:i<l.t.length:=by omega
  refine a8j n m l k i ?_
  rw[if_pos (by simp;omega)]
  refine⟨by simp[Enc.sz];omega,l.t[i],by simp[List.getD,hlt],?_⟩
  have ec:Sh.co Sh.str (List.getD (PV.cells (enc l.t[i])) 0 default) = .str l.t[i].v.s:=rfl
  rw[ec,Qi]
  have ev:PV.asInt (List.getD (PV.cells (enc l.t[i])) (0+1) default)=l.t[i].c:=rfl
  have ea:PV.asInt (.int .i64 (KO m l.t[i].v.s))=KO m l.t[i].v.s:=rfl
  rw[ev,ea]
  have eu:=FI l.t[i].v (IntKind.i64.wrap (KO m l.t[i].v.s+IntKind.i64.wrap (k*l.t[i].c))) m
  refine⟨by rw[Uq];rfl,?_,?_⟩
  ·show(upd _ _ _).isSome=true
   exact(congrArg Option.isSome eu).trans rfl
  ·have h:=ih (i+1) (Qt l.t[i].v (IntKind.i64.wrap (KO m l.t[i].v.s+IntKind.i64.wrap (k*l.t[i].c))) m) (by omega)
   rw[next (by omega)]
   have ed:l.t.drop i=l.t[i]::l.t.drop (i+1):=List.drop_eq_getElem_cons hlt
   rw[ed]
   have e2:OJ (.str l.t[i].v.s) (.int .i64 (IntKind.i64.wrap (KO m l.t[i].v.s+IntKind.i64.wrap (k*l.t[i].c)))) (Zw m)=Zw (Qt l.t[i].v (IntKind.i64.wrap (KO m l.t[i].v.s+IntKind.i64.wrap (k*l.t[i].c))) m):=by
    unfold OJ
    rw[eu]
    rfl
   rw[<- e2]at h
   exact h
theorem c1y(n:Int)(m:List (Str×Int))(l:Lin)(k:Int)(hl:l.t.length<=1000000):
  Zf Ha 2 (Zj 2 Q3 fun r=>r=d5w (IntKind.i64.wrap (n+IntKind.i64.wrap (k*l.k))) (WW k l.t m)) Q8 [] (ZN 39 [.ptr 0 0,.pv (enc l),.pv (.int .i64 k)] [.box [.pv (.int .i64 n),.map 1],.map (Zw m)]):=by
 refine d7x n m l k ?_
 have h:=b4d (IntKind.i64.wrap (n+IntKind.i64.wrap (k*l.k))) l k hl l.t.length 0 m rfl
 rw[List.drop_zero]at h
 have e:List.length (List.map (enc:Coef->PV) l.t)=l.t.length:=by simp
 rw[e]
 exact h
end Go.Pl
namespace Go.Pl
open Go.RowKit
open Enc (enc dec is)
open EncL (encL decL isL)
set_option maxRecDepth 100000
noncomputable def YT:IC:=icx JN Proofs.Tryz.f53
def YR:List IRes:=[(.tmp 4),(.tmp 5),(.tmp 6)]
abbrev a8v:Nat:=87
def XA:ZI:=YN []
theorem d7c{G:AV×List AObj×List AObj->Prop}(E:XK)(fs:List Fact)(ms:List Int)(h:if ((↑(List.length (List.map enc ms)):Int) != (↑(List.length (List.map enc fs)):Int))=true then G (((.tup [(.pv (.int .i64 0)),(.pv .nilmap),(.pv (.bool false))]),([],[])))else(Bf XA E 0 (Zj 0 YR G) YT 0 87 [(1,(.pv (.sl 1 false (List.map enc ms)))),(7,(.pv (.int .i64 0))),(8,(.map 0)),(14,.undef),(15,.undef),(22,(.pv (.sl 3 false (List.map enc fs)))),(23,(.pv (.int .i64 (↑(List.length (List.map enc fs)):Int)))),(24,(.pv (.int .i64 0))),(74,.undef),(75,.undef),(76,.undef),(77,.undef),(78,.undef),(79,.undef),(80,.undef),(81,.undef),(82,.undef),(83,.undef),(84,.undef)] [(.obj (.map []))])):Yu XA E 0 (Zj 0 YR G) (.inl YT) [] (ZN 87 [.pv (enc fs),.pv (enc ms)] []):=Yu.mo (.lit (.ask (.nil) (.nil))) h (by kernel_rfl)
theorem a9q{G:AV×List AObj×List AObj->Prop}(E:XK)(fs:List Fact)(ms:List Int)(n:Int)(M:List (Str×Int))(i:Int)(h:if (decide (i<(↑(List.length fs):Int)))=true then(decide (0<=i)&&decide (Int.toNat i<List.length (List.map enc fs))&&Enc.sz Fact==3)=true∧(∃ y0:Fact,AV.pv (PV.rptr (PV.cells (List.getD (List.map enc fs) (Int.toNat i) default)))=AV.pv (PV.rptr (PV.cells ((enc) y0)))∧((decide (0<=i)&&decide (Int.toNat i<List.length (List.map enc ms))&&Enc.sz Int==1)=true∧(∃ y1:Int,AV.pv (PV.rptr (PV.cells (List.getD (List.map enc ms) (Int.toNat i) default)))=AV.pv (PV.rptr (PV.cells ((enc) y1)))∧(if (decide (PV.asInt (List.getD (PV.cells (enc y1)) 0 default)<(-1000000000:Int)))=true then G (((.tup [(.pv (.int .i64 0)),(.pv .nilmap),(.pv (.bool false))]),([],[])))else(if (decide (PV.asInt (List.getD (PV.cells (enc y1)) 0 default)>1000000000))=true then G (((.tup [(.pv (.int .i64 0)),(.pv .nilmap),(.pv (.bool false))]),([],[])))else(if (decide (PV.asInt (List.getD (PV.cells (enc y1)) 0 default)<0))=true then if (!PV.asBool (List.getD (PV.cells (enc y0)) 0 default))=true then G (((.tup [(.pv (.int .i64 0)),(.pv .nilmap),(.pv (.bool false))]),([],[])))else(Bf XA E 0 (Zj 0 YR G) YT 1 87 [(1,(.pv (.sl 1 false (List.map enc ms)))),(7,(.pv (.int .i64 (IntKind.wrap IntKind.i64 (n+IntKind.wrap IntKind.i64 (PV.asInt (List.getD (PV.cells (enc y1)) 0 default)*PV.asInt (List.getD (PV.cells (enc y0)) (0+1) default))))))),(8,(.map 0)),(11,(.pv (.int .i64 (PV.asInt (List.getD (PV.cells (enc y1)) 0 default))))),(14,.undef),(15,.undef),(22,(.pv (.sl 3 false (List.map enc fs)))),(23,(.pv (.int .i64 (↑(List.length fs):Int)))),(24,(.pv (.int .i64 i))),(57,(.pv (.sl 2 false (PV.asXs (List.getD (PV.cells (enc y0)) (0+1+1) default))))),(58,(.pv (.int .i64 (↑(List.length (PV.asXs (List.getD (PV.cells (enc y0)) (0+1+1) default))):Int)))),(59,(.pv (.int .i64 0))),(74,.undef),(75,.undef),(76,.undef),(77,.undef),(78,.undef),(79,.undef),(80,.undef),(81,.undef),(82,.undef),(83,.undef),(84,.undef)] [(.obj (.map (Zw M)))])else(Bf XA E 0 (Zj 0 YR G) YT 1 87 [(1,(.pv (.sl 1 false (List.map enc ms)))),(7,(.pv (.int .i64 (IntKind.wrap IntKind.i64 (n+IntKind.wrap IntKind.i64 (PV.asInt (List.getD (PV.cells (enc y1)) 0 default)*PV.asInt (List.getD (PV.cells (enc y0)) (0+1) default))))))),(8,(.map 0)),(11,(.pv (.int .i64 (PV.asInt (List.getD (PV.cells (enc y1)) 0 default))))),(14,.undef),(15,.undef),(22,(.pv (.sl 3 false (List.map enc fs)))),(23,(.pv (.int .i64 (↑(List.length fs):Int)))),(24,(.pv (.int .i64 i))),(57,(.pv (.sl 2 false (PV.asXs (List.getD (PV.cells (enc y0)) (0+1+1) default))))),(58,(.pv (.int .i64 (↑(List.length (PV.asXs (List.getD (PV.cells (enc y0)) (0+1+1) default))):Int)))),(59,(.pv (.int .i64 0))),(74,.undef),(75,.undef),(76,.undef),(77,.undef),(78,.undef),(79,.undef),(80,.undef),(81,.undef),(82,.undef),(83,.undef),(84,.undef)] [(.obj (.map (Zw M)))])))))))else(E 0 ⟨Vs 87 0 [(7,(.pv (.int .i64 n))),(8,(.map 0)),(14,.undef),(15,.undef),(74,.undef),(75,.undef),(76,.undef),(77,.undef),(78,.undef),(79,.undef),(80,.undef),(81,.undef),(82,.undef),(83,.undef),(84,.undef)],[(.obj (.map (Zw M)))]⟩ (fun x S'=>AfX XA E 0 (Zj 0 YR G) YT 0 x S'))):Bf XA E 0 (Zj 0 YR G) YT 0 87 [(1,.pv (enc ms)),(7,.pv (.int .i64 n)),(8,.map 0),(14,.undef),(15,.undef),(22,.pv (enc fs)),(23,.pv (.int .i64 fs.length)),(24,.pv (.int .i64 i)),(74,.undef),(75,.undef),(76,.undef),(77,.undef),(78,.undef),(79,.undef),(80,.undef),(81,.undef),(82,.undef),(83,.undef),(84,.undef)] [.obj (.map (Zw M))]:=Yu.mo (.lit (.ask (.req (.abs (Fact) (fun YY=>AV.pv (PV.rptr (PV.cells ((enc) YY)))) (.lit (.req (.abs (Int) (fun YY=>AV.pv (PV.rptr (PV.cells ((enc) YY)))) (.lit (.lit (.ask (.lit (.lit (.lit (.lit (.lit (.lit (.lit (.lit (.nil))))))))) (.lit (.lit (.lit (.ask (.lit (.lit (.lit (.lit (.lit (.nil)))))) (.lit (.lit (.lit (.ask (.lit (.lit (.lit (.lit (.lit (.ask (.nil) (.lit (.lit (.nil))))))))) (.lit (.lit (.lit (.lit (.lit (.lit (.lit (.lit (.nil))))))))))))))))))))))))) (.nil))) h (by kernel_rfl)
theorem a8s{G:AV×List AObj×List AObj->Prop}(E:XK)(fs:List Fact)(ms:List Int)(n m:Int)(M:List (Str×Int))(ts:List Coef)(i j:Int)(h:if (decide (j<(↑(List.length ts):Int)))=true then(decide (0<=j)&&decide (Int.toNat j<List.length (List.map enc ts))&&Enc.sz Coef==2)=true∧(∃ y0:Coef,AV.pv (PV.rptr (PV.cells (List.getD (List.map enc ts) (Int.toNat j) default)))=AV.pv (PV.rptr (PV.cells ((enc) y0)))∧((Ki (Sh.co Sh.str (List.getD (PV.cells (enc y0)) 0 default)) (Zw M)&&Sh.fit (Sh.int .i64) (YL (Sh.co Sh.str (List.getD (PV.cells (enc y0)) 0 default)) (PV.int .i64 0) (Zw M)))=true∧((b8j (Sh.co Sh.str (List.getD (PV.cells (enc y0)) 0 default)) (PV.int .i64 (IntKind.wrap IntKind.i64 (PV.asInt (YL (Sh.co Sh.str (List.getD (PV.cells (enc y0)) 0 default)) (PV.int .i64 0) (Zw M))+IntKind.wrap IntKind.i64 (m*PV.asInt (List.getD (PV.cells (enc y0)) (0+1) default))))) (Zw M))=true∧(Bf XA E 0 (Zj 0 YR G) YT 1 87 [(1,(.pv (.sl 1 false (List.map enc ms)))),(7,(.pv (.int .i64 n))),(8,(.map 0)),(11,(.pv (.int .i64 m))),(14,.undef),(15,.undef),(22,(.pv (.sl 3 false (List.map enc fs)))),(23,(.pv (.int .i64 (↑(List.length fs):Int)))),(24,(.pv (.int .i64 i))),(57,(.pv (.sl 2 false (List.map enc ts)))),(58,(.pv (.int .i64 (↑(List.length ts):Int)))),(59,(.pv (.int .i64 (IntKind.wrap IntKind.i64 (j+1))))),(74,.undef),(75,.undef),(76,.undef),(77,.undef),(78,.undef),(79,.undef),(80,.undef),(81,.undef),(82,.undef),(83,.undef),(84,.undef)] [(.obj (.map (OJ (Sh.co Sh.str (List.getD (PV.cells (enc y0)) 0 default)) (PV.int .i64 (IntKind.wrap IntKind.i64 (PV.asInt (YL (Sh.co Sh.str (List.getD (PV.cells (enc y0)) 0 default)) (PV.int .i64 0) (Zw M))+IntKind.wrap IntKind.i64 (m*PV.asInt (List.getD (PV.cells (enc y0)) (0+1) default))))) (Zw M))))]))))else(Bf XA E 0 (Zj 0 YR G) YT 0 87 [(1,(.pv (.sl 1 false (List.map enc ms)))),(7,(.pv (.int .i64 n))),(8,(.map 0)),(14,.undef),(15,.undef),(22,(.pv (.sl 3 false (List.map enc fs)))),(23,(.pv (.int .i64 (↑(List.length fs):Int)))),(24,(.pv (.int .i64 (IntKind.wrap IntKind.i64 (i+1))))),(74,.undef),(75,.undef),(76,.undef),(77,.undef),(78,.undef),(79,.undef),(80,.undef),(81,.undef),(82,.undef),(83,.undef),(84,.undef)] [(.obj (.map (Zw M)))])):Bf XA E 0 (Zj 0 YR G) YT 1 87 [(1,.pv (enc ms)),(7,.pv (.int .i64 n)),(8,.map 0),(11,.pv (.int .i64 m)),(14,.undef),(15,.undef),(22,.pv (enc fs)),(23,.pv (.int .i64 fs.length)),(24,.pv (.int .i64 i)),(57,.pv (enc ts)),(58,.pv (.int .i64 ts.length)),(59,.pv (.int .i64 j)),(74,.undef),(75,.undef),(76,.undef),(77,.undef),(78,.undef),(79,.undef),(80,.undef),(81,.undef),(82,.undef),(83,.undef),(84,.undef)] [.obj (.map (Zw M))]:=Yu.mo (.lit (.ask (.req (.abs (Coef) (fun YY=>AV.pv (PV.rptr (PV.cells ((enc) YY)))) (.lit (.req (.keep (.lit (.lit (.req (.lit (.nil)))))))))) (.lit (.nil)))) h (by kernel_rfl)
theorem d0e{G:AV×List AObj×List AObj->Prop}(E:XK)(fs:List Fact)(ms:List Int)(n:Int)(M:List (Str×Int))(h:G (((.tup [(.pv (.int .i64 n)),(.map 0),(.pv (.bool true))]),([],[(.map (Zw M))])))):AfX XA E 0 (Zj 0 YR G) YT 0 .normal ⟨Vs 87 0 [(7,.pv (.int .i64 n)),(8,.map 0)],[.obj (.map (Zw M))]⟩:=Yu.mo (.nil) h (by kernel_rfl)
end Go.Pl
namespace Go.Pl
open Go.RowKit
open Enc (enc dec is)
open EncL (encL decL isL)
def Hl(s:Int×List (Str×Int))(l:List (Int×Fact)):AV×List AObj×List AObj:=if l.all okQ then a9p (l.foldl Pi s)else KV
def U6:XK:=fun nn st q=>nn=0∧d9h ⟨8,74,14,15⟩ st q
abbrev u87:List (Nat×AV):=[(74,.undef),(75,.undef),(76,.undef),(77,.undef),(78,.undef),(79,.undef),(80,.undef),(81,.undef),(82,.undef),(83,.undef),(84,.undef)]
theorem d1s(fs:List Fact)(ms:List Int)(i:Nat)(n m:Int)(ts:List Coef)(H:AV×List AObj×List AObj->Prop)(hts:ts.length<=9223372036854775807)(hi:i<9223372036854775807): ∀ (k j:Nat) (M:List (Str×Int)),k+j=ts.length ->
  Bf XA U6 0 (Zj 0 YR H) YT 0 87 ([(1,.pv (enc ms)),(7,.pv (.int .i64 n)),(8,.map 0),(14,.undef),(15,.undef),(22,.pv (enc fs)),(23,.pv (.int .i64 fs.length)),(24,.pv (.int .i64 ((i+1:Nat):Int)))]++u87) [.obj (.map (Zw (WW m (ts.drop j) M)))] ->
  Bf XA U6 0 (Zj 0 YR H) YT 1 87 ([(1,.pv (enc ms)),(7,.pv (.int .i64 n)),(8,.map 0),(11,.pv (.int .i64 m)),(14,.undef),(15,.undef),(22,.pv (enc fs)),(23,.pv (.int .i64 fs.length)),(24,.pv (.int .i64 i)),(57,.pv (enc ts)),(58,.pv (.int .i64 ts.length)),(59,.pv (.int .i64 j))]++u87) [.obj (.map (Zw M))]:=by
 intro k
 induction k with
 | zero=>
  intro j M hj h
  refine a8s U6 fs ms n m M ts i j (Zv (UX (by omega)) ?_)
  rw[List.drop_of_length_le (show ts.length<=j by omega)]at h
  rw[next hi]
  exact h
 | succ k ih=>
  intro j M hj h
  have hlt:j<ts.length:=by omega
  refine a8s U6 fs ms n m M ts i j (Zu (U4 hlt) ⟨YU hlt rfl,WB hlt ?_⟩)
  rw[List.drop_eq_getElem_cons hlt,WW]at h
  have ec:Sh.co Sh.str (List.getD (PV.cells (enc ts[j])) 0 default) = .str ts[j].v.s:=rfl
  rw[ec,Qi]
  have ev:PV.asInt (List.getD (PV.cells (enc ts[j])) (0+1) default)=ts[j].c:=rfl
  have ea:PV.asInt (.int .i64 (KO M ts[j].v.s))=KO M ts[j].v.s:=rfl
  rw[ev,ea]
  have eu:=FI ts[j].v (IntKind.i64.wrap (KO M ts[j].v.s+IntKind.i64.wrap (m*ts[j].c))) M
  refine⟨by rw[Uq];rfl,(congrArg Option.isSome eu).trans rfl,?_⟩
  have e2:OJ (.str ts[j].v.s) (.int .i64 (IntKind.i64.wrap (KO M ts[j].v.s+IntKind.i64.wrap (m*ts[j].c)))) (Zw M)=Zw (Qt ts[j].v (IntKind.i64.wrap (KO M ts[j].v.s+IntKind.i64.wrap (m*ts[j].c))) M):=by
   unfold OJ
   rw[eu]
   rfl
  rw[e2,next (by omega)]
  exact ih (j+1) _ (by omega) h
theorem b7j(n:Int):(DelParts.sc ⟨8,74,14,15⟩).foldl (fun(e:List AV) i=>e.set i .junk) (Vs 87 0 ([(7,.pv (.int .i64 n)),(8,.map 0),(14,.undef),(15,.undef)]++u87))=Vs 87 0 [(7,.pv (.int .i64 n)),(8,.map 0)]:=by kernel_rfl
theorem c7o(n:Int):decide (85<=(Vs 87 0 ([(7,.pv (.int .i64 n)),(8,.map 0),(14,.undef),(15,.undef)]++u87)).length)=true:=by kernel_rfl
theorem b0x(n:Int):(Vs 87 0 ([(7,.pv (.int .i64 n)),(8,.map 0),(14,.undef),(15,.undef)]++u87))[8]? = some (.map 0):=by kernel_rfl
theorem b1u(fs:List Fact)(ms:List Int)(hn:ms.length=fs.length)(hl:fs.length<=9223372036854775807)(hk:fs.all (fun f=>Yb f.l)=true): ∀ (k i:Nat) (n:Int) (M:List (Str×Int)),k+i=fs.length->(Yx M).Nodup ->
  Bf XA U6 0 (Zj 0 YR fun r=>r=Hl (n,M) ((ms.zip fs).drop i)) YT 0 87 ([(1,.pv (enc ms)),(7,.pv (.int .i64 n)),(8,.map 0),(14,.undef),(15,.undef),(22,.pv (enc fs)),(23,.pv (.int .i64 fs.length)),(24,.pv (.int .i64 i))]++u87) [.obj (.map (Zw M))]:=by
 intro k
 induction k with
 | zero=>
  intro i n M hi hM
  refine a9q U6 fs ms n M i (Zv (UX (by omega)) ⟨rfl,0,Zw M,b0x n,of_decide_eq_true (c7o n),rfl,?_,b6p hM,?_⟩)
  ·intro kv hkv
   obtain⟨p,_,rfl⟩:=List.mem_map.1 hkv
   exact⟨_,_,rfl⟩
  ·have e:(ms.zip fs).drop i=[]:=List.drop_of_length_le (by simp;omega)
   rw[e,d2v]
   have h:=d0e (G:=fun r=>r=Hl (n,M) []) U6 fs ms n (Sl M) rfl
   rw[<- b7j n]at h
   exact h
 | succ k ih=>
  intro i n M hi hM
  have hlt:i<fs.length:=by omega
  have hlm:i<ms.length:=by omega
  have hz:(ms.zip fs).drop i=(ms[i],fs[i])::(ms.zip fs).drop (i+1):=by
   rw[List.drop_eq_getElem_cons (by simp;omega)]
   simp
  have hok:Yb fs[i].l=true:=by rw[List.all_eq_true]at hk;exact hk _ (List.getElem_mem hlt)
  have hsub:Yb fs[i].l=true:=hok
  have hlen:fs[i].l.t.length<=9223372036854775807:=by simpa [Yb]using hsub
  refine a9q U6 fs ms n M i (Zu (U4 hlt) ⟨YU hlt rfl,WB hlt ⟨YU hlm rfl,WB hlm ?_⟩⟩)
  rw[hz]
  have hgo:okQ (ms[i],fs[i])=true->Bf XA U6 0 (Zj 0 YR fun r=>r=Hl (n,M) ((ms[i],fs[i])::(ms.zip fs).drop (i+1))) YT 1 87 ([(1,.pv (enc ms)),(7,.pv (.int .i64 (V9 (n+V9 (ms[i]*fs[i].l.k))))),(8,.map 0),(11,.pv (.int .i64 ms[i])),(14,.undef),(15,.undef),(22,.pv (enc fs)),(23,.pv (.int .i64 fs.length)),(24,.pv (.int .i64 i)),(57,.pv (enc fs[i].l.t)),(58,.pv (.int .i64 fs[i].l.t.length)),(59,.pv (.int .i64 ((0:Nat):Int)))]++u87) [.obj (.map (Zw M))]:=by
   intro hq
   have e:Hl (n,M) ((ms[i],fs[i])::(ms.zip fs).drop (i+1))=Hl (Pi (n,M) (ms[i],fs[i])) ((ms.zip fs).drop (i+1)):=by
    simp only[Hl,List.all_cons,hq,Bool.true_and,List.foldl_cons]
   rw[e]
   exact d1s fs ms i _ ms[i] fs[i].l.t _ hlen (by omega) fs[i].l.t.length 0 M (by omega) (ih (i+1) _ _ (by omega) (Rp _ _ _ hM))
  have hno:okQ (ms[i],fs[i])=false->KV=Hl (n,M) ((ms[i],fs[i])::(ms.zip fs).drop (i+1)):=by
   intro hq
   simp only[Hl,List.all_cons,hq,Bool.false_and]
   rfl
  have et:List.length (List.map (enc:Coef->PV) fs[i].l.t)=fs[i].l.t.length:=by simp
  refine Qz (fun h1=>hno ?_) fun h1=>Qz (fun h2=>hno ?_) fun h2=>Qz (fun h3=>WV (fun h4=>hno ?_) fun h4=> ?_) fun h3=> ?_
  ·have h1:ms[i] < -1000000000:=h1
   simp[okQ,h1]
  ·have h2:ms[i]>1000000000:=h2
   simp[okQ,h2]
  ·have h3:ms[i]<0:=h3
   have h4:fs[i].eq=false:=h4
   simp[okQ,h3,h4]
  ·have h1 : ¬ ms[i] < -1000000000:=h1
   have h2 : ¬ ms[i]>1000000000:=h2
   have h4:fs[i].eq=true:=h4
   have:=hgo (by simp only[okQ,decide_eq_false h1,decide_eq_false h2,h4,Bool.or_true];rfl)
   rw[<- et]at this
   exact this
  ·have h1 : ¬ ms[i] < -1000000000:=h1
   have h2 : ¬ ms[i]>1000000000:=h2
   have h3 : ¬ ms[i]<0:=h3
   have:=hgo (by simp only[okQ,decide_eq_false h1,decide_eq_false h2,decide_eq_false h3];rfl)
   rw[<- et]at this
   exact this
def AX(fs:List Fact)(ms:List Int):AV×List AObj×List AObj:=if ms.length=fs.length then Hl (0,[]) (ms.zip fs)else KV
theorem a0j(fs:List Fact)(ms:List Int)(hl:fs.length<=9223372036854775807)(hk:fs.all (fun f=>Yb f.l)=true):KQ XA U6 0 (Zj 0 YR fun r=>r=AX fs ms) YT [] (ZN 87 [.pv (enc fs),.pv (enc ms)] []):=by
 refine d7c U6 fs ms ?_
 simp only[List.length_map]
 by_cases h:ms.length=fs.length
 ·refine Zv (by simp[h]) ?_
  have e:AX fs ms=Hl (0,[]) ((ms.zip fs).drop 0):=by simp[AX,h]
  rw[e]
  exact b1u fs ms h hl hk fs.length 0 0 [] (by omega) (by simp[Yx])
 ·refine Zu (by simp;omega) ?_
  simp[AX,h,KV]
end Go.Pl
namespace Go.Pl
open Go.RowKit
open Enc (enc dec is)
open EncL (encL decL isL)
set_option maxRecDepth 100000
noncomputable def SH:IC:=icx JN Proofs.Tryz.f24
def LV:List IRes:=[(.cell true 2 4),(.tmp 5)]
def LB:ZI:=YN [(28,.pure (preT (fun x:List Fact×Unit=>Zt x.1)) (Zk (fun x:List Fact×Unit=>ZT x.1))),(53,.own WK Qj)]
theorem d7w{G:PV->Prop}(E:XK)(fs:List Fact)(ms:List Int)(h:(Go.Pl.preT (fun(x:List Fact×Unit)=>Zt x.1) [(.sl 3 false (List.map enc fs))])=true∧(∃ y0:Bool,AV.pv (Zk (fun(x:List Fact×Unit)=>ZT x.1) [(.sl 3 false (List.map enc fs))])=AV.pv (enc y0)∧(if (!y0)=true then G ((.tup [(.agg [(.int .i64 0),(.sl 0 true [])]),(.int .i64 1)]))else((WK [(.pv (.sl 3 false (List.map enc fs))),(.pv (.sl 1 false (List.map enc ms)))] [])=true∧(G ((.tup [(.agg [(.int .i64 0),(.sl 0 true [])]),(.int .i64 18)]))))))):Yu LB E 0 (Ze LV G) (.inl SH) [] (Yp 93 [enc fs,enc ms]):=Yu.mp (.req (.abs (Bool) (fun YY=>AV.pv (enc YY)) (.ask (.nil) (.req (.keep (.lit (.lit (.lit (.lit (.lit (.nil))))))))))) h (by kernel_rfl)
def Ky:IC:=(.reg [Yt 44 (Vi 9) 0,Yt 45 (Vi 11) 0,Yt 46 (.bslice 9 1 1 (.str []) [(0,(.t 45))]) 0,Yt 47 (.append 9 1 16 (.t 44) (.t 46)) 1,Yt 48 (Vi 10) 2,Yt 49 (Vi 12) 2,Yt 50 (.bslice 3 1 1 (.int .i64 0) [(0,(.t 49))]) 2,Yt 51 (.append 3 1 8 (.t 48) (.t 50)) 3,Yt 9 (Vi 47) 4,Yt 10 (Vi 51) 4] none)
def Hd:List IRes:=[]
def D6:ZI:=YN [(28,.pure (preT (fun x:List Fact×Unit=>Zt x.1)) (Zk (fun x:List Fact×Unit=>ZT x.1))),(53,.own Wj Uu),(54,.pure (preT (fun x:List Int×Unit=>decide (x.1.length<=10000)&&x.1.all V8)) (Zk (fun x:List Int×Unit=>Gu x.1))),(55,.pure (preT (fun _:Int×Int×Unit=>true)) (Zk (fun x:Int×Int×Unit=>CP x.1 x.2.1))),(56,.own XJ VF),(41,.pure (preT (fun x:Lin×Unit=>ZG x.1)) (Zk (fun x:Lin×Unit=>Zm x.1)))]
theorem c1l{G:AV×List AObj×List AObj->Prop}(E:XK)(n:Int)(s:List UInt8)(c:Int)(h:E 99 ⟨Vs 93 0 [(4,(.ptr 0 0)),(6,(.pv (.int .i64 n))),(7,(.map 1)),(9,(.row 3 1 0 1)),(10,(.row 4 1 0 1)),(37,(.map 1)),(38,(.ptr 2 0))],[(.obj (.box [(.pv (.int .i64 0)),(.pv (.sl 0 true []))])),.dead,.dead,(.obj (.row false 9 1 [(.str s)])),(.obj (.row false 3 1 [(.int .i64 c)]))]⟩ (fun x S'=>AfX D6 E 3 (Zj 3 Hd G) Ky 99 x S')):Yu D6 E 3 (Zj 3 Hd G) (.inl Ky) [.blk 1,.seq (.ext 99 [4,6,7,9,10,37,38])] ⟨Vs 93 0 [(4,.ptr 0 0),(6,.pv (.int .i64 n)),(7,.map 1),(9,.pv (.sl 0 true [])),(10,.pv (.sl 0 true [])),(11,.pv (.str s)),(12,.pv (.int .i64 c)),(37,.map 1),(38,.ptr 2 0),(41,.pv (.tup [.str s,.int .i64 c])),(42,.pv (.str s)),(43,.pv (.int .i64 c))],[.obj (.box [.pv (.int .i64 0),.pv (.sl 0 true [])]),.dead,.dead]⟩:=Yu.mo (.lit (.lit (.lit (.lit (.lit (.lit (.lit (.lit (.lit (.lit (.nil))))))))))) h (by kernel_rfl)
theorem c4k{G:AV×List AObj×List AObj->Prop}(E:XK)(n:Int)(s:List UInt8)(c:Int)(l:Nat)(xs:List (List UInt8))(ys:List Int)(h:(List.length (List.map PV.str xs)==l&&l==l&&decide ((l+List.length (List.drop 0 (List.take 1 [PV.str s])))*16<=1099511627776)&&decide (l+List.length (List.drop 0 (List.take 1 [PV.str s]))<=1099511627776))=true∧((List.length (List.map enc ys)==l&&l==l&&decide ((l+List.length (List.drop 0 (List.take 1 [PV.int .i64 c])))*8<=1099511627776)&&decide (l+List.length (List.drop 0 (List.take 1 [PV.int .i64 c]))<=1099511627776))=true∧(E 99 ⟨Vs 93 0 [(4,(.ptr 0 0)),(6,(.pv (.int .i64 n))),(7,(.map 1)),(9,(.row 3 (l+List.length (List.drop 0 (List.take 1 [PV.str s]))) 0 (l+List.length (List.drop 0 (List.take 1 [PV.str s]))))),(10,(.row 4 (l+List.length (List.drop 0 (List.take 1 [PV.int .i64 c]))) 0 (l+List.length (List.drop 0 (List.take 1 [PV.int .i64 c]))))),(37,(.map 1)),(38,(.ptr 2 0))],[(.obj (.box [(.pv (.int .i64 0)),(.pv (.sl 0 true []))])),.dead,.dead,(.obj (.row false 9 1 (List.map PV.str xs++List.drop 0 (List.take 1 [PV.str s])))),(.obj (.row false 3 1 (List.map enc ys++List.drop 0 (List.take 1 [PV.int .i64 c]))))]⟩ (fun x S'=>AfX D6 E 5 (Zj 5 Hd G) Ky 99 x S')))):Yu D6 E 5 (Zj 5 Hd G) (.inl Ky) [.blk 1,.seq (.ext 99 [4,6,7,9,10,37,38])] ⟨Vs 93 0 [(4,.ptr 0 0),(6,.pv (.int .i64 n)),(7,.map 1),(9,.row 3 l 0 l),(10,.row 4 l 0 l),(11,.pv (.str s)),(12,.pv (.int .i64 c)),(37,.map 1),(38,.ptr 2 0),(41,.pv (.tup [.str s,.int .i64 c])),(42,.pv (.str s)),(43,.pv (.int .i64 c))],[.obj (.box [.pv (.int .i64 0),.pv (.sl 0 true [])]),.dead,.dead,.obj (.row false 9 1 (xs.map .str)),.obj (.row false 3 1 (ys.map enc))]⟩:=Yu.mo (.lit (.lit (.req (.lit (.lit (.req (.nil))))))) h (by kernel_rfl)
noncomputable def WI:IC:=SH
def Vk:List IRes:=[(.cell true 2 4),(.tmp 5)]
def Wq:ZI:=YN [(28,.pure (preT (fun x:List Fact×Unit=>Zt x.1)) (Zk (fun x:List Fact×Unit=>ZT x.1))),(53,.own Wj Uu),(54,.pure (preT (fun x:List Int×Unit=>decide (x.1.length<=10000)&&x.1.all V8)) (Zk (fun x:List Int×Unit=>Gu x.1))),(55,.pure (preT (fun _:Int×Int×Unit=>true)) (Zk (fun x:Int×Int×Unit=>CP x.1 x.2.1))),(56,.own XJ VF),(41,.pure (preT (fun x:Lin×Unit=>ZG x.1)) (Zk (fun x:Lin×Unit=>Zm x.1)))]
theorem d8t{G:PV->Prop}(E:XK)(fs:List Fact)(ms:List Int)(h:(Go.Pl.preT (fun(x:List Fact×Unit)=>Zt x.1) [(.sl 3 false (List.map enc fs))])=true∧(∃ y0:Bool,AV.pv (Zk (fun(x:List Fact×Unit)=>ZT x.1) [(.sl 3 false (List.map enc fs))])=AV.pv (enc y0)∧(if (!y0)=true then G ((.tup [(.agg [(.int .i64 0),(.sl 0 true [])]),(.int .i64 1)]))else((Wj [(.pv (.sl 3 false (List.map enc fs))),(.pv (.sl 1 false (List.map enc ms)))] [])=true∧(if ((↑(List.length (Zw (Sl (Prod.snd (KX (enc fs) (enc ms)))))):Int)==0)=true then G ((.tup [(.agg [(.int .i64 0),(.sl 0 true [])]),(.int .i64 18)]))else(E 0 ⟨Vs 93 0 [(4,(.ptr 0 0)),(6,(.pv (.int .i64 (Prod.fst (KX (enc fs) (enc ms)))))),(7,(.map 1)),(9,(.pv (.sl 0 true []))),(10,(.pv (.sl 0 true []))),(11,.undef),(12,.undef),(37,.undef),(38,.undef),(39,.undef),(40,.undef),(41,.undef),(42,.undef),(43,.undef),(44,.undef),(45,.undef),(46,.undef),(47,.undef),(48,.undef),(49,.undef),(50,.undef),(51,.undef)],[(.obj (.box [(.pv (.int .i64 0)),(.pv (.sl 0 true []))])),(.obj (.map (Zw (Sl (Prod.snd (KX (enc fs) (enc ms)))))))]⟩ (fun x S'=>AfX Wq E 0 (Ze Vk G) WI 0 x S'))))))):Yu Wq E 0 (Ze Vk G) (.inl WI) [] (Yp 93 [enc fs,enc ms]):=Yu.mp (.req (.abs (Bool) (fun YY=>AV.pv (enc YY)) (.ask (.nil) (.req (.keep (.lit (.lit (.lit (.lit (.lit (.ask (.nil) (.nil)))))))))))) h (by kernel_rfl)
theorem c4y{G:PV->Prop}(E:XK)(fs:List Fact)(ms:List Int)(g k:Int)(m:List (Str×Int))(l:Nat)(xs:List (List UInt8))(i:Int)(h:if (decide (i<(↑l:Int)))=true then(decide (0<=i)&&decide (0+Int.toNat i<l)&&List.length (List.map PV.str xs)==l)=true∧((List.length (List.map PV.str xs)==l&&decide (0+Int.toNat i<List.length (List.map PV.str xs)))=true∧((decide (0+List.length [Sh.str]<=List.length (PV.cells (List.getD (List.map PV.str xs) (0+Int.toNat i) default)))&&Xu (PV.cells (List.getD (List.map PV.str xs) (0+Int.toNat i) default)) 0 [Sh.str])=true∧((Ki (Sh.co Sh.str (List.getD (PV.cells (List.getD (List.map PV.str xs) (0+Int.toNat i) default)) 0 default)) (Zw m)&&Sh.fit (Sh.int .i64) (YL (Sh.co Sh.str (List.getD (PV.cells (List.getD (List.map PV.str xs) (0+Int.toNat i) default)) 0 default)) (PV.int .i64 0) (Zw m)))=true∧((g != 0)=true∧(Bf Wq E 0 (Ze Vk G) WI 0 93 [(4,(.ptr 0 0)),(7,(.map 1)),(13,(.pv (.int .i64 g))),(15,(.ptr 2 0)),(69,(.row 3 l 0 l)),(70,(.pv (.int .i64 (↑l:Int)))),(71,(.pv (.int .i64 (IntKind.wrap IntKind.i64 (i+1)))))] [(.obj (.box [(.pv (.int .i64 0)),(.pv (.sl 0 true []))])),(.obj (.map (Zw m))),(.obj (.box [(.pv (.int .i64 k)),(.row 4 1 0 1)])),(.obj (.row false 9 1 (List.map PV.str xs))),(.obj (.row false 80 2 [(.agg [(.str (PV.asStr (List.getD (PV.cells (List.getD (List.map PV.str xs) (0+Int.toNat i) default)) 0 default))),(.int .i64 (IntKind.wrap IntKind.i64 (Int.tdiv (PV.asInt (YL (Sh.co Sh.str (List.getD (PV.cells (List.getD (List.map PV.str xs) (0+Int.toNat i) default)) 0 default)) (PV.int .i64 0) (Zw m))) g)))])]))])))))else(∃ y0:Bool,AV.pv (Zk (fun(x:Lin×Unit)=>Zm x.1) [(.agg [(.int .i64 k),(.sl 0 true [])])])=AV.pv (enc y0)∧(if (!y0)=true then G ((.tup [(.agg [(.int .i64 0),(.sl 0 true [])]),(.int .i64 3)]))else(G ((.tup [(.agg [(.int .i64 k),(.sl 0 true [])]),(.int .i64 0)])))))):Bf Wq E 0 (Ze Vk G) WI 0 93 [(4,.ptr 0 0),(7,.map 1),(13,.pv (.int .i64 g)),(15,.ptr 2 0),(69,.row 3 l 0 l),(70,.pv (.int .i64 l)),(71,.pv (.int .i64 i))] [.obj (.box [.pv (.int .i64 0),.pv (.sl 0 true [])]),.obj (.map (Zw m)),.obj (.box [.pv (.int .i64 k),.pv (.sl 0 true [])]),.obj (.row false 9 1 (xs.map .str))]:=Yu.mp (.lit (.ask (.req (.keep (.req (.req (.req (.keep (.req (.lit (.lit (.lit (.lit (.lit (.lit (.nil)))))))))))))) (.lit (.abs (Bool) (fun YY=>AV.pv (enc YY)) (.ask (.nil) (.nil)))))) h (by kernel_rfl)
theorem Ev{G:PV->Prop}(E:XK)(fs:List Fact)(ms:List Int)(g k:Int)(m:List (Str×Int))(l:Nat)(xs:List (List UInt8))(i:Int)(q:Nat)(ts:List Coef)(h:if (decide (i<(↑l:Int)))=true then(decide (0<=i)&&decide (0+Int.toNat i<l)&&List.length (List.map PV.str xs)==l)=true∧((List.length (List.map PV.str xs)==l&&decide (0+Int.toNat i<List.length (List.map PV.str xs)))=true∧((decide (0+List.length [Sh.str]<=List.length (PV.cells (List.getD (List.map PV.str xs) (0+Int.toNat i) default)))&&Xu (PV.cells (List.getD (List.map PV.str xs) (0+Int.toNat i) default)) 0 [Sh.str])=true∧((Ki (Sh.co Sh.str (List.getD (PV.cells (List.getD (List.map PV.str xs) (0+Int.toNat i) default)) 0 default)) (Zw m)&&Sh.fit (Sh.int .i64) (YL (Sh.co Sh.str (List.getD (PV.cells (List.getD (List.map PV.str xs) (0+Int.toNat i) default)) 0 default)) (PV.int .i64 0) (Zw m)))=true∧((g != 0)=true∧((List.length (List.map enc ts)==q&&q==q&&decide ((q+List.length (List.drop 0 (List.take 1 [PV.agg [Sh.co Sh.str (List.getD (PV.cells (List.getD (List.map PV.str xs) (0+Int.toNat i) default)) 0 default),PV.int .i64 (IntKind.wrap IntKind.i64 (Int.tdiv (PV.asInt (YL (Sh.co Sh.str (List.getD (PV.cells (List.getD (List.map PV.str xs) (0+Int.toNat i) default)) 0 default)) (PV.int .i64 0) (Zw m))) g))]])))*24<=1099511627776)&&decide (q+List.length (List.drop 0 (List.take 1 [PV.agg [Sh.co Sh.str (List.getD (PV.cells (List.getD (List.map PV.str xs) (0+Int.toNat i) default)) 0 default),PV.int .i64 (IntKind.wrap IntKind.i64 (Int.tdiv (PV.asInt (YL (Sh.co Sh.str (List.getD (PV.cells (List.getD (List.map PV.str xs) (0+Int.toNat i) default)) 0 default)) (PV.int .i64 0) (Zw m))) g))]]))<=1099511627776))=true∧(Bf Wq E 0 (Ze Vk G) WI 0 93 [(4,(.ptr 0 0)),(7,(.map 1)),(13,(.pv (.int .i64 g))),(15,(.ptr 2 0)),(69,(.row 3 l 0 l)),(70,(.pv (.int .i64 (↑l:Int)))),(71,(.pv (.int .i64 (IntKind.wrap IntKind.i64 (i+1)))))] [(.obj (.box [(.pv (.int .i64 0)),(.pv (.sl 0 true []))])),(.obj (.map (Zw m))),(.obj (.box [(.pv (.int .i64 k)),(.row 4 (q+List.length (List.drop 0 (List.take 1 [PV.agg [Sh.co Sh.str (List.getD (PV.cells (List.getD (List.map PV.str xs) (0+Int.toNat i) default)) 0 default),PV.int .i64 (IntKind.wrap IntKind.i64 (Int.tdiv (PV.asInt (YL (Sh.co Sh.str (List.getD (PV.cells (List.getD (List.map PV.str xs) (0+Int.toNat i) default)) 0 default)) (PV.int .i64 0) (Zw m))) g))]]))) 0 (q+List.length (List.drop 0 (List.take 1 [PV.agg [Sh.co Sh.str (List.getD (PV.cells (List.getD (List.map PV.str xs) (0+Int.toNat i) default)) 0 default),PV.int .i64 (IntKind.wrap IntKind.i64 (Int.tdiv (PV.asInt (YL (Sh.co Sh.str (List.getD (PV.cells (List.getD (List.map PV.str xs) (0+Int.toNat i) default)) 0 default)) (PV.int .i64 0) (Zw m))) g))]]))))])),(.obj (.row false 9 1 (List.map PV.str xs))),(.obj (.row false 80 2 (List.map enc ts++List.drop 0 (List.take 1 [PV.agg [Sh.co Sh.str (List.getD (PV.cells (List.getD (List.map PV.str xs) (0+Int.toNat i) default)) 0 default),PV.int .i64 (IntKind.wrap IntKind.i64 (Int.tdiv (PV.asInt (YL (Sh.co Sh.str (List.getD (PV.cells (List.getD (List.map PV.str xs) (0+Int.toNat i) default)) 0 default)) (PV.int .i64 0) (Zw m))) g))]]))))]))))))else((List.length (List.map enc ts)==q)=true∧((Go.Pl.preT (fun(x:Lin×Unit)=>ZG x.1) [(.agg [(.int .i64 k),(.sl 2 false (List.drop 0 (List.take q (List.map enc ts))))])])=true∧(∃ y0:Bool,AV.pv (Zk (fun(x:Lin×Unit)=>Zm x.1) [(.agg [(.int .i64 k),(.sl 2 false (List.drop 0 (List.take q (List.map enc ts))))])])=AV.pv (enc y0)∧(if (!y0)=true then G ((.tup [(.agg [(.int .i64 0),(.sl 0 true [])]),(.int .i64 3)]))else((List.length (List.map enc ts)==q)=true∧(G ((.tup [(.agg [(.int .i64 k),(.sl 2 false (List.drop 0 (List.take q (List.map enc ts))))]),(.int .i64 0)]))))))))):Bf Wq E 0 (Ze Vk G) WI 0 93 [(4,.ptr 0 0),(7,.map 1),(13,.pv (.int .i64 g)),(15,.ptr 2 0),(69,.row 3 l 0 l),(70,.pv (.int .i64 l)),(71,.pv (.int .i64 i))] [.obj (.box [.pv (.int .i64 0),.pv (.sl 0 true [])]),.obj (.map (Zw m)),.obj (.box [.pv (.int .i64 k),.row 4 q 0 q]),.obj (.row false 9 1 (xs.map .str)),.obj (.row false 80 2 (ts.map enc))]:=Yu.mp (.lit (.ask (.req (.keep (.req (.req (.req (.keep (.req (.lit (.lit (.req (.lit (.nil)))))))))))) (.req (.req (.abs (Bool) (fun YY=>AV.pv (enc YY)) (.ask (.nil) (.req (.nil)))))))) h (by kernel_rfl)
theorem b7s{G:PV->Prop}(E:XK)(fs:List Fact)(ms:List Int)(n:Int)(m:List (Str×Int))(l:Nat)(xs:List (List UInt8))(ys:List Int)(h:(List.length (List.map enc ys)==l)=true∧((Go.Pl.preT (fun(x:List Int×Unit)=>decide (List.length x.1<=10000)&&List.all x.1 V8) [(.sl 1 false (List.drop 0 (List.take l (List.map enc ys))))])=true∧(∃ y0:Int×Int,AV.pv (Zk (fun(x:List Int×Unit)=>Gu x.1) [(.sl 1 false (List.drop 0 (List.take l (List.map enc ys))))])=AV.pv (enc y0)∧(if (y0.2 != 0)=true then G ((.tup [(.agg [(.int .i64 0),(.sl 0 true [])]),(.int .i64 3)]))else(∃ y1:Int×Int,AV.pv (Zk (fun(x:Int×Int×Unit)=>CP x.1 x.2.1) [(.int .i64 n),(.int .i64 y0.1)])=AV.pv (enc y1)∧((XJ [(.row 0 l 0 l)] [(.row false 9 1 (List.map PV.str xs))])=true∧(Bf Wq E 0 (Ze Vk G) WI 0 93 [(4,(.ptr 0 0)),(7,(.map 1)),(13,(.pv (.int .i64 y0.1))),(15,(.ptr 2 0)),(69,(.row 3 l 0 l)),(70,(.pv (.int .i64 (↑(l - 0):Int)))),(71,(.pv (.int .i64 0)))] [(.obj (.box [(.pv (.int .i64 0)),(.pv (.sl 0 true []))])),(.obj (.map (Zw m))),(.obj (.box [(.pv (.int .i64 y1.1)),(.pv (.sl 0 true []))])),(.obj (.row false 9 1 (List.map PV.str (Wt (List.map KM (List.map PV.str xs))))))]))))))):AfX Wq E 0 (Ze Vk G) WI 0 .normal ⟨Vs 93 0 [(4,.ptr 0 0),(6,.pv (.int .i64 n)),(7,.map 1),(9,.row 3 l 0 l),(10,.row 4 l 0 l),(37,.map 1),(38,.ptr 2 0)],[.obj (.box [.pv (.int .i64 0),.pv (.sl 0 true [])]),.obj (.map (Zw m)),.dead,.obj (.row false 9 1 (xs.map .str)),.obj (.row false 3 1 (ys.map enc))]⟩:=Yu.mp (.req (.req (.abs (Int×Int) (fun YY=>AV.pv (enc YY)) (.lit (.ask (.nil) (.lit (.abs (Int×Int) (fun YY=>AV.pv (enc YY)) (.req (.keep (.nil)))))))))) h (by kernel_rfl)
end Go.Pl
namespace Go.Pl
open Go.RowKit
open Enc (enc dec is)
open EncL (encL decL isL)
def c1x:MapParts:=⟨[⟨(some 37),(.mv (.t 7)),0,none⟩],.t 37,38,39,40,41,1,[⟨(some 42),(.extract (.t 41) 0),0,none⟩,⟨(some 43),(.extract (.t 41) 1),0,none⟩,⟨(some 11),(.mv (.t 42)),0,none⟩,⟨(some 12),(.mv (.t 43)),0,none⟩],Ky⟩
def Rw:XK:=fun nn st q=>nn=0∧d6z Wq 0 c1x st q
def kS(vis:List (PV×PV)):List (List UInt8):=vis.map fun p=>KM p.1
def kI(vis:List (PV×PV)):List Int:=vis.map fun p=>p.2.asInt
def d7v:ZQ:=[.obj (.box [.pv (.int .i64 0),.pv (.sl 0 true [])]),.dead,.dead]
def FU(n:Int)(x y:AV):List AV:=Vs 93 0 [(4,.ptr 0 0),(6,.pv (.int .i64 n)),(7,.map 1),(9,x),(10,y),(37,.map 1),(38,.ptr 2 0)]
def d6p(n:Int)(vis:List (PV×PV))(s:St):Prop:=
 (vis=[]∧s=⟨FU n (.pv (.sl 0 true [])) (.pv (.sl 0 true [])),d7v⟩)∨(vis≠[]∧s=⟨FU n (.row 3 vis.length 0 vis.length) (.row 4 vis.length 0 vis.length),d7v++[.obj (.row false 9 1 ((kS vis).map .str)),.obj (.row false 3 1 ((kI vis).map enc))]⟩)
theorem b9m:D6=Wq:=rfl
theorem b6e(n:Int)(vis:List (PV×PV))(s:List UInt8)(c:Int)(st:St)(hl:vis.length<1000000)(h:d6p n vis st):
  ∃ s2,KD Wq st.heap.length c1x.psE (grow ⟨((st.env.set 39 .junk).set 40 .junk).set 41 (.pv (.tup [.str s,.int .i64 c])),st.heap⟩ (news c1x.psE))=some s2∧ ∃ F',(∀ x,¬ F' x) ∧
   Yu Wq (fun n' S' _=>n'=99∧d6p n (vis++[(.str s,.int .i64 c)]) S') st.heap.length F' (.inl Ky) [.blk 1,.seq (.ext 99 [4,6,7,9,10,37,38])] s2:=by
 have hno : ∀ k,∀ x,¬ Zj k Hd (fun _=>False) x:=by rintro k x ⟨r,_,h⟩;exact h
 have eS:kS (vis++[(.str s,.int .i64 c)])=kS vis++[s]:=by simp[kS,KM]
 have eI:kI (vis++[(.str s,.int .i64 c)])=kI vis++[c]:=by simp[kI,PV.asInt]
 have elen:(vis++[((.str s,.int .i64 c):PV×PV)]).length=vis.length+1:=by simp
 rw[<- b9m]
 rcases h with ⟨h1,rfl⟩|⟨h1,rfl⟩
 ·refine⟨_,by kernel_rfl,_,hno 3,c1l (G:=fun _=>False) _ n s c ⟨rfl,.inr ⟨by simp,?_⟩⟩⟩
  subst h1
  rfl
 ·have e1:(kS vis).length=vis.length:=by simp[kS]
  have e2:(kI vis).length=vis.length:=by simp[kI]
  refine⟨_,by kernel_rfl,_,hno 5,c4k (G:=fun _=>False) _ n s c vis.length (kS vis) (kI vis) ⟨by simp[e1];omega,by simp[e2];omega,rfl,.inr ⟨by simp,?_⟩⟩⟩
  rw[eS,eI,elen,List.map_append,List.map_append]
  rfl
theorem Km{α:Type}[Enc α](l:List α):List.drop 0 (List.take l.length (List.map enc l))=List.map enc l:=by rw[List.drop_zero,List.take_of_length_le (by simp)]
theorem d1c(k:Int)(ts:List Coef)(H:Lin×Int)(hs:ts.all (fun t=>decide (t.v.s.length<=1000000))=true)(hl:ts.length<=1000000)(hH:H=if Zm ⟨k,ts⟩then(⟨k,ts⟩,0)else(⟨0,[]⟩,3))(q:Nat)(hq:q=ts.length):
  List.length (List.map (enc:Coef->PV) ts)=q∧preT (fun(x:Lin×Unit)=>ZG (Prod.fst x)) [.agg [.int .i64 k,.sl 2 false (List.drop 0 (List.take q (List.map enc ts)))]]=true ∧
  ∃ y:Bool,AV.pv (Zk (fun(x:Lin×Unit)=>Zm (Prod.fst x)) [.agg [.int .i64 k,.sl 2 false (List.drop 0 (List.take q (List.map enc ts)))]])=AV.pv (enc y)∧(y=false->ZB H (.tup [.agg [.int .i64 0,.sl 0 true []],.int .i64 3]))∧(y=true->ZB H (.tup [.agg [.int .i64 k,.sl 2 false (List.drop 0 (List.take q (List.map enc ts)))],.int .i64 0])):=by
 subst hq
 rw[Km]
 refine⟨by simp,Zo (⟨k,ts⟩,()) rfl (by simp[ZG,Yb];exact⟨by omega,by simpa using hs⟩),Zq (⟨k,ts⟩,()) rfl ⟨fun h=> ?_,fun h=> ?_⟩⟩
 ·have h:Zm ⟨k,ts⟩=false:=h
  rw[hH,if_neg (by rw[h];simp)]
  exact⟨rfl,rfl⟩
 ·have h:Zm ⟨k,ts⟩=true:=h
  rw[hH,if_pos h]
  exact YC (x:=((⟨k,ts⟩:Lin),(0:Int))) rfl
theorem Ml(m:List (Str×Int))(g:Int)(xs:List (List UInt8))(i:Nat)(h:i<xs.length):Kg m g (xs.take (i+1))=Kg m g (xs.take i)++[⟨⟨xs[i]⟩,V9 ((KO m xs[i]).tdiv g)⟩]:=by
 unfold Kg
 rw[List.take_add_one,List.getElem?_eq_getElem h,List.map_append]
 rfl
theorem d9d{xs:List (List UInt8)}{i:Nat}(h:i<xs.length):List.getD (List.map PV.str xs) (0+Int.toNat (i:Int)) default = .str xs[i]:=by simp[List.getD,h]
theorem c5j(fs:List Fact)(ms:List Int)(g k:Int)(m:List (Str×Int))(xs:List (List UInt8))(hg:g≠0)(hx:xs.length<=100000)(hsx : ∀ x∈xs,x.length<=1000000)(H:Lin×Int)(hH:H=if Zm ⟨k,Kg m g xs⟩then(⟨k,Kg m g xs⟩,0)else(⟨0,[]⟩,3)):
  ∀ (j i:Nat),j+i=xs.length->0<i->Bf Wq Rw 0 (Ze Vk (ZB H)) WI 0 93 [(4,.ptr 0 0),(7,.map 1),(13,.pv (.int .i64 g)),(15,.ptr 2 0),(69,.row 3 xs.length 0 xs.length),(70,.pv (.int .i64 xs.length)),(71,.pv (.int .i64 i))]
   [.obj (.box [.pv (.int .i64 0),.pv (.sl 0 true [])]),.obj (.map (Zw m)),.obj (.box [.pv (.int .i64 k),.row 4 i 0 i]),.obj (.row false 9 1 (xs.map .str)),.obj (.row false 80 2 ((Kg m g (xs.take i)).map enc))]:=by
 intro j
 induction j with
 | zero=>
  intro i hi h0
  refine Ev Rw fs ms g k m xs.length xs i i (Kg m g (xs.take i)) (Zv (UX (by omega)) ?_)
  have ei:xs.take i=xs:=List.take_of_length_le (by omega)
  rw[ei]
  have hall:(Kg m g xs).all (fun t=>decide (t.v.s.length<=1000000))=true:=by
   rw[List.all_eq_true]
   intro t ht
   simp only[Kg,List.mem_map]at ht
   obtain⟨v,hv,rfl⟩:=ht
   simpa using hsx v hv
  obtain⟨c1,c2,y,c3,c4,c5⟩:=d1c k (Kg m g xs) H hall (by simp[Kg];omega) hH i (by simp[Kg];omega)
  exact⟨beq_iff_eq.2 c1,c2,y,c3,WV c4 fun h=>⟨beq_iff_eq.2 c1,c5 h⟩⟩
 | succ j ih=>
  intro i hi h0
  have hlt:i<xs.length:=by omega
  refine Ev Rw fs ms g k m xs.length xs i i (Kg m g (xs.take i)) (Zu (U4 hlt) ?_)
  simp only[d9d hlt]
  have ec:Sh.co Sh.str (List.getD (PV.cells (.str xs[i])) 0 default) = .str xs[i]:=rfl
  simp only[ec,Qi]
  refine⟨by simp;omega,by simp;omega,rfl,by rw[Uq];rfl,by simpa using hg,by simp[Kg];omega,?_⟩
  have h:=ih (i+1) (by omega) (by omega)
  rw[Ml m g xs i hlt,List.map_append]at h
  rw[next (by omega)]
  exact h
theorem b3a(fs:List Fact)(ms:List Int)(g k:Int)(m:List (Str×Int))(xs:List (List UInt8))(hg:g≠0)(hx:xs.length<=100000)(h0:0<xs.length)(hsx : ∀ x∈xs,x.length<=1000000)(H:Lin×Int)(hH:H=if Zm ⟨k,Kg m g xs⟩then(⟨k,Kg m g xs⟩,0)else(⟨0,[]⟩,3)):
  Bf Wq Rw 0 (Ze Vk (ZB H)) WI 0 93 [(4,.ptr 0 0),(7,.map 1),(13,.pv (.int .i64 g)),(15,.ptr 2 0),(69,.row 3 xs.length 0 xs.length),(70,.pv (.int .i64 xs.length)),(71,.pv (.int .i64 0))]
   [.obj (.box [.pv (.int .i64 0),.pv (.sl 0 true [])]),.obj (.map (Zw m)),.obj (.box [.pv (.int .i64 k),.pv (.sl 0 true [])]),.obj (.row false 9 1 (xs.map .str))]:=by
 refine c4y Rw fs ms g k m xs.length xs 0 (Zu (by simp;omega) ?_)
 have hz:List.getD (List.map PV.str xs) (0+Int.toNat 0) default = .str xs[0]:=by simp[List.getD,h0]
 simp only[hz]
 have ec:Sh.co Sh.str (List.getD (PV.cells (.str xs[0])) 0 default) = .str xs[0]:=rfl
 simp only[ec,Qi]
 refine⟨by simp;omega,by simp;omega,rfl,by rw[Uq];rfl,by simpa using hg,?_⟩
 have h:=c5j fs ms g k m xs hg hx hsx H hH (xs.length - 1) 1 (by omega) (by omega)
 have et:Kg m g (xs.take 1)=[⟨⟨xs[0]⟩,V9 ((KO m xs[0]).tdiv g)⟩]:=by
  have:=Ml m g xs 0 h0
  simpa [Kg]using this
 rw[et]at h
 exact h
theorem e1h{m:List (Str×Int)}(hz : ∀ p∈m,p.2≠0)(hm:m≠[]):VG (UG m)≠0:=by
 cases m with
 | nil=>exact absurd rfl hm
 | cons p m=>exact c8p ⟨p.2,by simp[UG],hz p (by simp)⟩
theorem c3h(fs:List Fact)(ms:List Int)(hf:Zt fs=true)(hc:Nc fs ms=true)(hb:ZT fs=true->(Sl (Xb fs ms).2).length<=10000∧(UG (Sl (Xb fs ms).2)).all V8=true∧ ∀ x∈Yx (Sl (Xb fs ms).2),x.length<=1000000):
  KQ Wq Rw 0 (Ze Vk (ZB (Y3 fs ms))) WI [] (Yp 93 [enc fs,enc ms]):=by
 refine d8t Rw fs ms ⟨Zo (fs,()) rfl hf,Zq (fs,()) rfl (WV (fun hv=> ?_) fun hv=> ?_)⟩
 ·have hv:ZT fs=false:=hv
  have:Y3 fs ms=(⟨0,[]⟩,1):=by simp[Y3,hv]
  rw[this]
  exact⟨rfl,rfl⟩
 have hv:ZT fs=true:=hv
 obtain⟨b1,b2,b3⟩:=hb hv
 have hcut:Y3 fs ms=FD (Xb fs ms).1 (Sl (Xb fs ms).2):=by simp[Y3,hv,hc]
 rw[hcut]
 have hcf:KX (enc fs) (enc ms)=Xb fs ms:=by unfold KX;rw[Enc.dec_enc,Enc.dec_enc]
 refine⟨?_,?_⟩
 ·show Wm true (enc fs) (enc ms)=true
  simp only[Zt,Bool.and_eq_true,decide_eq_true_eq,List.all_eq_true]at hf
  have h2:fs.all (fun f=>Yb f.l)=true:=by
   rw[List.all_eq_true]
   intro f hfm
   have:=hf.2 f hfm
   simp only[ZG,Bool.and_eq_true]at this
   exact this.1
  simp only[Wm,YD,Enc.dec_enc,hc,h2,decide_eq_true hf.1]
  rfl
 simp only[hcf]
 have hz0 : ∀ p∈Sl (Xb fs ms).2,p.2≠0:=fun p hp=>by simpa using (List.mem_filter.1 hp).2
 generalize (Xb fs ms).1=n
 generalize Sl (Xb fs ms).2=m at b1 b2 b3 hz0 ⊢
 by_cases hm:m=[]
 ·subst hm
  refine Zu rfl ?_
  exact⟨rfl,rfl⟩
 refine Zv (by simp[Zw,hm]) ?_
 have elen : ∀ x y,(FU n x y).length=93:=fun x y=>rfl
 refine⟨rfl,⟨(Vs 93 0 [(4,.ptr 0 0),(6,.pv (.int .i64 n)),(7,.map 1),(9,.pv (.sl 0 true [])),(10,.pv (.sl 0 true [])),(11,.undef),(12,.undef),(37,.undef),(38,.undef),(39,.undef),(40,.undef),(41,.undef),(42,.undef),(43,.undef),(44,.undef),(45,.undef),(46,.undef),(47,.undef),(48,.undef),(49,.undef),(50,.undef),(51,.undef)]).set 37 (.map 1),
   [.obj (.box [.pv (.int .i64 0),.pv (.sl 0 true [])]),.obj (.map (Zw m))]⟩,⟨FU n (.pv (.sl 0 true [])) (.pv (.sl 0 true [])),d7v⟩,1,2,37,1,Zw m,[4,6,7,9,10,37,38],[4,6,7,9,10,37,38],d6p n,by kernel_rfl,rfl,rfl,by kernel_rfl,rfl,by decide,rfl,.inl ⟨rfl,rfl⟩,?_,?_,?_⟩
 ·intro vis s h
  rcases h with ⟨_,rfl⟩|⟨_,rfl⟩
  ·exact⟨⟨rfl,by show 39<_;rw[elen];omega,by show 40<_;rw[elen];omega,by show 41<_;rw[elen];omega⟩,rfl⟩
  ·exact⟨⟨rfl,by show 39<_;rw[elen];omega,by show 40<_;rw[elen];omega,by show 41<_;rw[elen];omega⟩,rfl⟩
 ·intro vis kv s rest hp hI
  have hin:kv∈Zw m:=hp.mem_iff.2 (by simp)
  obtain⟨p,_,rfl⟩:=List.mem_map.1 hin
  have hl:=hp.length_eq
  simp[Zw]at hl
  exact b6e n vis p.1.s p.2 s (by omega) hI
 ·intro vis s hp hI
  have hvl:vis.length=m.length:=by have:=hp.length_eq;simpa [Zw]using this
  have hpS:(kS vis).Perm (Yx m):=by
   have:=hp.map (fun p:PV×PV=>KM p.1)
   have e:(Zw m).map (fun p:PV×PV=>KM p.1)=Yx m:=by simp[Zw,Yx,KM,Function.comp_def]
   rw[e]at this
   exact this
  have hpI:(kI vis).Perm (UG m):=by
   have:=hp.map (fun p:PV×PV=>p.2.asInt)
   have e:(Zw m).map (fun p:PV×PV=>p.2.asInt)=UG m:=by simp[Zw,UG,PV.asInt,Function.comp_def]
   rw[e]at this
   exact this
  have hml:0<m.length:=List.length_pos_iff.2 hm
  rcases hI with ⟨h1,rfl⟩|⟨h1,rfl⟩
  ·rw[h1]at hvl;simp at hvl;omega
  ·have eg:VG (kI vis)=VG (UG m):=b6z hpI
   have hg:VG (UG m)≠0:=e1h hz0 hm
   have eS:Wt (kS vis)=GY m:=a1x hpS
   have eSl:(kS vis).length=vis.length:=by simp[kS]
   have eIl:(kI vis).length=vis.length:=by simp[kI]
   have hn:(GY m).length=vis.length:=by unfold GY;rw[show(Wt (Yx m)).length=(Yx m).length from(List.mergeSort_perm _ _).length_eq];simp[Yx];omega
   have hallI:(kI vis).all V8=true:=by
    rw[List.all_eq_true]at b2 ⊢
    intro x hx
    exact b2 x (hpI.mem_iff.1 hx)
   refine b7s Rw fs ms n m vis.length (kS vis) (kI vis) ?_
   have edt:List.drop 0 (List.take vis.length (List.map (enc:Int->PV) (kI vis)))=(kI vis).map enc:=by rw[<- eIl];exact Km _
   rw[edt]
   refine⟨by simp[eIl],Zo (kI vis,()) rfl (by simp only[Bool.and_eq_true];exact⟨by simp[eIl];omega,hallI⟩),Zq (kI vis,()) rfl (Zv (by simp[Gu]) (Zq (n,(Gu (kI vis)).1,()) rfl ⟨?_,?_⟩))⟩
   ·have:(List.map PV.str (kS vis)).all Br=true:=by simp[Br]
    simp only[XJ,List.length_map,eSl,this,Bool.and_eq_true,beq_self_eq_true,true_and,decide_eq_true_eq]
    omega
   ·have e1:List.map KM (List.map PV.str (kS vis))=kS vis:=by rw[List.map_map];exact List.map_id _
    have h:=b3a fs ms (VG (UG m)) (CP n (VG (UG m))).1 m (GY m) hg (by omega) (by omega) (fun x hx=>b3 x ((List.mergeSort_perm (Yx m) _).mem_iff.1 hx)) (FD n m) (by unfold FD;rw[if_neg hm])
    rw[e1,eS]
    rw[hn]at h
    have e2:(Gu (kI vis)).1=VG (UG m):=eg
    show Bf Wq Rw 0 _ WI 0 93 [(4,.ptr 0 0),(7,.map 1),(13,.pv (.int .i64 (Gu (kI vis)).1)),(15,.ptr 2 0),(69,.row 3 vis.length 0 vis.length),(70,.pv (.int .i64 ((vis.length - 0:Nat):Int))),(71,.pv (.int .i64 0))] [_,_,.obj (.box [.pv (.int .i64 (CP n (Gu (kI vis)).1).1),.pv (.sl 0 true [])]),_]
    rw[e2,Nat.sub_zero]
    exact h
theorem b7p{E:XK}(fs:List Fact)(ms:List Int)(hf:Zt fs=true)(hc:Nc fs ms=false):KQ LB E 0 (Ze LV (ZB (Y3 fs ms))) SH [] (Yp 93 [enc fs,enc ms]):=by
 refine d7w E fs ms ⟨Zo (fs,()) rfl hf,Zq (fs,()) rfl (WV (fun hv=> ?_) fun hv=>⟨?_,?_⟩)⟩
 ·have hv:ZT fs=false:=hv
  have:Y3 fs ms=(⟨0,[]⟩,1):=by simp[Y3,hv]
  rw[this]
  exact⟨rfl,rfl⟩
 ·show Wm false (enc fs) (enc ms)=true
  simp only[Zt,Bool.and_eq_true,decide_eq_true_eq,List.all_eq_true]at hf
  have h2:fs.all (fun f=>Yb f.l)=true:=by
   rw[List.all_eq_true]
   intro f hfm
   have:=hf.2 f hfm
   simp only[ZG,Bool.and_eq_true]at this
   exact this.1
  simp only[Wm,YD,Enc.dec_enc,hc,h2,decide_eq_true hf.1]
  rfl
 ·have hv:ZT fs=true:=hv
  have:Y3 fs ms=(⟨0,[]⟩,18):=by simp[Y3,hv,hc]
  rw[this]
  exact⟨rfl,rfl⟩
end Go.Pl
namespace Go.Pl
open Go.RowKit
open Enc (enc dec is)
open EncL (encL decL isL)
def Y0(c:Cert)(n:Int)(b:Bool):Bool:=decide ((c.kids.length:Int)=n)&&(if b then c.lin.t.isEmpty&&decide (c.lin.k=0)else c.mults.isEmpty)
def U2(es:List (PV×PV)):List (Str×Int):=es.map fun p=>(⟨KM p.1⟩,p.2.asInt)
def e1t:PV×PV->Bool
 | (.str _,.int .i64 _)=>true
 | _=>false
def a6w(es:List (PV×PV)):Bool:=es.all e1t
theorem Kz(m:List (Str×Int)):U2 (Zw m)=m:=by
 simp only[U2,Zw,List.map_map]
 exact List.map_id _
theorem E5(m:List (Str×Int)):a6w (Zw m)=true:=by
 simp only[a6w,Zw,List.all_map,List.all_eq_true]
 intro p _
 rfl
theorem SX: ∀ {es:List (PV×PV)},a6w es=true-> ∃ m,es=Zw m
 | [],_=>⟨[],rfl⟩
 | (a,b)::es,h=>by
  simp only[a6w,List.all_cons,Bool.and_eq_true]at h
  obtain⟨m,rfl⟩:=SX (es:=es) h.2
  match a,b,h.1 with
  | .str s,.int .i64 n,_=>exact⟨(⟨s⟩,n)::m,rfl⟩
def b0k(m:List (Str×Int)):Bool:=decide (m.length<1000000)&&(Yx m).all fun x=>decide (x.length<=1000000)
def Ws:List AV->List AObj->Bool
 | [.ptr 0 0],[.box [.pv (.int .i64 n),.map 1],.map es]=>a6w es&&b0k (U2 es)
 | _,_=>false
def Tn:List AV->List AObj->AV×List AObj×List AObj
 | _,[.box [.pv (.int .i64 n),.map 1],.map es]=>(.pv (enc (Nn n (U2 es))),[.box [.pv (.int .i64 n),.map 1],.map es],[])
 | _,_=>KV
def QP:List AV->List AObj->Bool
 | [.ptr 0 0,.pv l,.pv (.int .i64 k)],[.box [.pv (.int .i64 n),.map 1],.map es]=>a6w es&&QV Lin l&&decide ((dec l:Lin).t.length<=1000000)
 | _,_=>false
def d6r(n:Int)(es:List (PV×PV))(l:Lin)(k:Int):AV×List AObj×List AObj:=(.tup [],[.box [.pv (.int .i64 (V9 (n+V9 (k*l.k)))),.map 1],.map (Zw (WW k l.t (U2 es)))],[])
def SG:List AV->List AObj->AV×List AObj×List AObj
 | [_,.pv l,.pv (.int .i64 k)],[.box [.pv (.int .i64 n),.map 1],.map es]=>d6r n es (dec l) k
 | _,_=>KV
def YI(a b:Lin)(k:Int):Lin×Int:=if Zm a then(if Zm b then Nn (V9 (V9 (0+V9 (1*a.k))+V9 (k*b.k))) (WW k b.t (WW 1 a.t []))else(⟨0,[]⟩,1))else(⟨0,[]⟩,1)
def VO(l:Lin)(k:Int):Lin×Int:=YI ⟨0,[]⟩ l (max (-1000001) (min k 1000001))
def Vn(g:Lin):Lin×Int:=if (VO g (-1)).2=0 then YI (VO g (-1)).1 ⟨-1,[]⟩ 1 else(⟨0,[]⟩,(VO g (-1)).2)
def Yv(fs:List Fact)(l:Lin):List Fact:=fs++[⟨false,l⟩]
def Yd(fs l:PV):List Fact:=Yv (dec fs) (dec l)
def c4o(fs l:PV):AV×List AObj×List AObj:=(.row 1 (Yd fs l).length 0 (Yd fs l).length,[.box [.pv fs]],[.row false 55 3 ((Yd fs l).map enc)])
def XF:List AV->List AObj->Bool
 | [.pv l,.ptr 0 0],[.box [.pv fs]]=>QV Lin l&&QV (List Fact) fs&&decide ((dec fs:List Fact).length<=1000000)
 | _,_=>false
def JU:List AV->List AObj->AV×List AObj×List AObj
 | [.pv l,_],[.box [.pv fs]]=>c4o fs l
 | _,_=>KV
def b4m(fs:List Fact)(m:List Int):Bool:=Nc fs m&&(Sl (Xb fs m).2).isEmpty&&decide ((Xb fs m).1<0)
mutual
def Kh:Cert->Bool
 | .mk _ m l ks=>decide (m.length<=9223372036854775807)&&ZG l&&decide (ks.length<=9223372036854775807)&&Af ks
def Af:List Cert->Bool
 | []=>true
 | c::cs=>Kh c&&Af cs
end
mutual
theorem b9n: ∀ {c:Cert},Kh c=true->Y8 c=true
 | .mk k m l ks,h=>by
  simp only[Kh,Y8,ZG,Bool.and_eq_true]at h ⊢
  exact⟨⟨⟨h.1.1.1,h.1.1.2.1⟩,h.1.2⟩,a8c h.2⟩
theorem a8c: ∀ {cs:List Cert},Af cs=true->Ug cs=true
 | [],_=>rfl
 | c::cs,h=>by
  simp only[Af,Ug,Bool.and_eq_true]at h ⊢
  exact⟨b9n h.1,a8c h.2⟩
end
def Xq(fs:List Fact):Cert->Bool
 | .mk k m l ks=>
  if k=1 then Y0 (.mk k m l ks) 0 true&&b4m fs m
  else if k=2 then match h:ks with
   | [c]=>Y0 (.mk k m l ks) 1 true&&(decide ((Y3 fs m).2=0)&&Xq (Yv fs (Y3 fs m).1) c)
   | _=>false
  else if k=3 then match h:ks with
   | [a,b]=>Y0 (.mk k m l ks) 2 false&&(decide ((Vn l).2=0)&&(Xq (Yv fs l) a&&Xq (Yv fs (Vn l).1) b))
   | _=>false
  else false
termination_by c=>ZL c
decreasing_by all_goals subst h;simp only[ZL,XN];omega
theorem N7(fs:List Fact)(m:List Int)(l:Lin)(ks:List Cert):Xq fs (.mk 1 m l ks)=(Y0 (.mk 1 m l ks) 0 true&&b4m fs m):=(Xq.eq_def _ _).trans (if_pos rfl)
theorem a0r(fs:List Fact)(m:List Int)(l:Lin)(c:Cert):Xq fs (.mk 2 m l [c])=(Y0 (.mk 2 m l [c]) 1 true&&(decide ((Y3 fs m).2=0)&&Xq (Yv fs (Y3 fs m).1) c)):=(Xq.eq_def _ _).trans ((if_neg (by decide)).trans (if_pos rfl))
theorem c0k(fs:List Fact)(m:List Int)(l:Lin)(a b:Cert):Xq fs (.mk 3 m l [a,b])=(Y0 (.mk 3 m l [a,b]) 2 false&&(decide ((Vn l).2=0)&&(Xq (Yv fs l) a&&Xq (Yv fs (Vn l).1) b))):=(Xq.eq_def _ _).trans ((if_neg (by decide)).trans ((if_neg (by decide)).trans (if_pos rfl)))
theorem c6m(fs:List Fact)(m:List Int)(l:Lin)(ks:List Cert)(h:Y0 (.mk 2 m l ks) 1 true=false):Xq fs (.mk 2 m l ks)=false:=by
 match ks,h with
 | [c],h=>rw[a0r,h];rfl
 | [],_=>exact(Xq.eq_def _ _).trans ((if_neg (by decide)).trans (if_pos rfl))
 | _::_::_,_=>exact(Xq.eq_def _ _).trans ((if_neg (by decide)).trans (if_pos rfl))
theorem c2a(fs:List Fact)(m:List Int)(l:Lin)(ks:List Cert)(h:Y0 (.mk 3 m l ks) 2 false=false):Xq fs (.mk 3 m l ks)=false:=by
 match ks,h with
 | [a,b],h=>rw[c0k,h];rfl
 | [],_=>exact(Xq.eq_def _ _).trans ((if_neg (by decide)).trans ((if_neg (by decide)).trans (if_pos rfl)))
 | [_],_=>exact(Xq.eq_def _ _).trans ((if_neg (by decide)).trans ((if_neg (by decide)).trans (if_pos rfl)))
 | _::_::_::_,_=>exact(Xq.eq_def _ _).trans ((if_neg (by decide)).trans ((if_neg (by decide)).trans (if_pos rfl)))
theorem d5e(fs:List Fact)(k:Int)(m:List Int)(l:Lin)(ks:List Cert)(h1:k≠1)(h2:k≠2)(h3:k≠3):Xq fs (.mk k m l ks)=false:=(Xq.eq_def _ _).trans ((if_neg h1).trans ((if_neg h2).trans (if_neg h3)))
theorem Cy{s:Str}(h:YZ s=true):s.s.length<=30:=by
 unfold YZ at h
 split at h
 ·cases h
 ·rename_i c r hs
  rw[hs]
  split at h
  ·simp only[Bool.and_eq_true,decide_eq_true_eq]at h
   have:=h.2
   simp only[List.length_cons]
   omega
  ·simp only[Bool.and_eq_true,decide_eq_true_eq]at h
   have:=h.2
   simp only[List.length_cons]
   omega
theorem Qm{l:Lin}(h:Zm l=true):l.t.length<=12:=by
 simp only[Zm,Bool.and_eq_true,decide_eq_true_eq]at h
 exact h.2
theorem Ja{l:Lin}(h:Zm l=true){t:Coef}(ht:t∈l.t):YZ t.v=true∧t.c≠0∧ -1000000<=t.c∧t.c<=1000000:=by
 simp only[Zm,Bool.and_eq_true,decide_eq_true_eq,List.all_eq_true]at h
 have:=h.1.1.1 t ht
 simp only[Yy,Bool.and_eq_true,decide_eq_true_eq]at this
 exact⟨this.1.1,this.1.2,this.2⟩
theorem c9o{l:Lin}(h:Zm l=true): -1000000<=l.k∧l.k<=1000000:=by
 simp only[Zm,Yy,Bool.and_eq_true,decide_eq_true_eq]at h
 exact h.1.2
theorem a2p{l:Lin}(h:Zm l=true):ZG l=true:=by
 have h1:=Qm h
 simp only[ZG,Yb,Bool.and_eq_true,decide_eq_true_eq,List.all_eq_true]
 refine⟨by omega,fun t ht=> ?_⟩
 have:=Cy (Ja h ht).1
 omega
theorem Hw(k:Int): ∀ (l:List Coef) (m:List (Str×Int)) (x:List UInt8),x∈Yx (WW k l m)->x∈Yx m ∨ ∃ t∈l,t.v.s=x
 | [],m,x,h=>.inl h
 | t::l,m,x,h=>by
  rw[WW]at h
  rcases Hw k l _ x h with h|⟨u,hu,rfl⟩
  ·rcases Cq t.v (IntKind.i64.wrap (KO m t.v.s+IntKind.i64.wrap (k*t.c))) m with e|⟨_,e⟩
   ·rw[e]at h;exact .inl h
   ·rw[e,List.mem_append]at h
    rcases h with h|h
    ·exact .inl h
    ·exact .inr ⟨t,by simp,(List.mem_singleton.1 h).symm⟩
  ·exact .inr ⟨u,by simp[hu],rfl⟩
theorem b4p{n:Int}{m:List (Str×Int)}(h:(Nn n m).2=0):Zm (Nn n m).1=true:=by
 unfold Nn at h ⊢
 split
 ·assumption
 ·rename_i h'
  rw[if_neg h']at h
  cases h
theorem G6{a b:Lin}{k:Int}(h:(YI a b k).2=0):Zm a=true∧Zm b=true∧Zm (YI a b k).1=true:=by
 unfold YI at h ⊢
 cases ha:Zm a
 ·rw[ha,if_neg (by decide)]at h;cases h
 cases hb:Zm b
 ·rw[ha,hb,if_pos rfl,if_neg (by decide)]at h;cases h
 rw[ha,hb,if_pos rfl,if_pos rfl]at h
 rw[if_pos rfl,if_pos rfl]
 exact⟨rfl,rfl,b4p h⟩
theorem NJ{l:Lin}(h:(Vn l).2=0):Zm l=true∧Zm (Vn l).1=true:=by
 unfold Vn at h ⊢
 by_cases h1:(VO l (-1)).2=0
 ·rw[if_pos h1]at h ⊢
  exact⟨(G6 h1).2.1,(G6 h).2.2⟩
 ·rw[if_neg h1]at h
  exact absurd h h1
theorem Mw{fs:List Fact}{m:List Int}(h:(Y3 fs m).2=0):Zm (Y3 fs m).1=true:=by
 have key : ∀ (n:Int) (M:List (Str×Int)),(FD n M).2=0->Zm (FD n M).1=true:=by
  intro n M h
  unfold FD at h ⊢
  split
  ·rename_i h1
   rw[if_pos h1]at h;cases h
  ·rename_i h1
   rw[if_neg h1]at h
   split
   ·assumption
   ·rename_i h2
    rw[if_neg h2]at h;cases h
 unfold Y3 at h ⊢
 cases h1:ZT fs
 ·rw[h1,if_neg (by decide)]at h;cases h
 cases h2:Nc fs m
 ·rw[h1,h2,if_pos rfl,if_neg (by decide)]at h;cases h
 rw[h1,h2,if_pos rfl,if_pos rfl]at h
 rw[if_pos rfl,if_pos rfl]
 exact key _ _ h
def V5(fs:List Fact)(c:Cert):Int:=if ZT fs then(if (fs.length:Int)>100 then 3 else if Yj c>1000 then 3 else if Xq fs c then 0 else 18)else 1
end Go.Pl
namespace Go.Pl
open Go.RowKit
open Enc (enc dec is)
open EncL (encL decL isL)
theorem Uo{n:Int}(h1 : -9223372036854775808<=n)(h2:n<=9223372036854775807):V9 n=n:=Yn h1 h2
def c4b(m:List (Str×Int))(B:Int):Prop:= ∀ p∈m,-B<=p.2∧p.2<=B
theorem d4i{m:List (Str×Int)}{B:Int}(hB:0<=B)(h:c4b m B)(s:List UInt8): -B<=KO m s∧KO m s<=B:=by
 unfold KO
 cases e:m.find? fun p=>p.1.s==s with
 | none=>simp;omega
 | some p=>
  have:=h p (List.mem_of_find?_eq_some e)
  simpa using this
theorem b0a{s:Str}{c:Int}{p:Str×Int}: ∀ {m:List (Str×Int)},p∈Qt s c m->p.2=c∨p∈m
 | [],h=>by simp[Qt]at h;left;rw[h]
 | q::m,h=>by
  rw[Qt]at h
  split at h
  ·rcases List.mem_cons.1 h with rfl|h
   ·exact .inl rfl
   ·exact .inr (by simp[h])
  ·rcases List.mem_cons.1 h with rfl|h
   ·exact .inr (by simp)
   ·exact(b0a h).imp id fun h=>by simp[h]
theorem d3v{k c:Int}(hk1 : -1000000000<=k)(hk2:k<=1000000000)(hc1 : -1000000<=c)(hc2:c<=1000000): -1000000000000000<=k*c∧k*c<=1000000000000000:=by
 have h:(k*c).natAbs<=1000000000*1000000:=by
  rw[Int.natAbs_mul]
  exact Nat.mul_le_mul (by omega) (by omega)
 omega
theorem EI{k:Int}(hk1 : -1000000000<=k)(hk2:k<=1000000000): ∀ (l:List Coef) (m:List (Str×Int)) (B:Int),0<=B->B+l.length*1000000000000000<=4000000000000000000->(∀ t∈l,-1000000<=t.c∧t.c<=1000000)->c4b m B->c4b (WW k l m) (B+l.length*1000000000000000)
 | [],m,B,_,_,_,h=>by simpa [WW]using h
 | t::l,m,B,hB,hl,ht,h=>by
  rw[WW]
  have h1:=ht t (by simp)
  have h2:=d3v hk1 hk2 h1.1 h1.2
  have h3:=d4i hB h t.v.s
  have e:(((t::l).length:Nat):Int)*1000000000000000=1000000000000000+(l.length:Int)*1000000000000000:=by rw[List.length_cons];omega
  rw[e]at hl ⊢
  have w1:IntKind.i64.wrap (k*t.c)=k*t.c:=Uo (by omega) (by omega)
  have w2:IntKind.i64.wrap (KO m t.v.s+k*t.c)=KO m t.v.s+k*t.c:=Uo (by omega) (by omega)
  rw[w1,w2]
  have:=EI hk1 hk2 l (Qt t.v (KO m t.v.s+k*t.c) m) (B+1000000000000000) (by omega) (by omega) (fun u hu=>ht u (by simp[hu])) (fun p hp=>by
   rcases b0a hp with e|hp
   ·rw[e];omega
   ·have:=h p hp;omega)
  rw[show B+(1000000000000000+(l.length:Int)*1000000000000000)=B+1000000000000000+(l.length:Int)*1000000000000000 by omega]
  exact this
def a4t(f:Fact):Prop:=f.l.t.length<=12∧(∀ t∈f.l.t,-1000000<=t.c∧t.c<=1000000∧t.v.s.length<=30)∧ -1000000<=f.l.k∧f.l.k<=1000000
theorem c6d{f:Fact}(h:Zm f.l=true):a4t f:=⟨Qm h,fun t ht=>by have:=Ja h ht;exact⟨this.2.2.1,this.2.2.2,Cy this.1⟩,c9o h⟩
theorem a0u: ∀ (qs:List (Int×Fact)) (n:Int) (m:List (Str×Int)) (B:Int),0<=B->B+qs.length*12000000000000000<=4000000000000000000->(∀ q∈qs,okQ q=true∧a4t q.2)->c4b m B->(∀ x∈Yx m,x.length<=30) ->
  c4b (qs.foldl Pi (n,m)).2 (B+qs.length*12000000000000000)∧(∀ x∈Yx (qs.foldl Pi (n,m)).2,x.length<=30)∧(qs.foldl Pi (n,m)).2.length<=m.length+12*qs.length
 | [],n,m,B,_,_,_,h,hk=>by simp;exact⟨h,hk⟩
 | q::qs,n,m,B,hB,hl,hq,h,hk=>by
  obtain⟨hq1,hq2,hq3,hq4⟩:=hq q (by simp)
  simp only[okQ,Bool.and_eq_true,Bool.not_eq_true',decide_eq_false_iff_not]at hq1
  have e:(((q::qs).length:Nat):Int)*12000000000000000=12000000000000000+(qs.length:Int)*12000000000000000:=by rw[List.length_cons];omega
  rw[e]at hl ⊢
  have hb:=EI (k:=q.1) (by omega) (by omega) q.2.l.t m B hB (by omega) (fun t ht=>⟨(hq3 t ht).1,(hq3 t ht).2.1⟩) h
  have ih:=a0u qs (V9 (n+V9 (q.1*q.2.l.k))) (WW q.1 q.2.l.t m) (B+12000000000000000) (by omega) (by omega) (fun r hr=>hq r (by simp[hr])) (fun p hp=>by have:=hb p hp;omega) (fun x hx=>by
   rcases Hw _ _ _ _ hx with hx|⟨t,ht,rfl⟩
   ·exact hk x hx
   ·exact(hq3 t ht).2.2)
  rw[List.foldl_cons]
  have hlen:=CQ q.1 q.2.l.t m
  refine⟨?_,ih.2.1,?_⟩
  ·rw[show B+(12000000000000000+(qs.length:Int)*12000000000000000)=B+12000000000000000+(qs.length:Int)*12000000000000000 by omega]
   exact ih.1
  ·have:=ih.2.2
   simp only[Pi,List.length_cons]at this ⊢
   omega
theorem d7o{fs:List Fact}{ms:List Int}(hv:ZT fs=true)(hc:Nc fs ms=true): ∀ q∈ms.zip fs,okQ q=true∧a4t q.2:=by
 simp only[Nc,Bool.and_eq_true,List.all_eq_true]at hc
 simp only[ZT,List.all_eq_true]at hv
 exact fun q hq=>⟨hc.2 q hq,c6d (hv q.2 (List.of_mem_zip hq).2)⟩
theorem d8o{fs:List Fact}{ms:List Int}(hn:fs.length<=300)(hc:Nc fs ms=true)(hv:ZT fs=true):(Sl (Xb fs ms).2).length<=10000∧(UG (Sl (Xb fs ms).2)).all V8=true∧ ∀ x∈Yx (Sl (Xb fs ms).2),x.length<=1000000:=by
 have hz:(ms.zip fs).length<=300:=by rw[List.length_zip];omega
 obtain⟨h1,h2,h3⟩:=a0u (ms.zip fs) 0 [] 0 (by omega) (by omega) (d7o hv hc) (by intro p hp;cases hp) (by intro x hx;cases hx)
 have hsub : ∀ p∈Sl (Xb fs ms).2,p∈(Xb fs ms).2:=fun p hp=>(List.mem_filter.1 hp).1
 refine⟨?_,?_,?_⟩
 ·have:(Sl (Xb fs ms).2).length<=(Xb fs ms).2.length:=List.length_filter_le _ _
  have h3:(Xb fs ms).2.length<=([]:List (Str×Int)).length+12*(ms.zip fs).length:=h3
  simp only[List.length_nil]at h3
  omega
 ·rw[List.all_eq_true]
  intro x hx
  obtain⟨p,hp,rfl⟩:=List.mem_map.1 hx
  have:=h1 p (hsub p hp)
  simp only[V8,Bool.and_eq_true,decide_eq_true_eq]
  omega
 ·intro x hx
  obtain⟨p,hp,rfl⟩:=List.mem_map.1 hx
  have:=h2 p.1.s (List.mem_map.2 ⟨p,hsub p hp,rfl⟩)
  omega
theorem AR{ok:Bool}{a b:PV}(h:Wm ok a b=true): ∃ (fs:List Fact) (ms:List Int),a=enc fs∧b=enc ms∧fs.length<=9223372036854775807∧fs.all (fun f=>Yb f.l)=true∧Nc fs ms=ok:=by
 simp only[Wm,Bool.and_eq_true,decide_eq_true_eq,beq_iff_eq]at h
 obtain⟨⟨⟨⟨h1,h2⟩,h3⟩,h4⟩,h5⟩:=h
 obtain⟨fs,rfl⟩:=XX h1
 obtain⟨ms,rfl⟩:=XX h2
 simp only[Enc.dec_enc]at h3 h4 h5
 exact⟨fs,ms,rfl,rfl,h3,h4,h5⟩
theorem a0z(fs:List Fact)(ms:List Int):AX fs ms=if Nc fs ms then a9p (Xb fs ms)else KV:=by
 unfold AX Hl Nc Xb
 by_cases h:ms.length=fs.length
 ·simp only[h,if_true,decide_true,Bool.true_and]
 ·simp only[if_neg h,decide_eq_false h,Bool.false_and]
  rfl
theorem b5d: ∀ args os,Wj args os=true->KQ XA U6 os.length (Zj os.length YR fun r=>r=Uu args os) YT [] (ZN a8v args os):=by
 intro args os h
 unfold Wj at h
 split at h
 ·rename_i a b
  obtain⟨fs,ms,rfl,rfl,h1,h2,h3⟩:=AR h
  have hv:Uu [.pv (enc fs),.pv (enc ms)] []=AX fs ms:=by
   show a9p (KX (enc fs) (enc ms))=_
   have e:KX (enc fs) (enc ms)=Xb fs ms:=by unfold KX;rw[Enc.dec_enc,Enc.dec_enc]
   rw[e,a0z,h3,if_pos rfl]
  rw[hv]
  exact a0j fs ms h1 h2
 ·cases h
theorem b5y: ∀ args os,WK args os=true->KQ XA U6 os.length (Zj os.length YR fun r=>r=Qj args os) YT [] (ZN a8v args os):=by
 intro args os h
 unfold WK at h
 split at h
 ·rename_i a b
  obtain⟨fs,ms,rfl,rfl,h1,h2,h3⟩:=AR h
  have hv:Qj [.pv (enc fs),.pv (enc ms)] []=AX fs ms:=by
   show KV=_
   rw[a0z,h3]
   rfl
  rw[hv]
  exact a0j fs ms h1 h2
 ·cases h
theorem b4o: ∀ args os,Wj args os=true->(Uu args os).2.1.length=os.length:=by
 intro args os h
 unfold Wj at h
 split at h
 ·rfl
 ·cases h
theorem b2p: ∀ args os,WK args os=true->(Qj args os).2.1.length=os.length:=by
 intro args os h
 unfold WK at h
 split at h
 ·rfl
 ·cases h
theorem c8w: ∀ args os,QP args os=true->Zf Ha os.length (Zj os.length Q3 fun r=>r=SG args os) Q8 [] (ZN d3n args os):=by
 intro args os h
 unfold QP at h
 split at h
 ·rename_i l k n es
  simp only[Bool.and_eq_true,decide_eq_true_eq]at h
  obtain⟨⟨h1,h2⟩,h3⟩:=h
  obtain⟨m,rfl⟩:=SX h1
  obtain⟨l,rfl⟩:=XX h2
  rw[Enc.dec_enc]at h3
  have hv:SG [.ptr 0 0,.pv (enc l),.pv (.int .i64 k)] [.box [.pv (.int .i64 n),.map 1],.map (Zw m)]=d5w (IntKind.i64.wrap (n+IntKind.i64.wrap (k*l.k))) (WW k l.t m):=by
   show d6r n (Zw m) (dec (enc l)) k=_
   rw[Enc.dec_enc,d6r,Kz]
   rfl
  rw[hv]
  exact c1y n m l k h3
 ·cases h
theorem a6c: ∀ m:List (Str×Int),kz (Zw m)=Yx (Sl m)
 | []=>rfl
 | (s,c)::m=>by
  have ih:=a6c m
  simp only[kz,Zw,Yx,Sl]at ih ⊢
  by_cases h:c=0
  ·subst h
   simp[ih]
  ·simp[h,ih]
theorem EW(m:List (Str×Int)):YK m (Jl m)=JZ m:=by
 unfold YK Jl JZ
 rw[a6c]
 rfl
def KU:List AV->List AObj->AV×List AObj×List AObj
 | _,[.box [.pv (.int .i64 n),.map 1],.map es]=>D7 n (U2 es) (JZ (U2 es))
 | _,_=>KV
theorem b7w: ∀ args os,Ws args os=true->KQ XI OO os.length (Zj os.length Xv fun r=>r=KU args os) Xw [] (ZN d2s args os):=by
 intro args os h
 unfold Ws at h
 split at h
 ·rename_i n es
  simp only[Bool.and_eq_true,b0k,decide_eq_true_eq,List.all_eq_true]at h
  obtain⟨h1,h2,h3⟩:=h
  obtain⟨m,rfl⟩:=SX h1
  rw[Kz]at h2 h3
  have hv:KU [.ptr 0 0] [.box [.pv (.int .i64 n),.map 1],.map (Zw m)]=D7 n m (YK m (Jl m)):=by
   show D7 n (U2 (Zw m)) (JZ (U2 (Zw m)))=_
   rw[Kz,EW]
  rw[hv]
  refine c3u n m h2 fun x hx=>h3 x ?_
  have hx:x∈kz (Zw m):=(List.mergeSort_perm _ _).mem_iff.1 hx
  rw[a6c]at hx
  obtain⟨p,hp,rfl⟩:=List.mem_map.1 hx
  exact List.mem_map.2 ⟨p,(List.mem_filter.1 hp).1,rfl⟩
 ·cases h
theorem c7l: ∀ args os,Ws args os=true->(KU args os).2.1.length=os.length:=by
 intro args os h
 unfold Ws at h
 split at h
 ·show(D7 _ _ _).2.1.length=_
  unfold D7
  split
  ·split <;> rfl
  ·rfl
 ·cases h
theorem Mo(n c:Int):Sub (.tup [.agg [.int .i64 n,.sl 0 true []],.int .i64 c]) (enc (((⟨n,[]⟩:Lin),c):Lin×Int)):=.pair (.agg_cons (.refl _) (.agg_cons (Sub.sl0 _ _ _) .agg_nil)) (.refl _)
theorem d1b{P:Program}{f:Nat}(h:ZA P f Ws KU):ZA P f Ws Tn:=by
 refine h.frz fun args os hp=> ?_
 unfold Ws at hp
 split at hp
 ·rename_i n es
  have hv:KU [.ptr 0 0] [.box [.pv (.int .i64 n),.map 1],.map es]=D7 n (U2 es) (JZ (U2 es)):=rfl
  have hv':Tn [.ptr 0 0] [.box [.pv (.int .i64 n),.map 1],.map es]=(.pv (enc (Nn n (U2 es))),[.box [.pv (.int .i64 n),.map 1],.map es],[]):=rfl
  simp only[Bool.and_eq_true]at hp
  obtain⟨m,rfl⟩:=SX hp.1
  rw[hv,hv',Kz]
  unfold D7 Nn
  generalize JZ m=l
  by_cases hl:Zm ⟨n,l⟩=true
  ·rw[if_pos hl,if_pos hl]
   by_cases hz:l.isEmpty=true
   ·rw[if_pos hz]
    obtain rfl:l=[]:=by simpa using hz
    exact⟨_,_,_,_,_,_,_,_,rfl,rfl,rfl,Mo n 0,rfl⟩
   ·rw[if_neg hz]
    refine⟨_,_,_,.tup [.agg [.int .i64 n,.sl 2 false (l.map enc)],.int .i64 0],[.obj (.box [.pv (.int .i64 n),.map 1]),.obj (.map (Zw m)),.obj (.row true 80 2 (l.map enc))],_,_,_,rfl,?_,rfl,.refl _,rfl⟩
    have e:List.drop 0 (List.take l.length (List.map (enc:Coef->PV) l))=l.map enc:=by rw[List.drop_zero,List.take_of_length_le (by simp)]
    simp only[frz,Uf,HM.run_bind,Yr,List.map_cons,List.map_nil,List.cons_append,List.nil_append]
    simp[HM.run,HM.req]
    exact List.take_of_length_le (by simp)
  ·rw[if_neg hl,if_neg hl]
   exact⟨_,_,_,_,_,_,_,_,rfl,rfl,rfl,Mo 0 3,rfl⟩
 ·cases hp
end Go.Pl
namespace Go.Pl
open Go.RowKit
open Enc (enc dec is)
open EncL (encL decL isL)
set_option maxRecDepth 100000
noncomputable def a6s:IC:=Xp Proofs.Tryz.f60
def a6i:List IRes:=[(.tmp 2)]
abbrev d8m:Nat:=7
def c6j:ZI:=YN [(41,.pure (preT (fun x:Lin×Unit=>ZG x.1)) (Zk (fun x:Lin×Unit=>Zm x.1)))]
theorem d9w{G:PV->Prop}(f:Fact)(h:(Go.Pl.preT (fun(x:Lin×Unit)=>ZG x.1) [(.agg [(.int .i64 (Lin.k f.l)),(.sl 2 false (List.map enc (Lin.t f.l)))])])=true∧(∃ y0:Bool,AV.pv (Zk (fun(x:Lin×Unit)=>Zm x.1) [(.agg [(.int .i64 (Lin.k f.l)),(.sl 2 false (List.map enc (Lin.t f.l)))])])=AV.pv (enc y0)∧(G ((.bool !y0))))):Zf c6j 0 (Ze a6i G) a6s [] (Yp 7 [enc f]):=Zf.tp (.req (.abs (Bool) (fun YY=>AV.pv (enc YY)) (.nil))) h (by kernel_rfl)
noncomputable def G8:IC:=Xp Proofs.Tryz.f101
def GL:List IRes:=[(.tmp 4)]
abbrev d6v:Nat:=19
def Ra:ZI:=YN [(60,.pure (preT (fun x:Fact×Unit=>ZG x.1.l)) (Zk (fun x:Fact×Unit=> !(Zm x.1.l))))]
theorem e0b{G:PV->Prop}(l:List Fact)(h:At Ra 0 (Ze GL G) G8 0 19 [(0,(.pv (.sl 3 false (List.map enc l)))),(1,(.pv (.fn 60))),(7,(.pv (.int .i64 (↑(List.length (List.map enc l)):Int)))),(8,(.pv (.int .i64 0)))] []):Zf Ra 0 (Ze GL G) G8 [] (Yp 19 [enc l,.fn 60]):=Zf.tp (.nil) h (by kernel_rfl)
theorem c0g{G:PV->Prop}(l:List Fact)(i:Int)(h:if (decide (i<(↑(List.length l):Int)))=true then(decide (0<=i)&&decide (Int.toNat i<List.length (List.map enc l))&&Enc.sz Fact==3)=true∧(∃ y0:Fact,AV.pv (PV.rptr (PV.cells (List.getD (List.map enc l) (Int.toNat i) default)))=AV.pv (PV.rptr (PV.cells ((enc) y0)))∧((Go.Pl.preT (fun(x:Fact×Unit)=>ZG x.1.l) [(.agg [(.bool (PV.asBool (List.getD (PV.cells (enc y0)) 0 default))),(.int .i64 (PV.asInt (List.getD (PV.cells (enc y0)) (0+1) default))),(.sl 2 false (PV.asXs (List.getD (PV.cells (enc y0)) (0+1+1) default)))])])=true∧(∃ y1:Bool,AV.pv (Zk (fun(x:Fact×Unit)=> !Zm x.1.l) [(.agg [(.bool (PV.asBool (List.getD (PV.cells (enc y0)) 0 default))),(.int .i64 (PV.asInt (List.getD (PV.cells (enc y0)) (0+1) default))),(.sl 2 false (PV.asXs (List.getD (PV.cells (enc y0)) (0+1+1) default)))])])=AV.pv (enc y1)∧(if (y1)=true then G ((.int .i64 i))else(At Ra 0 (Ze GL G) G8 0 19 [(0,(.pv (.sl 3 false (List.map enc l)))),(1,(.pv (.fn 60))),(7,(.pv (.int .i64 (↑(List.length l):Int)))),(8,(.pv (.int .i64 (IntKind.wrap IntKind.i64 (i+1)))))] [])))))else(G ((.int .i64 (-1))))):At Ra 0 (Ze GL G) G8 0 19 [(0,.pv (enc l)),(1,.pv (.fn 60)),(7,.pv (.int .i64 l.length)),(8,.pv (.int .i64 i))] []:=At.tp (.lit (.ask (.req (.abs (Fact) (fun YY=>AV.pv (PV.rptr (PV.cells ((enc) YY)))) (.lit (.req (.abs (Bool) (fun YY=>AV.pv (enc YY)) (.ask (.nil) (.lit (.nil)))))))) (.nil))) h (by kernel_rfl)
noncomputable def a6p:IC:=Xp Proofs.Tryz.f59
def a4u:List IRes:=[(.tmp 4)]
abbrev d5y:Nat:=9
def b9a:ZI:=YN [(101,.pure (preT (fun x:List Fact×FnV 60×Unit=>Zt x.1)) (Zk (fun x:List Fact×FnV 60×Unit=>Qx (fun f:Fact=> !(Zm f.l)) x.1)))]
theorem d8x{G:PV->Prop}(l:List Fact)(h:(Go.Pl.preT (fun(x:List Fact×FnV 60×Unit)=>Zt x.1) [(.sl 3 false (List.map enc l)),(.fn 60)])=true∧(∃ y0:Int,AV.pv (Zk (fun(x:List Fact×FnV 60×Unit)=>Qx (fun(f:Fact)=> !Zm f.l) x.1) [(.sl 3 false (List.map enc l)),(.fn 60)])=AV.pv (enc y0)∧(G ((.bool (decide (y0 ≥ 0))))))):Zf b9a 0 (Ze a4u G) a6p [] (Yp 9 [enc l,.fn 60]):=Zf.tp (.req (.abs (Int) (fun YY=>AV.pv (enc YY)) (.lit (.nil)))) h (by kernel_rfl)
noncomputable def BO:IC:=Xp Proofs.Tryz.f28
def BQ:List IRes:=[(.tmp 2)]
abbrev b1i:Nat:=6
def TR:ZI:=YN [(59,.pure (preT (fun x:List Fact×FnV 60×Unit=>Zt x.1)) (Zk (fun x:List Fact×FnV 60×Unit=>x.1.any fun f:Fact=> !(Zm f.l))))]
theorem c4c{G:PV->Prop}(l:List Fact)(h:(Go.Pl.preT (fun(x:List Fact×FnV 60×Unit)=>Zt x.1) [(.sl 3 false (List.map enc l)),(.fn 60)])=true∧(∃ y0:Bool,AV.pv (Zk (fun(x:List Fact×FnV 60×Unit)=>List.any x.1 fun(f:Fact)=> !Zm f.l) [(.sl 3 false (List.map enc l)),(.fn 60)])=AV.pv (enc y0)∧(G ((.bool !y0))))):Zf TR 0 (Ze BQ G) BO [] (Yp 6 [enc l]):=Zf.tp (.req (.abs (Bool) (fun YY=>AV.pv (enc YY)) (.nil))) h (by kernel_rfl)
end Go.Pl
namespace Go.Pl
open Go.RowKit
open Enc (enc dec is)
open EncL (encL decL isL)
theorem c9u: ∀ a:Fact×Unit,ZG a.1.l=true->Zf c6j 0 (Ze a6i (ZB (!(Zm a.1.l)))) a6s [] (Yp d8m (encL a)):=by
 rintro⟨f,⟨⟩⟩ h
 exact d9w f ⟨Zo (f.l,()) rfl h,Zq (f.l,()) rfl (ZY rfl)⟩
theorem a0k{l:List Fact}(h:Zt l=true):l.length<=9223372036854775807∧ ∀ f∈l,ZG f.l=true:=by
 simp only[Zt,Bool.and_eq_true,decide_eq_true_eq,List.all_eq_true]at h
 exact h
theorem c7i(l:List Fact)(h:Zt l=true): ∀ (m i:Nat),m+i=l.length->(∀ j (hj:j<l.length),j<i->(!(Zm l[j].l))=false) ->
  At Ra 0 (Ze GL (ZB (Qx (fun f:Fact=> !(Zm f.l)) l))) G8 0 19 [(0,.pv (enc l)),(1,.pv (.fn 60)),(7,.pv (.int .i64 l.length)),(8,.pv (.int .i64 i))] []:=by
 obtain⟨hl,hs⟩:=a0k h
 intro m
 induction m with
 | zero=>
  intro i hi hno
  refine c0g l i (Zv (UX (by omega)) (U3 ?_))
  rw[d2m _ _ (fun j hj=>hno j hj (by omega))]
 | succ m ih=>
  intro i hi hno
  have hlt:i<l.length:=by omega
  refine c0g l i (Zu (U4 hlt) ⟨YU hlt rfl,WB hlt ⟨Zo (l[i],()) rfl (hs _ (List.getElem_mem hlt)),Zq (l[i],()) rfl (Ba (fun hb=> ?_) fun hb=> ?_)⟩⟩)
  ·exact U3 (d3i (fun f:Fact=> !(Zm f.l)) l i hlt hno hb).symm
  ·rw[next (by omega)]
   refine ih (i+1) (by omega) fun j hj hji=> ?_
   by_cases e:j=i
   ·subst e;exact hb
   ·exact hno j hj (by omega)
theorem d2e: ∀ a:List Fact×FnV 60×Unit,Zt a.1=true->Zf Ra 0 (Ze GL (ZB (Qx (fun f:Fact=> !(Zm f.l)) a.1))) G8 [] (Yp d6v (encL a)):=by
 rintro⟨l,g,⟨⟩⟩ h
 refine e0b l ?_
 rw[List.length_map]
 exact c7i l h l.length 0 (by omega) (fun j hj h=>by omega)
theorem d1h: ∀ a:List Fact×FnV 60×Unit,Zt a.1=true->Zf b9a 0 (Ze a4u (ZB (a.1.any fun f:Fact=> !(Zm f.l)))) a6p [] (Yp d5y (encL a)):=by
 rintro⟨l,g,⟨⟩⟩ h
 exact d8x l ⟨Zo (l,{},()) rfl h,Zq (l,{},()) rfl (ZY (ND _ _))⟩
theorem c7v(l:List Fact)(p:Fact->Bool):(!(l.any fun f=> !(p f)))=l.all p:=by
 induction l with
 | nil=>rfl
 | cons x l ih=>simp only[List.any_cons,List.all_cons,Bool.not_or,Bool.not_not,ih]
theorem a4n: ∀ a:List Fact×Unit,Zt a.1=true->Zf TR 0 (Ze BQ (ZB (ZT a.1))) BO [] (Yp b1i (encL a)):=by
 rintro⟨l,⟨⟩⟩ h
 exact c4c l ⟨Zo (l,{},()) rfl h,Zq (l,{},()) rfl (ZY (c7v l _))⟩
end Go.Pl
namespace Go.Pl
open Go.RowKit
open Enc (enc dec is)
open EncL (encL decL isL)
set_option maxRecDepth 100000
noncomputable def Dk:IC:=Xp Proofs.Tryz.f71
def GK:List IRes:=[(.cell true 2 6),(.tmp 7)]
abbrev a6f:Nat:=28
def Aa:ZI:=YN [(41,.pure (preT (fun x:Lin×Unit=>ZG x.1)) (Zk (fun x:Lin×Unit=>Zm x.1))),(74,.own QP SG),(70,.own Ws Tn)]
theorem b1s{G:PV->Prop}(a b:Lin)(k:Int)(h:(Go.Pl.preT (fun(x:Lin×Unit)=>ZG x.1) [(.agg [(.int .i64 a.k),(.sl 2 false (List.map enc a.t))])])=true∧(∃ y0:Bool,AV.pv (Zk (fun(x:Lin×Unit)=>Zm x.1) [(.agg [(.int .i64 a.k),(.sl 2 false (List.map enc a.t))])])=AV.pv (enc y0)∧(if (!y0)=true then G ((.tup [(.agg [(.int .i64 0),(.sl 0 true [])]),(.int .i64 1)]))else((Go.Pl.preT (fun(x:Lin×Unit)=>ZG x.1) [(.agg [(.int .i64 b.k),(.sl 2 false (List.map enc b.t))])])=true∧(∃ y1:Bool,AV.pv (Zk (fun(x:Lin×Unit)=>Zm x.1) [(.agg [(.int .i64 b.k),(.sl 2 false (List.map enc b.t))])])=AV.pv (enc y1)∧(if (!y1)=true then G ((.tup [(.agg [(.int .i64 0),(.sl 0 true [])]),(.int .i64 1)]))else((QP [(.ptr 0 0),(.pv (.agg [(.int .i64 a.k),(.sl 2 false (List.map enc a.t))])),(.pv (.int .i64 1))] [(.box [(.pv (.int .i64 0)),(.map 1)]),(.map [])])=true∧((QP [(.ptr 0 0),(.pv (.agg [(.int .i64 b.k),(.sl 2 false (List.map enc b.t))])),(.pv (.int .i64 k))] [(.box [(.pv (.int .i64 (V9 (0+V9 (1*Lin.k (dec (PV.agg [enc a.k,enc a.t]))))))),(.map 1)]),(.map (Zw (WW 1 (Lin.t (dec (PV.agg [enc a.k,enc a.t]))) (U2 []))))])=true∧((Ws [(.ptr 0 0)] [(.box [(.pv (.int .i64 (V9 (V9 (0+V9 (1*Lin.k (dec (PV.agg [enc a.k,enc a.t]))))+V9 (k*Lin.k (dec (PV.agg [enc b.k,enc b.t]))))))),(.map 1)]),(.map (Zw (WW k (Lin.t (dec (PV.agg [enc b.k,enc b.t]))) (U2 (Zw (WW 1 (Lin.t (dec (PV.agg [enc a.k,enc a.t]))) (U2 [])))))))])=true∧(G ((.tup [(.agg [(.int .i64 (Lin.k (Prod.fst (Nn (V9 (V9 (0+V9 (1*Lin.k (dec (PV.agg [enc a.k,enc a.t]))))+V9 (k*Lin.k (dec (PV.agg [enc b.k,enc b.t]))))) (U2 (Zw (WW k (Lin.t (dec (PV.agg [enc b.k,enc b.t]))) (U2 (Zw (WW 1 (Lin.t (dec (PV.agg [enc a.k,enc a.t]))) (U2 []))))))))))),(.sl 2 false (List.map enc (Lin.t (Prod.fst (Nn (V9 (V9 (0+V9 (1*Lin.k (dec (PV.agg [enc a.k,enc a.t]))))+V9 (k*Lin.k (dec (PV.agg [enc b.k,enc b.t]))))) (U2 (Zw (WW k (Lin.t (dec (PV.agg [enc b.k,enc b.t]))) (U2 (Zw (WW 1 (Lin.t (dec (PV.agg [enc a.k,enc a.t]))) (U2 []))))))))))))]),(.int .i64 (Prod.snd (Nn (V9 (V9 (0+V9 (1*Lin.k (dec (PV.agg [enc a.k,enc a.t]))))+V9 (k*Lin.k (dec (PV.agg [enc b.k,enc b.t]))))) (U2 (Zw (WW k (Lin.t (dec (PV.agg [enc b.k,enc b.t]))) (U2 (Zw (WW 1 (Lin.t (dec (PV.agg [enc a.k,enc a.t]))) (U2 []))))))))))])))))))))))):Zf Aa 0 (Ze GK G) Dk [] (Yp 28 [enc a,enc b,enc k]):=Zf.tp (.req (.abs (Bool) (fun YY=>AV.pv (enc YY)) (.ask (.lit (.lit (.lit (.lit (.nil))))) (.lit (.req (.abs (Bool) (fun YY=>AV.pv (enc YY)) (.lit (.lit (.ask (.nil) (.req (.keep (.req (.keep (.req (.keep (.nil)))))))))))))))) h (by kernel_rfl)
noncomputable def Rx:IC:=Xp Proofs.Tryz.f38
def TM:List IRes:=[(.cell true 2 4),(.tmp 5)]
abbrev c2o:Nat:=11
def OM:ZI:=YN [(71,.pure (preT (fun x:Lin×Lin×Int×Unit=>ZG x.1&&ZG x.2.1)) (Zk (fun x:Lin×Lin×Int×Unit=>YI x.1 x.2.1 x.2.2.1)))]
theorem d2o{G:PV->Prop}(a b:Lin)(h:(Go.Pl.preT (fun(x:Lin×Lin×Int×Unit)=>ZG x.1&&ZG x.2.1) [(.agg [(.int .i64 a.k),(.sl 2 false (List.map enc a.t))]),(.agg [(.int .i64 b.k),(.sl 2 false (List.map enc b.t))]),(.int .i64 1)])=true∧(∃ y0:Lin×Int,AV.pv (Zk (fun(x:Lin×Lin×Int×Unit)=>YI x.1 x.2.1 x.2.2.1) [(.agg [(.int .i64 a.k),(.sl 2 false (List.map enc a.t))]),(.agg [(.int .i64 b.k),(.sl 2 false (List.map enc b.t))]),(.int .i64 1)])=AV.pv (enc y0)∧(G ((.tup [(.agg [(.int .i64 y0.1.k),(.sl 2 false (List.map enc y0.1.t))]),(.int .i64 y0.2)]))))):Zf OM 0 (Ze TM G) Rx [] (Yp 11 [enc a,enc b]):=Zf.tp (.req (.abs (Lin×Int) (fun YY=>AV.pv (enc YY)) (.nil))) h (by kernel_rfl)
noncomputable def BZ:IC:=Xp Proofs.Tryz.f138
def BB:List IRes:=[(.cell true 2 4),(.tmp 5)]
abbrev b6i:Nat:=14
def Rz:ZI:=YN [(71,.pure (preT (fun x:Lin×Lin×Int×Unit=>ZG x.1&&ZG x.2.1)) (Zk (fun x:Lin×Lin×Int×Unit=>YI x.1 x.2.1 x.2.2.1)))]
theorem c3i{G:PV->Prop}(a:Lin)(k:Int)(h:(Go.Pl.preT (fun(x:Lin×Lin×Int×Unit)=>ZG x.1&&ZG x.2.1) [(.agg [(.int .i64 0),(.sl 0 true [])]),(.agg [(.int .i64 a.k),(.sl 2 false (List.map enc a.t))]),(.int .i64 (if true=true then if (if false=true then if 1000001>k then 1000001 else k else if 1000001<k then 1000001 else k)>(-1000001:Int)then if false=true then if 1000001>k then 1000001 else k else if 1000001<k then 1000001 else k else(-1000001:Int)else if (if false=true then if 1000001>k then 1000001 else k else if 1000001<k then 1000001 else k)<(-1000001:Int)then if false=true then if 1000001>k then 1000001 else k else if 1000001<k then 1000001 else k else(-1000001:Int)))])=true∧(∃ y0:Lin×Int,AV.pv (Zk (fun(x:Lin×Lin×Int×Unit)=>YI x.1 x.2.1 x.2.2.1) [(.agg [(.int .i64 0),(.sl 0 true [])]),(.agg [(.int .i64 a.k),(.sl 2 false (List.map enc a.t))]),(.int .i64 (if true=true then if (if false=true then if 1000001>k then 1000001 else k else if 1000001<k then 1000001 else k)>(-1000001:Int)then if false=true then if 1000001>k then 1000001 else k else if 1000001<k then 1000001 else k else(-1000001:Int)else if (if false=true then if 1000001>k then 1000001 else k else if 1000001<k then 1000001 else k)<(-1000001:Int)then if false=true then if 1000001>k then 1000001 else k else if 1000001<k then 1000001 else k else(-1000001:Int)))])=AV.pv (enc y0)∧(G ((.tup [(.agg [(.int .i64 y0.1.k),(.sl 2 false (List.map enc y0.1.t))]),(.int .i64 y0.2)]))))):Zf Rz 0 (Ze BB G) BZ [] (Yp 14 [enc a,enc k]):=Zf.tp (.req (.abs (Lin×Int) (fun YY=>AV.pv (enc YY)) (.nil))) h (by kernel_rfl)
noncomputable def Bi:IC:=Xp Proofs.Tryz.f100
def Ah:List IRes:=[(.cell true 2 2),(.tmp 3)]
abbrev b7n:Nat:=20
def PG:ZI:=YN [(138,.pure (preT (fun x:Lin×Int×Unit=>ZG x.1)) (Zk (fun x:Lin×Int×Unit=>VO x.1 x.2.1))),(38,.pure (preT (fun x:Lin×Lin×Unit=>ZG x.1&&ZG x.2.1)) (Zk (fun x:Lin×Lin×Unit=>YI x.1 x.2.1 1))),(139,.pure (preT (fun _:Int×Unit=>true)) (Zk (fun x:Int×Unit=>(⟨x.1,[]⟩:Lin))))]
theorem b9i{G:PV->Prop}(g:Lin)(h:(Go.Pl.preT (fun(x:Lin×Int×Unit)=>ZG x.1) [(.agg [(.int .i64 g.k),(.sl 2 false (List.map enc g.t))]),(.int .i64 (-1))])=true∧(∃ y0:Lin×Int,AV.pv (Zk (fun(x:Lin×Int×Unit)=>VO x.1 x.2.1) [(.agg [(.int .i64 g.k),(.sl 2 false (List.map enc g.t))]),(.int .i64 (-1))])=AV.pv (enc y0)∧(if (y0.2 != 0)=true then G ((.tup [(.agg [(.int .i64 0),(.sl 0 true [])]),(.int .i64 y0.2)]))else(∃ y1:Lin,AV.pv (Zk (fun(x:Int×Unit)=>Lin.mk x.1 []) [(.int .i64 (-1))])=AV.pv (enc y1)∧((Go.Pl.preT (fun(x:Lin×Lin×Unit)=>ZG x.1&&ZG x.2.1) [(.agg [(.int .i64 y0.1.k),(.sl 2 false (List.map enc y0.1.t))]),(.agg [(.int .i64 y1.k),(.sl 2 false (List.map enc y1.t))])])=true∧(∃ y2:Lin×Int,AV.pv (Zk (fun(x:Lin×Lin×Unit)=>YI x.1 x.2.1 1) [(.agg [(.int .i64 y0.1.k),(.sl 2 false (List.map enc y0.1.t))]),(.agg [(.int .i64 y1.k),(.sl 2 false (List.map enc y1.t))])])=AV.pv (enc y2)∧(G ((.tup [(.agg [(.int .i64 y2.1.k),(.sl 2 false (List.map enc y2.1.t))]),(.int .i64 y2.2)]))))))))):Zf PG 0 (Ze Ah G) Bi [] (Yp 20 [enc g]):=Zf.tp (.req (.abs (Lin×Int) (fun YY=>AV.pv (enc YY)) (.lit (.ask (.nil) (.lit (.abs (Lin) (fun YY=>AV.pv (enc YY)) (.req (.abs (Lin×Int) (fun YY=>AV.pv (enc YY)) (.nil))))))))) h (by kernel_rfl)
noncomputable def OC:IC:=Xp Proofs.Tryz.f98
def FN:List IRes:=[(.tmp 3)]
abbrev c8f:Nat:=14
def a5p:ZI:=YN []
theorem d6h{G:AV×List AObj×List AObj->Prop}(l:Lin)(fs:List Fact)(h:(true&&decide (0<=(↑(List.length (List.map enc fs)):Int))&&decide (0<=(↑(List.length (List.map enc fs)):Int))&&(List.isEmpty (List.map enc fs)||Enc.sz Fact==3)&&decide (0<=Int.toNat (↑(List.length (List.map enc fs)):Int))&&decide (Int.toNat (↑(List.length (List.map enc fs)):Int)<=Int.toNat (↑(List.length (List.map enc fs)):Int))&&decide (Int.toNat (↑(List.length (List.map enc fs)):Int)<=List.length (List.map enc fs)))=true∧((decide (Int.toNat (↑(List.length (List.map enc fs)):Int)=Int.toNat (↑(List.length (List.map enc fs)):Int)))=true∧(((List.isEmpty (List.drop 0 (List.take (Int.toNat (↑(List.length (List.map enc fs)):Int)) (List.map enc fs)))||Enc.sz Fact==3)&&decide ((List.length (List.drop 0 (List.take (Int.toNat (↑(List.length (List.map enc fs)):Int)) (List.map enc fs)))+List.length (List.drop 0 (List.take 1 [PV.agg [PV.bool false,enc l.k,enc l.t]])))*40<=1099511627776)&&decide (List.length (List.drop 0 (List.take (Int.toNat (↑(List.length (List.map enc fs)):Int)) (List.map enc fs)))+List.length (List.drop 0 (List.take 1 [PV.agg [PV.bool false,enc l.k,enc l.t]]))<=1099511627776))=true∧(G (((.row 1 (List.length (List.drop 0 (List.take (Int.toNat (↑(List.length (List.map enc fs)):Int)) (List.map enc fs)))+List.length (List.drop 0 (List.take 1 [PV.agg [PV.bool false,enc l.k,enc l.t]]))) 0 (List.length (List.drop 0 (List.take (Int.toNat (↑(List.length (List.map enc fs)):Int)) (List.map enc fs)))+List.length (List.drop 0 (List.take 1 [PV.agg [PV.bool false,enc l.k,enc l.t]])))),([(.box [(.pv (.sl 3 false (List.map enc fs)))])],[(.row false 55 3 (List.drop 0 (List.take (Int.toNat (↑(List.length (List.map enc fs)):Int)) (List.map enc fs))++List.drop 0 (List.take 1 [PV.agg [PV.bool false,enc l.k,enc l.t]])))]))))))):Zf a5p 1 (Zj 1 FN G) OC [] (ZN 14 [.pv (enc l),.ptr 0 0] [.box [.pv (enc fs)]]):=Zf.to (.req (.lit (.lit (.req (.lit (.req (.nil))))))) h (by kernel_rfl)
noncomputable def SQ:IC:=Xp Proofs.Tryz.f57
def FQ:List IRes:=[(.tmp 4)]
abbrev d0v:Nat:=98
def a5v(N:Nat):ZI:=YN [(57,.pure (preT (fun x:List Fact×Cert×Unit=>Zt x.1&&ZT x.1&&Kh x.2.1&&decide (x.1.length+ZL x.2.1<=300)&&decide (ZL x.2.1<N))) (Zk (fun x:List Fact×Cert×Unit=>Xq x.1 x.2.1))),(98,.own XF JU),(53,.own Wj Uu),(99,.pure (preT (fun _:Cert×Int×Bool×Unit=>true)) (Zk (fun x:Cert×Int×Bool×Unit=>Y0 x.1 x.2.1 x.2.2.1))),(24,.pure (preT (fun x:List Fact×List Int×Unit=>Zt x.1&&decide (x.1.length<=300))) (Zk (fun x:List Fact×List Int×Unit=>Y3 x.1 x.2.1))),(100,.pure (preT (fun x:Lin×Unit=>ZG x.1)) (Zk (fun x:Lin×Unit=>Vn x.1)))]
theorem d6j{G:PV->Prop}(N:Nat)(fs:List Fact)(k:Int)(m:List Int)(l:Lin)(ks:List Cert)(h:if (k==1)=true then(Wj [(.pv (.sl 3 false (List.map enc fs))),(.pv (.sl 1 false (List.map enc m)))] [])=true∧((Go.Pl.preT (fun(x:Cert×Int×Bool×Unit)=>true) [(.agg [(.int .i64 k),(.sl 1 false (List.map enc m)),(.int .i64 l.k),(.sl 2 false (List.map enc l.t)),(.sl 5 false (List.map enc ks))]),(.int .i64 0),(.bool true)])=true∧(∃ y0:Bool,AV.pv (Zk (fun(x:Cert×Int×Bool×Unit)=>Y0 x.1 x.2.1 x.2.2.1) [(.agg [(.int .i64 k),(.sl 1 false (List.map enc m)),(.int .i64 l.k),(.sl 2 false (List.map enc l.t)),(.sl 5 false (List.map enc ks))]),(.int .i64 0),(.bool true)])=AV.pv (enc y0)∧(if (y0)=true then if ((↑(List.length (Zw (Sl (Prod.snd (KX (enc fs) (enc m)))))):Int)==0)=true then G ((.bool (decide (Prod.fst (KX (enc fs) (enc m))<0))))else(G ((.bool false)))else(G ((.bool false))))))else(if (k==2)=true then(Go.Pl.preT (fun(x:Cert×Int×Bool×Unit)=>true) [(.agg [(.int .i64 k),(.sl 1 false (List.map enc m)),(.int .i64 l.k),(.sl 2 false (List.map enc l.t)),(.sl 5 false (List.map enc ks))]),(.int .i64 1),(.bool true)])=true∧(∃ y1:Bool,AV.pv (Zk (fun(x:Cert×Int×Bool×Unit)=>Y0 x.1 x.2.1 x.2.2.1) [(.agg [(.int .i64 k),(.sl 1 false (List.map enc m)),(.int .i64 l.k),(.sl 2 false (List.map enc l.t)),(.sl 5 false (List.map enc ks))]),(.int .i64 1),(.bool true)])=AV.pv (enc y1)∧(if (!y1)=true then G ((.bool false))else((Go.Pl.preT (fun(x:List Fact×List Int×Unit)=>Zt x.1&&decide (List.length x.1<=300)) [(.sl 3 false (List.map enc fs)),(.sl 1 false (List.map enc m))])=true∧(∃ y2:Lin×Int,AV.pv (Zk (fun(x:List Fact×List Int×Unit)=>Y3 x.1 x.2.1) [(.sl 3 false (List.map enc fs)),(.sl 1 false (List.map enc m))])=AV.pv (enc y2)∧(if (y2.2==0)=true then(XF [(.pv (.agg [(.int .i64 y2.1.k),(.sl 2 false (List.map enc y2.1.t))])),(.ptr 0 0)] [(.box [(.pv (.sl 3 false (List.map enc fs)))])])=true∧((decide (0<=0)&&decide (Int.toNat 0<List.length (List.map enc ks))&&Enc.sz Cert==5)=true∧(∃ y3:Cert,AV.pv (PV.rptr (PV.cells (List.getD (List.map enc ks) (Int.toNat 0) default)))=AV.pv (PV.rptr (PV.cells ((enc) y3)))∧((decide (0+List.length [Sh.int .i64,Sh.sl 1,Sh.int .i64,Sh.sl 2,Sh.sl 5]<=List.length (PV.cells (enc y3)))&&Xu (PV.cells (enc y3)) 0 [Sh.int .i64,Sh.sl 1,Sh.int .i64,Sh.sl 2,Sh.sl 5])=true∧((List.length (List.map enc (Yd (enc fs) (PV.agg [enc y2.1.k,enc y2.1.t])))==List.length (Yd (enc fs) (PV.agg [enc y2.1.k,enc y2.1.t])))=true∧((Go.Pl.preT (fun(x:List Fact×Cert×Unit)=>Zt x.1&&ZT x.1&&Kh x.2.1&&decide (List.length x.1+ZL x.2.1<=300)&&decide (ZL x.2.1<N)) [(.sl 3 false (List.drop 0 (List.take (List.length (Yd (enc fs) (PV.agg [enc y2.1.k,enc y2.1.t]))) (List.map enc (Yd (enc fs) (PV.agg [enc y2.1.k,enc y2.1.t])))))),(.agg [(.int .i64 (PV.asInt (List.getD (PV.cells (enc y3)) 0 default))),(.sl 1 (PV.asT (List.getD (PV.cells (enc y3)) (0+1) default)) (PV.asXs (List.getD (PV.cells (enc y3)) (0+1) default))),(.int .i64 (PV.asInt (List.getD (PV.cells (enc y3)) (0+1+1) default))),(.sl 2 (PV.asT (List.getD (PV.cells (enc y3)) (0+1+1+1) default)) (PV.asXs (List.getD (PV.cells (enc y3)) (0+1+1+1) default))),(.sl 5 (PV.asT (List.getD (PV.cells (enc y3)) (0+1+1+1+1) default)) (PV.asXs (List.getD (PV.cells (enc y3)) (0+1+1+1+1) default)))])])=true∧(∃ y4:Bool,AV.pv (Zk (fun(x:List Fact×Cert×Unit)=>Xq x.1 x.2.1) [(.sl 3 false (List.drop 0 (List.take (List.length (Yd (enc fs) (PV.agg [enc y2.1.k,enc y2.1.t]))) (List.map enc (Yd (enc fs) (PV.agg [enc y2.1.k,enc y2.1.t])))))),(.agg [(.int .i64 (PV.asInt (List.getD (PV.cells (enc y3)) 0 default))),(.sl 1 (PV.asT (List.getD (PV.cells (enc y3)) (0+1) default)) (PV.asXs (List.getD (PV.cells (enc y3)) (0+1) default))),(.int .i64 (PV.asInt (List.getD (PV.cells (enc y3)) (0+1+1) default))),(.sl 2 (PV.asT (List.getD (PV.cells (enc y3)) (0+1+1+1) default)) (PV.asXs (List.getD (PV.cells (enc y3)) (0+1+1+1) default))),(.sl 5 (PV.asT (List.getD (PV.cells (enc y3)) (0+1+1+1+1) default)) (PV.asXs (List.getD (PV.cells (enc y3)) (0+1+1+1+1) default)))])])=AV.pv (enc y4)∧(G ((.bool y4)))))))))else(G ((.bool false))))))))else(if (k==3)=true then(Go.Pl.preT (fun(x:Cert×Int×Bool×Unit)=>true) [(.agg [(.int .i64 k),(.sl 1 false (List.map enc m)),(.int .i64 l.k),(.sl 2 false (List.map enc l.t)),(.sl 5 false (List.map enc ks))]),(.int .i64 2),(.bool false)])=true∧(∃ y5:Bool,AV.pv (Zk (fun(x:Cert×Int×Bool×Unit)=>Y0 x.1 x.2.1 x.2.2.1) [(.agg [(.int .i64 k),(.sl 1 false (List.map enc m)),(.int .i64 l.k),(.sl 2 false (List.map enc l.t)),(.sl 5 false (List.map enc ks))]),(.int .i64 2),(.bool false)])=AV.pv (enc y5)∧(if (!y5)=true then G ((.bool false))else((Go.Pl.preT (fun(x:Lin×Unit)=>ZG x.1) [(.agg [(.int .i64 l.k),(.sl 2 false (List.map enc l.t))])])=true∧(∃ y6:Lin×Int,AV.pv (Zk (fun(x:Lin×Unit)=>Vn x.1) [(.agg [(.int .i64 l.k),(.sl 2 false (List.map enc l.t))])])=AV.pv (enc y6)∧(if (y6.2==0)=true then(XF [(.pv (.agg [(.int .i64 l.k),(.sl 2 false (List.map enc l.t))])),(.ptr 0 0)] [(.box [(.pv (.sl 3 false (List.map enc fs)))])])=true∧((decide (0<=0)&&decide (Int.toNat 0<List.length (List.map enc ks))&&Enc.sz Cert==5)=true∧(∃ y7:Cert,AV.pv (PV.rptr (PV.cells (List.getD (List.map enc ks) (Int.toNat 0) default)))=AV.pv (PV.rptr (PV.cells ((enc) y7)))∧((decide (0+List.length [Sh.int .i64,Sh.sl 1,Sh.int .i64,Sh.sl 2,Sh.sl 5]<=List.length (PV.cells (enc y7)))&&Xu (PV.cells (enc y7)) 0 [Sh.int .i64,Sh.sl 1,Sh.int .i64,Sh.sl 2,Sh.sl 5])=true∧((List.length (List.map enc (Yd (enc fs) (PV.agg [enc l.k,enc l.t])))==List.length (Yd (enc fs) (PV.agg [enc l.k,enc l.t])))=true∧((Go.Pl.preT (fun(x:List Fact×Cert×Unit)=>Zt x.1&&ZT x.1&&Kh x.2.1&&decide (List.length x.1+ZL x.2.1<=300)&&decide (ZL x.2.1<N)) [(.sl 3 false (List.drop 0 (List.take (List.length (Yd (enc fs) (PV.agg [enc l.k,enc l.t]))) (List.map enc (Yd (enc fs) (PV.agg [enc l.k,enc l.t])))))),(.agg [(.int .i64 (PV.asInt (List.getD (PV.cells (enc y7)) 0 default))),(.sl 1 (PV.asT (List.getD (PV.cells (enc y7)) (0+1) default)) (PV.asXs (List.getD (PV.cells (enc y7)) (0+1) default))),(.int .i64 (PV.asInt (List.getD (PV.cells (enc y7)) (0+1+1) default))),(.sl 2 (PV.asT (List.getD (PV.cells (enc y7)) (0+1+1+1) default)) (PV.asXs (List.getD (PV.cells (enc y7)) (0+1+1+1) default))),(.sl 5 (PV.asT (List.getD (PV.cells (enc y7)) (0+1+1+1+1) default)) (PV.asXs (List.getD (PV.cells (enc y7)) (0+1+1+1+1) default)))])])=true∧(∃ y8:Bool,AV.pv (Zk (fun(x:List Fact×Cert×Unit)=>Xq x.1 x.2.1) [(.sl 3 false (List.drop 0 (List.take (List.length (Yd (enc fs) (PV.agg [enc l.k,enc l.t]))) (List.map enc (Yd (enc fs) (PV.agg [enc l.k,enc l.t])))))),(.agg [(.int .i64 (PV.asInt (List.getD (PV.cells (enc y7)) 0 default))),(.sl 1 (PV.asT (List.getD (PV.cells (enc y7)) (0+1) default)) (PV.asXs (List.getD (PV.cells (enc y7)) (0+1) default))),(.int .i64 (PV.asInt (List.getD (PV.cells (enc y7)) (0+1+1) default))),(.sl 2 (PV.asT (List.getD (PV.cells (enc y7)) (0+1+1+1) default)) (PV.asXs (List.getD (PV.cells (enc y7)) (0+1+1+1) default))),(.sl 5 (PV.asT (List.getD (PV.cells (enc y7)) (0+1+1+1+1) default)) (PV.asXs (List.getD (PV.cells (enc y7)) (0+1+1+1+1) default)))])])=AV.pv (enc y8)∧(if (y8)=true then(XF [(.pv (.agg [(.int .i64 y6.1.k),(.sl 2 false (List.map enc y6.1.t))])),(.ptr 0 0)] [(.box [(.pv (.sl 3 false (List.map enc fs)))])])=true∧((decide (0<=1)&&decide (Int.toNat 1<List.length (List.map enc ks))&&Enc.sz Cert==5)=true∧(∃ y9:Cert,AV.pv (PV.rptr (PV.cells (List.getD (List.map enc ks) (Int.toNat 1) default)))=AV.pv (PV.rptr (PV.cells ((enc) y9)))∧((decide (0+List.length [Sh.int .i64,Sh.sl 1,Sh.int .i64,Sh.sl 2,Sh.sl 5]<=List.length (PV.cells (enc y9)))&&Xu (PV.cells (enc y9)) 0 [Sh.int .i64,Sh.sl 1,Sh.int .i64,Sh.sl 2,Sh.sl 5])=true∧((List.length (List.map enc (Yd (enc fs) (PV.agg [enc y6.1.k,enc y6.1.t])))==List.length (Yd (enc fs) (PV.agg [enc y6.1.k,enc y6.1.t])))=true∧((Go.Pl.preT (fun(x:List Fact×Cert×Unit)=>Zt x.1&&ZT x.1&&Kh x.2.1&&decide (List.length x.1+ZL x.2.1<=300)&&decide (ZL x.2.1<N)) [(.sl 3 false (List.drop 0 (List.take (List.length (Yd (enc fs) (PV.agg [enc y6.1.k,enc y6.1.t]))) (List.map enc (Yd (enc fs) (PV.agg [enc y6.1.k,enc y6.1.t])))))),(.agg [(.int .i64 (PV.asInt (List.getD (PV.cells (enc y9)) 0 default))),(.sl 1 (PV.asT (List.getD (PV.cells (enc y9)) (0+1) default)) (PV.asXs (List.getD (PV.cells (enc y9)) (0+1) default))),(.int .i64 (PV.asInt (List.getD (PV.cells (enc y9)) (0+1+1) default))),(.sl 2 (PV.asT (List.getD (PV.cells (enc y9)) (0+1+1+1) default)) (PV.asXs (List.getD (PV.cells (enc y9)) (0+1+1+1) default))),(.sl 5 (PV.asT (List.getD (PV.cells (enc y9)) (0+1+1+1+1) default)) (PV.asXs (List.getD (PV.cells (enc y9)) (0+1+1+1+1) default)))])])=true∧(∃ y10:Bool,AV.pv (Zk (fun(x:List Fact×Cert×Unit)=>Xq x.1 x.2.1) [(.sl 3 false (List.drop 0 (List.take (List.length (Yd (enc fs) (PV.agg [enc y6.1.k,enc y6.1.t]))) (List.map enc (Yd (enc fs) (PV.agg [enc y6.1.k,enc y6.1.t])))))),(.agg [(.int .i64 (PV.asInt (List.getD (PV.cells (enc y9)) 0 default))),(.sl 1 (PV.asT (List.getD (PV.cells (enc y9)) (0+1) default)) (PV.asXs (List.getD (PV.cells (enc y9)) (0+1) default))),(.int .i64 (PV.asInt (List.getD (PV.cells (enc y9)) (0+1+1) default))),(.sl 2 (PV.asT (List.getD (PV.cells (enc y9)) (0+1+1+1) default)) (PV.asXs (List.getD (PV.cells (enc y9)) (0+1+1+1) default))),(.sl 5 (PV.asT (List.getD (PV.cells (enc y9)) (0+1+1+1+1) default)) (PV.asXs (List.getD (PV.cells (enc y9)) (0+1+1+1+1) default)))])])=AV.pv (enc y10)∧(G ((.bool y10)))))))))else(G ((.bool false))))))))))else(G ((.bool false))))))))else(G ((.bool false)))))):Zf (a5v N) 0 (Ze FQ G) SQ [] (Yp 98 [enc fs,.agg [enc k,enc m,enc l.k,enc l.t,enc ks]]):=Zf.tp (.lit (.ask (.req (.keep (.req (.abs (Bool) (fun YY=>AV.pv (enc YY)) (.ask (.lit (.lit (.lit (.lit (.lit (.lit (.ask (.lit (.lit (.lit (.nil)))) (.lit (.lit (.nil)))))))))) (.lit (.lit (.lit (.lit (.lit (.lit (.lit (.lit (.nil)))))))))))))) (.lit (.ask (.req (.abs (Bool) (fun YY=>AV.pv (enc YY)) (.ask (.nil) (.req (.abs (Lin×Int) (fun YY=>AV.pv (enc YY)) (.lit (.ask (.lit (.lit (.req (.keep (.lit (.lit (.lit (.req (.abs (Cert) (fun YY=>AV.pv (PV.rptr (PV.cells ((enc) YY)))) (.lit (.req (.lit (.req (.req (.abs (Bool) (fun YY=>AV.pv (enc YY)) (.lit (.nil))))))))))))))))) (.lit (.lit (.lit (.lit (.lit (.lit (.lit (.lit (.nil)))))))))))))))) (.lit (.ask (.req (.abs (Bool) (fun YY=>AV.pv (enc YY)) (.ask (.nil) (.req (.abs (Lin×Int) (fun YY=>AV.pv (enc YY)) (.lit (.ask (.lit (.lit (.lit (.req (.keep (.lit (.lit (.lit (.req (.abs (Cert) (fun YY=>AV.pv (PV.rptr (PV.cells ((enc) YY)))) (.lit (.req (.lit (.req (.req (.abs (Bool) (fun YY=>AV.pv (enc YY)) (.lit (.ask (.lit (.lit (.req (.keep (.lit (.lit (.lit (.req (.abs (Cert) (fun YY=>AV.pv (PV.rptr (PV.cells ((enc) YY)))) (.lit (.req (.lit (.req (.req (.abs (Bool) (fun YY=>AV.pv (enc YY)) (.lit (.nil))))))))))))))))) (.lit (.lit (.lit (.lit (.lit (.lit (.lit (.lit (.nil))))))))))))))))))))))))))) (.lit (.lit (.lit (.lit (.lit (.lit (.lit (.lit (.lit (.lit (.lit (.lit (.lit (.lit (.lit (.lit (.lit (.lit (.nil)))))))))))))))))))))))))) (.nil))))))) h (by kernel_rfl)
noncomputable def Lc:IC:=SQ
def L6:List IRes:=[(.tmp 4)]
abbrev d0z:Nat:=98
def a5b(N:Nat):ZI:=YN [(57,.pure (preT (fun x:List Fact×Cert×Unit=>Zt x.1&&ZT x.1&&Kh x.2.1&&decide (x.1.length+ZL x.2.1<=300)&&decide (ZL x.2.1<N))) (Zk (fun x:List Fact×Cert×Unit=>Xq x.1 x.2.1))),(98,.own XF JU),(53,.own WK Qj),(99,.pure (preT (fun _:Cert×Int×Bool×Unit=>true)) (Zk (fun x:Cert×Int×Bool×Unit=>Y0 x.1 x.2.1 x.2.2.1))),(24,.pure (preT (fun x:List Fact×List Int×Unit=>Zt x.1&&decide (x.1.length<=300))) (Zk (fun x:List Fact×List Int×Unit=>Y3 x.1 x.2.1))),(100,.pure (preT (fun x:Lin×Unit=>ZG x.1)) (Zk (fun x:Lin×Unit=>Vn x.1)))]
theorem d6c{G:PV->Prop}(N:Nat)(fs:List Fact)(k:Int)(m:List Int)(l:Lin)(ks:List Cert)(h:if (k==1)=true then(WK [(.pv (.sl 3 false (List.map enc fs))),(.pv (.sl 1 false (List.map enc m)))] [])=true∧((Go.Pl.preT (fun(x:Cert×Int×Bool×Unit)=>true) [(.agg [(.int .i64 k),(.sl 1 false (List.map enc m)),(.int .i64 l.k),(.sl 2 false (List.map enc l.t)),(.sl 5 false (List.map enc ks))]),(.int .i64 0),(.bool true)])=true∧(∃ y0:Bool,AV.pv (Zk (fun(x:Cert×Int×Bool×Unit)=>Y0 x.1 x.2.1 x.2.2.1) [(.agg [(.int .i64 k),(.sl 1 false (List.map enc m)),(.int .i64 l.k),(.sl 2 false (List.map enc l.t)),(.sl 5 false (List.map enc ks))]),(.int .i64 0),(.bool true)])=AV.pv (enc y0)∧(if (y0)=true then G ((.bool false))else(G ((.bool false))))))else(if (k==2)=true then(Go.Pl.preT (fun(x:Cert×Int×Bool×Unit)=>true) [(.agg [(.int .i64 k),(.sl 1 false (List.map enc m)),(.int .i64 l.k),(.sl 2 false (List.map enc l.t)),(.sl 5 false (List.map enc ks))]),(.int .i64 1),(.bool true)])=true∧(∃ y1:Bool,AV.pv (Zk (fun(x:Cert×Int×Bool×Unit)=>Y0 x.1 x.2.1 x.2.2.1) [(.agg [(.int .i64 k),(.sl 1 false (List.map enc m)),(.int .i64 l.k),(.sl 2 false (List.map enc l.t)),(.sl 5 false (List.map enc ks))]),(.int .i64 1),(.bool true)])=AV.pv (enc y1)∧(if (!y1)=true then G ((.bool false))else((Go.Pl.preT (fun(x:List Fact×List Int×Unit)=>Zt x.1&&decide (List.length x.1<=300)) [(.sl 3 false (List.map enc fs)),(.sl 1 false (List.map enc m))])=true∧(∃ y2:Lin×Int,AV.pv (Zk (fun(x:List Fact×List Int×Unit)=>Y3 x.1 x.2.1) [(.sl 3 false (List.map enc fs)),(.sl 1 false (List.map enc m))])=AV.pv (enc y2)∧(if (y2.2==0)=true then(XF [(.pv (.agg [(.int .i64 y2.1.k),(.sl 2 false (List.map enc y2.1.t))])),(.ptr 0 0)] [(.box [(.pv (.sl 3 false (List.map enc fs)))])])=true∧((decide (0<=0)&&decide (Int.toNat 0<List.length (List.map enc ks))&&Enc.sz Cert==5)=true∧(∃ y3:Cert,AV.pv (PV.rptr (PV.cells (List.getD (List.map enc ks) (Int.toNat 0) default)))=AV.pv (PV.rptr (PV.cells ((enc) y3)))∧((decide (0+List.length [Sh.int .i64,Sh.sl 1,Sh.int .i64,Sh.sl 2,Sh.sl 5]<=List.length (PV.cells (enc y3)))&&Xu (PV.cells (enc y3)) 0 [Sh.int .i64,Sh.sl 1,Sh.int .i64,Sh.sl 2,Sh.sl 5])=true∧((List.length (List.map enc (Yd (enc fs) (PV.agg [enc y2.1.k,enc y2.1.t])))==List.length (Yd (enc fs) (PV.agg [enc y2.1.k,enc y2.1.t])))=true∧((Go.Pl.preT (fun(x:List Fact×Cert×Unit)=>Zt x.1&&ZT x.1&&Kh x.2.1&&decide (List.length x.1+ZL x.2.1<=300)&&decide (ZL x.2.1<N)) [(.sl 3 false (List.drop 0 (List.take (List.length (Yd (enc fs) (PV.agg [enc y2.1.k,enc y2.1.t]))) (List.map enc (Yd (enc fs) (PV.agg [enc y2.1.k,enc y2.1.t])))))),(.agg [(.int .i64 (PV.asInt (List.getD (PV.cells (enc y3)) 0 default))),(.sl 1 (PV.asT (List.getD (PV.cells (enc y3)) (0+1) default)) (PV.asXs (List.getD (PV.cells (enc y3)) (0+1) default))),(.int .i64 (PV.asInt (List.getD (PV.cells (enc y3)) (0+1+1) default))),(.sl 2 (PV.asT (List.getD (PV.cells (enc y3)) (0+1+1+1) default)) (PV.asXs (List.getD (PV.cells (enc y3)) (0+1+1+1) default))),(.sl 5 (PV.asT (List.getD (PV.cells (enc y3)) (0+1+1+1+1) default)) (PV.asXs (List.getD (PV.cells (enc y3)) (0+1+1+1+1) default)))])])=true∧(∃ y4:Bool,AV.pv (Zk (fun(x:List Fact×Cert×Unit)=>Xq x.1 x.2.1) [(.sl 3 false (List.drop 0 (List.take (List.length (Yd (enc fs) (PV.agg [enc y2.1.k,enc y2.1.t]))) (List.map enc (Yd (enc fs) (PV.agg [enc y2.1.k,enc y2.1.t])))))),(.agg [(.int .i64 (PV.asInt (List.getD (PV.cells (enc y3)) 0 default))),(.sl 1 (PV.asT (List.getD (PV.cells (enc y3)) (0+1) default)) (PV.asXs (List.getD (PV.cells (enc y3)) (0+1) default))),(.int .i64 (PV.asInt (List.getD (PV.cells (enc y3)) (0+1+1) default))),(.sl 2 (PV.asT (List.getD (PV.cells (enc y3)) (0+1+1+1) default)) (PV.asXs (List.getD (PV.cells (enc y3)) (0+1+1+1) default))),(.sl 5 (PV.asT (List.getD (PV.cells (enc y3)) (0+1+1+1+1) default)) (PV.asXs (List.getD (PV.cells (enc y3)) (0+1+1+1+1) default)))])])=AV.pv (enc y4)∧(G ((.bool y4)))))))))else(G ((.bool false))))))))else(if (k==3)=true then(Go.Pl.preT (fun(x:Cert×Int×Bool×Unit)=>true) [(.agg [(.int .i64 k),(.sl 1 false (List.map enc m)),(.int .i64 l.k),(.sl 2 false (List.map enc l.t)),(.sl 5 false (List.map enc ks))]),(.int .i64 2),(.bool false)])=true∧(∃ y5:Bool,AV.pv (Zk (fun(x:Cert×Int×Bool×Unit)=>Y0 x.1 x.2.1 x.2.2.1) [(.agg [(.int .i64 k),(.sl 1 false (List.map enc m)),(.int .i64 l.k),(.sl 2 false (List.map enc l.t)),(.sl 5 false (List.map enc ks))]),(.int .i64 2),(.bool false)])=AV.pv (enc y5)∧(if (!y5)=true then G ((.bool false))else((Go.Pl.preT (fun(x:Lin×Unit)=>ZG x.1) [(.agg [(.int .i64 l.k),(.sl 2 false (List.map enc l.t))])])=true∧(∃ y6:Lin×Int,AV.pv (Zk (fun(x:Lin×Unit)=>Vn x.1) [(.agg [(.int .i64 l.k),(.sl 2 false (List.map enc l.t))])])=AV.pv (enc y6)∧(if (y6.2==0)=true then(XF [(.pv (.agg [(.int .i64 l.k),(.sl 2 false (List.map enc l.t))])),(.ptr 0 0)] [(.box [(.pv (.sl 3 false (List.map enc fs)))])])=true∧((decide (0<=0)&&decide (Int.toNat 0<List.length (List.map enc ks))&&Enc.sz Cert==5)=true∧(∃ y7:Cert,AV.pv (PV.rptr (PV.cells (List.getD (List.map enc ks) (Int.toNat 0) default)))=AV.pv (PV.rptr (PV.cells ((enc) y7)))∧((decide (0+List.length [Sh.int .i64,Sh.sl 1,Sh.int .i64,Sh.sl 2,Sh.sl 5]<=List.length (PV.cells (enc y7)))&&Xu (PV.cells (enc y7)) 0 [Sh.int .i64,Sh.sl 1,Sh.int .i64,Sh.sl 2,Sh.sl 5])=true∧((List.length (List.map enc (Yd (enc fs) (PV.agg [enc l.k,enc l.t])))==List.length (Yd (enc fs) (PV.agg [enc l.k,enc l.t])))=true∧((Go.Pl.preT (fun(x:List Fact×Cert×Unit)=>Zt x.1&&ZT x.1&&Kh x.2.1&&decide (List.length x.1+ZL x.2.1<=300)&&decide (ZL x.2.1<N)) [(.sl 3 false (List.drop 0 (List.take (List.length (Yd (enc fs) (PV.agg [enc l.k,enc l.t]))) (List.map enc (Yd (enc fs) (PV.agg [enc l.k,enc l.t])))))),(.agg [(.int .i64 (PV.asInt (List.getD (PV.cells (enc y7)) 0 default))),(.sl 1 (PV.asT (List.getD (PV.cells (enc y7)) (0+1) default)) (PV.asXs (List.getD (PV.cells (enc y7)) (0+1) default))),(.int .i64 (PV.asInt (List.getD (PV.cells (enc y7)) (0+1+1) default))),(.sl 2 (PV.asT (List.getD (PV.cells (enc y7)) (0+1+1+1) default)) (PV.asXs (List.getD (PV.cells (enc y7)) (0+1+1+1) default))),(.sl 5 (PV.asT (List.getD (PV.cells (enc y7)) (0+1+1+1+1) default)) (PV.asXs (List.getD (PV.cells (enc y7)) (0+1+1+1+1) default)))])])=true∧(∃ y8:Bool,AV.pv (Zk (fun(x:List Fact×Cert×Unit)=>Xq x.1 x.2.1) [(.sl 3 false (List.drop 0 (List.take (List.length (Yd (enc fs) (PV.agg [enc l.k,enc l.t]))) (List.map enc (Yd (enc fs) (PV.agg [enc l.k,enc l.t])))))),(.agg [(.int .i64 (PV.asInt (List.getD (PV.cells (enc y7)) 0 default))),(.sl 1 (PV.asT (List.getD (PV.cells (enc y7)) (0+1) default)) (PV.asXs (List.getD (PV.cells (enc y7)) (0+1) default))),(.int .i64 (PV.asInt (List.getD (PV.cells (enc y7)) (0+1+1) default))),(.sl 2 (PV.asT (List.getD (PV.cells (enc y7)) (0+1+1+1) default)) (PV.asXs (List.getD (PV.cells (enc y7)) (0+1+1+1) default))),(.sl 5 (PV.asT (List.getD (PV.cells (enc y7)) (0+1+1+1+1) default)) (PV.asXs (List.getD (PV.cells (enc y7)) (0+1+1+1+1) default)))])])=AV.pv (enc y8)∧(if (y8)=true then(XF [(.pv (.agg [(.int .i64 y6.1.k),(.sl 2 false (List.map enc y6.1.t))])),(.ptr 0 0)] [(.box [(.pv (.sl 3 false (List.map enc fs)))])])=true∧((decide (0<=1)&&decide (Int.toNat 1<List.length (List.map enc ks))&&Enc.sz Cert==5)=true∧(∃ y9:Cert,AV.pv (PV.rptr (PV.cells (List.getD (List.map enc ks) (Int.toNat 1) default)))=AV.pv (PV.rptr (PV.cells ((enc) y9)))∧((decide (0+List.length [Sh.int .i64,Sh.sl 1,Sh.int .i64,Sh.sl 2,Sh.sl 5]<=List.length (PV.cells (enc y9)))&&Xu (PV.cells (enc y9)) 0 [Sh.int .i64,Sh.sl 1,Sh.int .i64,Sh.sl 2,Sh.sl 5])=true∧((List.length (List.map enc (Yd (enc fs) (PV.agg [enc y6.1.k,enc y6.1.t])))==List.length (Yd (enc fs) (PV.agg [enc y6.1.k,enc y6.1.t])))=true∧((Go.Pl.preT (fun(x:List Fact×Cert×Unit)=>Zt x.1&&ZT x.1&&Kh x.2.1&&decide (List.length x.1+ZL x.2.1<=300)&&decide (ZL x.2.1<N)) [(.sl 3 false (List.drop 0 (List.take (List.length (Yd (enc fs) (PV.agg [enc y6.1.k,enc y6.1.t]))) (List.map enc (Yd (enc fs) (PV.agg [enc y6.1.k,enc y6.1.t])))))),(.agg [(.int .i64 (PV.asInt (List.getD (PV.cells (enc y9)) 0 default))),(.sl 1 (PV.asT (List.getD (PV.cells (enc y9)) (0+1) default)) (PV.asXs (List.getD (PV.cells (enc y9)) (0+1) default))),(.int .i64 (PV.asInt (List.getD (PV.cells (enc y9)) (0+1+1) default))),(.sl 2 (PV.asT (List.getD (PV.cells (enc y9)) (0+1+1+1) default)) (PV.asXs (List.getD (PV.cells (enc y9)) (0+1+1+1) default))),(.sl 5 (PV.asT (List.getD (PV.cells (enc y9)) (0+1+1+1+1) default)) (PV.asXs (List.getD (PV.cells (enc y9)) (0+1+1+1+1) default)))])])=true∧(∃ y10:Bool,AV.pv (Zk (fun(x:List Fact×Cert×Unit)=>Xq x.1 x.2.1) [(.sl 3 false (List.drop 0 (List.take (List.length (Yd (enc fs) (PV.agg [enc y6.1.k,enc y6.1.t]))) (List.map enc (Yd (enc fs) (PV.agg [enc y6.1.k,enc y6.1.t])))))),(.agg [(.int .i64 (PV.asInt (List.getD (PV.cells (enc y9)) 0 default))),(.sl 1 (PV.asT (List.getD (PV.cells (enc y9)) (0+1) default)) (PV.asXs (List.getD (PV.cells (enc y9)) (0+1) default))),(.int .i64 (PV.asInt (List.getD (PV.cells (enc y9)) (0+1+1) default))),(.sl 2 (PV.asT (List.getD (PV.cells (enc y9)) (0+1+1+1) default)) (PV.asXs (List.getD (PV.cells (enc y9)) (0+1+1+1) default))),(.sl 5 (PV.asT (List.getD (PV.cells (enc y9)) (0+1+1+1+1) default)) (PV.asXs (List.getD (PV.cells (enc y9)) (0+1+1+1+1) default)))])])=AV.pv (enc y10)∧(G ((.bool y10)))))))))else(G ((.bool false))))))))))else(G ((.bool false))))))))else(G ((.bool false)))))):Zf (a5b N) 0 (Ze L6 G) Lc [] (Yp 98 [enc fs,.agg [enc k,enc m,enc l.k,enc l.t,enc ks]]):=Zf.tp (.lit (.ask (.req (.keep (.req (.abs (Bool) (fun YY=>AV.pv (enc YY)) (.ask (.lit (.lit (.lit (.lit (.lit (.lit (.lit (.lit (.nil))))))))) (.lit (.lit (.lit (.lit (.lit (.lit (.lit (.lit (.nil)))))))))))))) (.lit (.ask (.req (.abs (Bool) (fun YY=>AV.pv (enc YY)) (.ask (.nil) (.req (.abs (Lin×Int) (fun YY=>AV.pv (enc YY)) (.lit (.ask (.lit (.lit (.req (.keep (.lit (.lit (.lit (.req (.abs (Cert) (fun YY=>AV.pv (PV.rptr (PV.cells ((enc) YY)))) (.lit (.req (.lit (.req (.req (.abs (Bool) (fun YY=>AV.pv (enc YY)) (.lit (.nil))))))))))))))))) (.lit (.lit (.lit (.lit (.lit (.lit (.lit (.lit (.nil)))))))))))))))) (.lit (.ask (.req (.abs (Bool) (fun YY=>AV.pv (enc YY)) (.ask (.nil) (.req (.abs (Lin×Int) (fun YY=>AV.pv (enc YY)) (.lit (.ask (.lit (.lit (.lit (.req (.keep (.lit (.lit (.lit (.req (.abs (Cert) (fun YY=>AV.pv (PV.rptr (PV.cells ((enc) YY)))) (.lit (.req (.lit (.req (.req (.abs (Bool) (fun YY=>AV.pv (enc YY)) (.lit (.ask (.lit (.lit (.req (.keep (.lit (.lit (.lit (.req (.abs (Cert) (fun YY=>AV.pv (PV.rptr (PV.cells ((enc) YY)))) (.lit (.req (.lit (.req (.req (.abs (Bool) (fun YY=>AV.pv (enc YY)) (.lit (.nil))))))))))))))))) (.lit (.lit (.lit (.lit (.lit (.lit (.lit (.lit (.nil))))))))))))))))))))))))))) (.lit (.lit (.lit (.lit (.lit (.lit (.lit (.lit (.lit (.lit (.lit (.lit (.lit (.lit (.lit (.lit (.lit (.lit (.nil)))))))))))))))))))))))))) (.nil))))))) h (by kernel_rfl)
noncomputable def RF:IC:=Xp Proofs.Tryz.f25
def R6:List IRes:=[(.tmp 4)]
abbrev c6v:Nat:=23
def Fs:ZI:=YN [(28,.pure (preT (fun x:List Fact×Unit=>Zt x.1)) (Zk (fun x:List Fact×Unit=>ZT x.1))),(26,.pure (preT (fun x:Cert×Unit=>Y8 x.1)) (Zk (fun x:Cert×Unit=>Yj x.1))),(57,.pure (preT (fun x:List Fact×Cert×Unit=>Zt x.1&&ZT x.1&&Kh x.2.1&&decide (x.1.length+ZL x.2.1<=300))) (Zk (fun x:List Fact×Cert×Unit=>Xq x.1 x.2.1)))]
theorem c9d{G:PV->Prop}(fs:List Fact)(k:Int)(m:List Int)(l:Lin)(ks:List Cert)(h:(Go.Pl.preT (fun(x:List Fact×Unit)=>Zt x.1) [(.sl 3 false (List.map enc fs))])=true∧(∃ y0:Bool,AV.pv (Zk (fun(x:List Fact×Unit)=>ZT x.1) [(.sl 3 false (List.map enc fs))])=AV.pv (enc y0)∧(if (!y0)=true then G ((.int .i64 1))else(if (decide ((↑(List.length (List.map enc fs)):Int)>100))=true then G ((.int .i64 3))else((Go.Pl.preT (fun(x:Cert×Unit)=>Y8 x.1) [(.agg [(.int .i64 k),(.sl 1 false (List.map enc m)),(.int .i64 l.k),(.sl 2 false (List.map enc l.t)),(.sl 5 false (List.map enc ks))])])=true∧(∃ y1:Int,AV.pv (Zk (fun(x:Cert×Unit)=>Yj x.1) [(.agg [(.int .i64 k),(.sl 1 false (List.map enc m)),(.int .i64 l.k),(.sl 2 false (List.map enc l.t)),(.sl 5 false (List.map enc ks))])])=AV.pv (enc y1)∧(if (decide (y1>1000))=true then G ((.int .i64 3))else((Go.Pl.preT (fun(x:List Fact×Cert×Unit)=>Zt x.1&&ZT x.1&&Kh x.2.1&&decide (List.length x.1+ZL x.2.1<=300)) [(.sl 3 false (List.map enc fs)),(.agg [(.int .i64 k),(.sl 1 false (List.map enc m)),(.int .i64 l.k),(.sl 2 false (List.map enc l.t)),(.sl 5 false (List.map enc ks))])])=true∧(∃ y2:Bool,AV.pv (Zk (fun(x:List Fact×Cert×Unit)=>Xq x.1 x.2.1) [(.sl 3 false (List.map enc fs)),(.agg [(.int .i64 k),(.sl 1 false (List.map enc m)),(.int .i64 l.k),(.sl 2 false (List.map enc l.t)),(.sl 5 false (List.map enc ks))])])=AV.pv (enc y2)∧(if (!y2)=true then G ((.int .i64 18))else(G ((.int .i64 0))))))))))))):Zf Fs 0 (Ze R6 G) RF [] (Yp 23 [enc fs,.agg [enc k,enc m,enc l.k,enc l.t,enc ks]]):=Zf.tp (.req (.abs (Bool) (fun YY=>AV.pv (enc YY)) (.ask (.nil) (.lit (.ask (.lit (.lit (.lit (.lit (.nil))))) (.lit (.req (.abs (Int) (fun YY=>AV.pv (enc YY)) (.lit (.lit (.lit (.ask (.nil) (.req (.abs (Bool) (fun YY=>AV.pv (enc YY)) (.ask (.nil) (.nil)))))))))))))))) h (by kernel_rfl)
end Go.Pl
namespace Go.Pl
open Go.RowKit
open Enc (enc dec is)
open EncL (encL decL isL)
theorem d0c(k:Int){a b:Lin}(ha:Zm a=true)(hb:Zm b=true):b0k (WW k b.t (WW 1 a.t []))=true:=by
 have h1:=Qm ha
 have h2:=Qm hb
 have h3:=CQ k b.t (WW 1 a.t [])
 have h4:=CQ 1 a.t []
 simp only[b0k,Bool.and_eq_true,decide_eq_true_eq,List.all_eq_true]
 have hz:([]:List (Str×Int)).length=0:=rfl
 refine⟨by omega,fun x hx=> ?_⟩
 rcases Hw _ _ _ _ hx with hx|⟨t,ht,rfl⟩
 ·rcases Hw _ _ _ _ hx with hx|⟨t,ht,rfl⟩
  ·cases hx
  ·have:=Cy (Ja ha ht).1;omega
 ·have:=Cy (Ja hb ht).1;omega
theorem a6n(a:Lin):(dec (PV.agg [enc a.k,enc a.t]):Lin)=a:=Enc.dec_enc a
theorem a0n: ∀ a:Lin×Lin×Int×Unit,(ZG a.1&&ZG a.2.1)=true->Zf Aa 0 (Ze GK (ZB (YI a.1 a.2.1 a.2.2.1))) Dk [] (Yp a6f (encL a)):=by
 rintro⟨a,b,k,⟨⟩⟩ h
 simp only[Bool.and_eq_true]at h
 refine b1s a b k ⟨Zo (a,()) rfl h.1,Zq (a,()) rfl (WV (fun ha=> ?_) fun ha=>⟨Zo (b,()) rfl h.2,Zq (b,()) rfl (WV (fun hb=> ?_) fun hb=> ?_)⟩)⟩
 ·have ha:Zm a=false:=ha
  simp only[YI,ha]
  exact⟨rfl,rfl⟩
 ·have ha:Zm a=true:=ha
  have hb:Zm b=false:=hb
  simp only[YI,ha,hb]
  exact⟨rfl,rfl⟩
 have ha:Zm a=true:=ha
 have hb:Zm b=true:=hb
 have h1:=Qm ha
 have h2:=Qm hb
 have e0:U2 []=[]:=rfl
 simp only[a6n,Kz,e0]
 have c1:QV Lin (PV.agg [PV.int .i64 a.k,PV.sl 2 false (List.map enc a.t)])=true:=YD a
 have c2:QV Lin (PV.agg [PV.int .i64 b.k,PV.sl 2 false (List.map enc b.t)])=true:=YD b
 have d1:(dec (PV.agg [PV.int .i64 a.k,PV.sl 2 false (List.map enc a.t)]):Lin)=a:=Enc.dec_enc a
 have d2:(dec (PV.agg [PV.int .i64 b.k,PV.sl 2 false (List.map enc b.t)]):Lin)=b:=Enc.dec_enc b
 refine⟨?_,?_,?_,?_⟩
 ·simp only[QP,c1,d1]
  simp[a6w];omega
 ·simp only[QP,c2,d2,E5]
  simp;omega
 ·simp only[Ws,E5,Kz,d0c k ha hb]
  rfl
 ·simp only[YI,ha,hb,if_true]
  exact YC rfl
theorem b6w: ∀ a:Lin×Lin×Unit,(ZG a.1&&ZG a.2.1)=true->Zf OM 0 (Ze TM (ZB (YI a.1 a.2.1 1))) Rx [] (Yp c2o (encL a)):=by
 rintro⟨a,b,⟨⟩⟩ h
 exact d2o a b ⟨Zo (a,b,1,()) rfl h,Zq (a,b,1,()) rfl (YC rfl)⟩
theorem b9x(k:Int):(if true=true then if (if false=true then if 1000001>k then 1000001 else k else if 1000001<k then 1000001 else k)>(-1000001:Int)then if false=true then if 1000001>k then 1000001 else k else if 1000001<k then 1000001 else k else(-1000001:Int)else if (if false=true then if 1000001>k then 1000001 else k else if 1000001<k then 1000001 else k)<(-1000001:Int)then if false=true then if 1000001>k then 1000001 else k else if 1000001<k then 1000001 else k else(-1000001:Int))=max (-1000001) (min k 1000001):=by
 simp only[if_true,Bool.false_eq_true,if_false]
 by_cases h1:(1000001:Int)<k
 ·rw[if_pos h1,if_pos (by omega)];omega
 ·rw[if_neg h1]
  by_cases h2:k > -1000001
  ·rw[if_pos h2];omega
  ·rw[if_neg h2];omega
theorem a5n: ∀ a:Lin×Int×Unit,ZG a.1=true->Zf Rz 0 (Ze BB (ZB (VO a.1 a.2.1))) BZ [] (Yp b6i (encL a)):=by
 rintro⟨a,k,⟨⟩⟩ h
 have h:ZG a=true:=h
 refine c3i a k ?_
 rw[b9x]
 have hz:ZG ⟨0,[]⟩=true:=rfl
 have ez:(PV.agg [PV.int .i64 0,PV.sl 0 true []])=PV.agg [PV.int .i64 0,PV.sl 0 true []]:=rfl
 refine⟨Ox (a:=((⟨0,[]⟩:Lin),a,max (-1000001) (min k 1000001),())) ?_ ?_ (by show(ZG _&&ZG a)=true;rw[h,hz];rfl),Kr ((⟨0,[]⟩:Lin),a,max (-1000001) (min k 1000001),()) ?_ (YC rfl)⟩
 ·simp;exact .inr rfl
 ·exact congrArg (fun x=>((⟨0,[]⟩:Lin),x,max (-1000001) (min k 1000001),())) (Enc.dec_enc a)
 ·exact congrArg (fun x=>((⟨0,[]⟩:Lin),x,max (-1000001) (min k 1000001),())) (Enc.dec_enc a)
theorem a4v: ∀ a:Lin×Unit,ZG a.1=true->Zf PG 0 (Ze Ah (ZB (Vn a.1))) Bi [] (Yp b7n (encL a)):=by
 rintro⟨g,⟨⟩⟩ h
 refine b9i g ⟨Zo (g,-1,()) rfl h,Zq (g,-1,()) rfl (e1r (fun h1=> ?_) fun h1=> ?_)⟩
 ·have h1:(VO g (-1)).2≠0:=by simpa using h1
  simp only[Vn,if_neg h1]
  exact⟨rfl,rfl⟩
 ·have h1:(VO g (-1)).2=0:=by simpa using h1
  have hv:=(G6 h1).2.2
  refine Zq ((-1:Int),()) rfl ⟨Zo ((VO g (-1)).1,⟨-1,[]⟩,()) rfl ?_,Zq ((VO g (-1)).1,⟨-1,[]⟩,()) rfl (YC ?_)⟩
  ·show(ZG (VO g (-1)).1&&ZG ⟨-1,[]⟩)=true
   rw[show ZG (VO g (-1)).1=true from a2p hv];rfl
  ·simp only[Vn,if_pos h1]
theorem MM(fs:List Fact)(l:Lin):Yd (enc fs) (enc l)=Yv fs l:=by unfold Yd;rw[Enc.dec_enc,Enc.dec_enc]
theorem Qk(fs:List Fact)(l:Lin):Yd (enc fs) (PV.agg [enc l.k,enc l.t])=Yv fs l:=MM fs l
theorem b8k: ∀ args os,XF args os=true->Zf a5p os.length (Zj os.length FN fun r=>r=JU args os) OC [] (ZN c8f args os):=by
 intro args os h
 unfold XF at h
 split at h
 ·rename_i l fs
  simp only[Bool.and_eq_true,decide_eq_true_eq]at h
  obtain⟨⟨hl,hf⟩,h1⟩:=h
  obtain⟨l,rfl⟩:=XX hl
  obtain⟨fs,rfl⟩:=XX hf
  rw[Enc.dec_enc]at h1
  have ev:JU [.pv (enc l),.ptr 0 0] [.box [.pv (enc fs)]]=c4o (enc fs) (enc l):=rfl
  rw[ev]
  have e1:List.drop 0 (List.take (Int.toNat (fs.length:Int)) (List.map (enc:Fact->PV) fs))=fs.map enc:=by rw[List.drop_zero];exact List.take_of_length_le (by simp)
  have e2:List.drop 0 (List.take 1 [PV.agg [PV.bool false,enc l.k,enc l.t]])=[enc (⟨false,l⟩:Fact)]:=rfl
  refine d6h l fs ?_
  simp only[List.length_map,e1,e2]
  refine⟨by simp[Enc.sz],by simp,by simp[Enc.sz];omega,?_⟩
  simp only[c4o,MM,Yv,List.length_append,List.length_map,List.map_append]
  rfl
 ·cases h
theorem K3(c:Cert):PV.agg [.int .i64 (PV.asInt (List.getD (PV.cells (enc c)) 0 default)),.sl 1 (PV.asT (List.getD (PV.cells (enc c)) (0+1) default)) (PV.asXs (List.getD (PV.cells (enc c)) (0+1) default)),.int .i64 (PV.asInt (List.getD (PV.cells (enc c)) (0+1+1) default)),.sl 2 (PV.asT (List.getD (PV.cells (enc c)) (0+1+1+1) default)) (PV.asXs (List.getD (PV.cells (enc c)) (0+1+1+1) default)),.sl 5 (PV.asT (List.getD (PV.cells (enc c)) (0+1+1+1+1) default)) (PV.asXs (List.getD (PV.cells (enc c)) (0+1+1+1+1) default))]=enc c:=by
 obtain⟨k,m,l,ks⟩:=c
 rw[ZO]
 rfl
theorem UM(c:Cert):(decide (0+List.length [Sh.int .i64,Sh.sl 1,Sh.int .i64,Sh.sl 2,Sh.sl 5]<=List.length (PV.cells (enc c)))&&Xu (PV.cells (enc c)) 0 [Sh.int .i64,Sh.sl 1,Sh.int .i64,Sh.sl 2,Sh.sl 5])=true:=by
 obtain⟨k,m,l,ks⟩:=c
 rw[ZO]
 rfl
def OT(x:List Fact×Cert×Unit):Bool:=Zt x.1&&ZT x.1&&Kh x.2.1&&decide (x.1.length+ZL x.2.1<=300)
theorem c4q{fs:List Fact}(hv:ZT fs=true)(hn:fs.length<=1000):Zt fs=true:=by
 simp only[Zt,Bool.and_eq_true,decide_eq_true_eq,List.all_eq_true]
 simp only[ZT,List.all_eq_true]at hv
 exact⟨by omega,fun f hf=>a2p (hv f hf)⟩
theorem Hr{N:Nat}{fs:List Fact}{l:Lin}{c:Cert}(hv:ZT fs=true)(hl:Zm l=true)(hc:Kh c=true)(hn:fs.length+1+ZL c<=300)(hN:ZL c<N):(Zt (Yv fs l)&&ZT (Yv fs l)&&Kh c&&decide ((Yv fs l).length+ZL c<=300)&&decide (ZL c<N))=true:=by
 have h1:ZT (Yv fs l)=true:=by simp only[ZT,Yv,List.all_append,List.all_cons,List.all_nil,hl,Bool.and_true,Bool.and_self];exact hv
 have h2:(Yv fs l).length=fs.length+1:=by simp[Yv]
 rw[c4q h1 (by omega),h1,hc,h2,decide_eq_true hn,decide_eq_true hN]
 rfl
theorem Qs{c:Cert}: ∀ {cs:List Cert},Af cs=true->c∈cs->Kh c=true
 | d::cs,hc,h=>by
  simp only[Af,Bool.and_eq_true]at hc
  rcases List.mem_cons.1 h with rfl|h
  ·exact hc.1
  ·exact Qs hc.2 h
theorem Cz{k:Int}{m:List Int}{l:Lin}{ks:List Cert}{n:Int}{b:Bool}(h:Y0 (.mk k m l ks) n b=true):(ks.length:Int)=n:=by
 simp only[Y0,Bool.and_eq_true,decide_eq_true_eq]at h
 exact h.1
theorem c6h{α:Type}: ∀ {ks:List α},(ks.length:Int)=2-> ∃ a b,ks=[a,b]
 | [a,b],_=>⟨a,b,rfl⟩
 | [],h=>by simp at h
 | [_],h=>by simp at h
 | _::_::_::ks,h=>by simp at h;omega
theorem DV{fs:List Fact}:PV.sl 3 false (List.drop 0 (List.take fs.length (List.map enc fs)))=enc fs:=by rw[Km];rfl
theorem VD(fs:List Fact)(l:Lin)(h:fs.length<=1000000):XF [.pv (enc l),.ptr 0 0] [.box [.pv (enc fs)]]=true:=by
 simp only[XF,YD,Enc.dec_enc,decide_eq_true h]
 rfl
theorem a2h{fs:List Fact}{m:List Int}(hf:Zt fs=true){b:Bool}(hb:Nc fs m=b):Wm b (enc fs) (enc m)=true:=by
 simp only[Zt,Bool.and_eq_true,decide_eq_true_eq,List.all_eq_true]at hf
 have h2:fs.all (fun f=>Yb f.l)=true:=by
  rw[List.all_eq_true]
  intro f hfm
  have:=hf.2 f hfm
  simp only[ZG,Bool.and_eq_true]at this
  exact this.1
 simp only[Wm,YD,Enc.dec_enc,hb,h2,decide_eq_true hf.1]
 cases b <;> rfl
theorem b4g(fs:List Fact)(m:List Int):KX (enc fs) (enc m)=Xb fs m:=by unfold KX;rw[Enc.dec_enc,Enc.dec_enc]
theorem a2v(N:Nat): ∀ a:List Fact×Cert×Unit,(OT a&&decide (ZL a.2.1<N+1))=true ->
  (Nc a.1 a.2.1.mults=true->Zf (a5v N) 0 (Ze FQ (ZB (Xq a.1 a.2.1))) SQ [] (Yp d0v (encL a)))∧(Nc a.1 a.2.1.mults=false->Zf (a5b N) 0 (Ze L6 (ZB (Xq a.1 a.2.1))) Lc [] (Yp d0z (encL a))):=by
 rintro⟨fs,⟨k,m,l,ks⟩,⟨⟩⟩ h
 simp only[OT,Bool.and_eq_true,decide_eq_true_eq]at h
 obtain⟨⟨⟨⟨hf,hv⟩,hc⟩,hd⟩,hN⟩:=h
 have e:(encL ((fs,Cert.mk k m l ks,()):List Fact×Cert×Unit):List PV)=[enc fs,PV.agg [enc k,enc m,enc l.k,enc l.t,enc ks]]:=by
  show [enc fs,enc (Cert.mk k m l ks)]=_
  rw[ZO]
 rw[e]
 have ebare : ∀ (n:Int) (b:Bool),(encL ((Cert.mk k m l ks,n,b,()):Cert×Int×Bool×Unit):List PV)=[PV.agg [enc k,enc m,enc l.k,enc l.t,enc ks],enc n,enc b]:=by
  intro n b
  show [enc (Cert.mk k m l ks),enc n,enc b]=_
  rw[ZO]
 have hc':=hc
 simp only[Kh,Bool.and_eq_true,decide_eq_true_eq]at hc'
 obtain⟨⟨⟨hc1,hc2⟩,hc3⟩,hc4⟩:=hc'
 have hd':fs.length+ZL (Cert.mk k m l ks)<=300:=hd
 have hN':ZL (Cert.mk k m l ks)<N+1:=hN
 rw[ZL]at hd' hN'
 have hfl:fs.length<=1000000:=by omega
 constructor
 all_goals intro ho
 all_goals have ho:Nc fs m=_:=ho
 ·refine d6j N fs k m l ks (Qe (fun hk=> ?_) fun hk1=>Qe (fun hk=> ?_) fun hk2=>Qe (fun hk=> ?_) fun hk3=>ZY (d5e fs k m l ks hk1 hk2 hk3).symm)
  ·subst hk
   refine⟨a2h hf ho,Zo (.mk 1 m l ks,0,true,()) (ebare 0 true).symm rfl,Zq (.mk 1 m l ks,0,true,()) (ebare 0 true).symm (Ba (fun h1=> ?_) fun h1=> ?_)⟩
   ·have h1:Y0 (.mk 1 m l ks) 0 true=true:=h1
    rw[b4g,N7,h1]
    refine Qe (fun h2=> ?_) fun h2=> ?_
    ·have h2:(Sl (Xb fs m).2)=[]:=by simpa [Zw]using h2
     refine ZY ?_
     simp only[b4m,ho,h2]
     rfl
    ·have h2:(Sl (Xb fs m).2).isEmpty=false:=by simpa [Zw]using h2
     refine ZY ?_
     simp only[b4m,ho,h2]
     rfl
   ·have h1:Y0 (.mk 1 m l ks) 0 true=false:=h1
    refine ZY ?_
    rw[N7,h1]
    rfl
  ·subst hk
   refine⟨Zo (.mk 2 m l ks,1,true,()) (ebare 1 true).symm rfl,Zq (.mk 2 m l ks,1,true,()) (ebare 1 true).symm (WV (fun h1=>ZY (c6m fs m l ks h1).symm) fun h1=> ?_)⟩
   have h1:Y0 (.mk 2 m l ks) 1 true=true:=h1
   obtain⟨c,rfl⟩ : ∃ c,ks=[c]:=List.length_eq_one_iff.1 (by have:=Cz h1;omega)
   rw[a0r,h1]
   have hcc:Kh c=true:=Qs hc4 (by simp)
   simp only[XN]at hd' hN'
   have hnc:fs.length+1+ZL c<=300:=by omega
   have hNc:ZL c<N:=by omega
   refine⟨Zo (fs,m,()) rfl (by show(Zt fs&&decide (fs.length<=300))=true;rw[hf,decide_eq_true (by omega)];rfl),Zq (fs,m,()) rfl (Qe (fun h2=> ?_) fun h2=> ?_)⟩
   ·have h2:(Y3 fs m).2=0:=h2
    refine⟨VD fs (Y3 fs m).1 hfl,rfl,c,rfl,UM c,?_⟩
    have em:Yd (enc fs) (PV.agg [enc (Y3 fs m).1.k,enc (Y3 fs m).1.t])=Yv fs (Y3 fs m).1:=Qk fs _
    simp only[em,DV,K3]
    refine⟨by simp,Zo (Yv fs (Y3 fs m).1,c,()) rfl (Hr hv (Mw h2) hcc hnc hNc),Zq (Yv fs (Y3 fs m).1,c,()) rfl (ZY ?_)⟩
    rw[h2]
    rfl
   ·have h2 : ¬ (Y3 fs m).2=0:=h2
    refine ZY ?_
    rw[decide_eq_false h2]
    rfl
  ·subst hk
   refine⟨Zo (.mk 3 m l ks,2,false,()) (ebare 2 false).symm rfl,Zq (.mk 3 m l ks,2,false,()) (ebare 2 false).symm (WV (fun h1=>ZY (c2a fs m l ks h1).symm) fun h1=> ?_)⟩
   have h1:Y0 (.mk 3 m l ks) 2 false=true:=h1
   obtain⟨a,b,rfl⟩ : ∃ a b,ks=[a,b]:=c6h (Cz h1)
   rw[c0k,h1]
   have hca:Kh a=true:=Qs hc4 (by simp)
   have hcb:Kh b=true:=Qs hc4 (by simp)
   simp only[XN]at hd' hN'
   have hna:fs.length+1+ZL a<=300:=by omega
   have hNa:ZL a<N:=by omega
   have hnb:fs.length+1+ZL b<=300:=by omega
   have hNb:ZL b<N:=by omega
   refine⟨Zo (l,()) rfl hc2,Zq (l,()) rfl (Qe (fun h2=> ?_) fun h2=> ?_)⟩
   ·have h2:(Vn l).2=0:=h2
    have hl:=NJ h2
    refine⟨VD fs l hfl,rfl,a,rfl,UM a,?_⟩
    have em:Yd (enc fs) (PV.agg [enc l.k,enc l.t])=Yv fs l:=Qk fs _
    have em2:Yd (enc fs) (PV.agg [enc (Vn l).1.k,enc (Vn l).1.t])=Yv fs (Vn l).1:=Qk fs _
    simp only[em,em2,DV,K3]
    refine⟨by simp,Zo (Yv fs l,a,()) rfl (Hr hv hl.1 hca hna hNa),Zq (Yv fs l,a,()) rfl (Ba (fun h3=> ?_) fun h3=> ?_)⟩
    ·have h3:Xq (Yv fs l) a=true:=h3
     refine⟨VD fs (Vn l).1 hfl,rfl,b,rfl,UM b,?_⟩
     refine⟨by simp,Zo (Yv fs (Vn l).1,b,()) rfl (Hr hv hl.2 hcb hnb hNb),Zq (Yv fs (Vn l).1,b,()) rfl (ZY ?_)⟩
     rw[h2,h3]
     rfl
    ·have h3:Xq (Yv fs l) a=false:=h3
     refine ZY ?_
     rw[h2,h3]
     rfl
   ·have h2 : ¬ (Vn l).2=0:=h2
    refine ZY ?_
    rw[decide_eq_false h2]
    rfl
 ·refine d6c N fs k m l ks (Qe (fun hk=> ?_) fun hk1=>Qe (fun hk=> ?_) fun hk2=>Qe (fun hk=> ?_) fun hk3=>ZY (d5e fs k m l ks hk1 hk2 hk3).symm)
  ·subst hk
   refine⟨a2h hf ho,Zo (.mk 1 m l ks,0,true,()) (ebare 0 true).symm rfl,Zq (.mk 1 m l ks,0,true,()) (ebare 0 true).symm (Ba (fun h1=> ?_) fun h1=> ?_)⟩
   ·have h1:Y0 (.mk 1 m l ks) 0 true=true:=h1
    rw[N7,h1]
    refine ZY ?_
    simp only[b4m,ho]
    rfl
   ·have h1:Y0 (.mk 1 m l ks) 0 true=false:=h1
    refine ZY ?_
    rw[N7,h1]
    rfl
  ·subst hk
   refine⟨Zo (.mk 2 m l ks,1,true,()) (ebare 1 true).symm rfl,Zq (.mk 2 m l ks,1,true,()) (ebare 1 true).symm (WV (fun h1=>ZY (c6m fs m l ks h1).symm) fun h1=> ?_)⟩
   have h1:Y0 (.mk 2 m l ks) 1 true=true:=h1
   obtain⟨c,rfl⟩ : ∃ c,ks=[c]:=List.length_eq_one_iff.1 (by have:=Cz h1;omega)
   rw[a0r,h1]
   have hcc:Kh c=true:=Qs hc4 (by simp)
   simp only[XN]at hd' hN'
   have hnc:fs.length+1+ZL c<=300:=by omega
   have hNc:ZL c<N:=by omega
   refine⟨Zo (fs,m,()) rfl (by show(Zt fs&&decide (fs.length<=300))=true;rw[hf,decide_eq_true (by omega)];rfl),Zq (fs,m,()) rfl (Qe (fun h2=> ?_) fun h2=> ?_)⟩
   ·have h2:(Y3 fs m).2=0:=h2
    refine⟨VD fs (Y3 fs m).1 hfl,rfl,c,rfl,UM c,?_⟩
    have em:Yd (enc fs) (PV.agg [enc (Y3 fs m).1.k,enc (Y3 fs m).1.t])=Yv fs (Y3 fs m).1:=Qk fs _
    simp only[em,DV,K3]
    refine⟨by simp,Zo (Yv fs (Y3 fs m).1,c,()) rfl (Hr hv (Mw h2) hcc hnc hNc),Zq (Yv fs (Y3 fs m).1,c,()) rfl (ZY ?_)⟩
    rw[h2]
    rfl
   ·have h2 : ¬ (Y3 fs m).2=0:=h2
    refine ZY ?_
    rw[decide_eq_false h2]
    rfl
  ·subst hk
   refine⟨Zo (.mk 3 m l ks,2,false,()) (ebare 2 false).symm rfl,Zq (.mk 3 m l ks,2,false,()) (ebare 2 false).symm (WV (fun h1=>ZY (c2a fs m l ks h1).symm) fun h1=> ?_)⟩
   have h1:Y0 (.mk 3 m l ks) 2 false=true:=h1
   obtain⟨a,b,rfl⟩ : ∃ a b,ks=[a,b]:=c6h (Cz h1)
   rw[c0k,h1]
   have hca:Kh a=true:=Qs hc4 (by simp)
   have hcb:Kh b=true:=Qs hc4 (by simp)
   simp only[XN]at hd' hN'
   have hna:fs.length+1+ZL a<=300:=by omega
   have hNa:ZL a<N:=by omega
   have hnb:fs.length+1+ZL b<=300:=by omega
   have hNb:ZL b<N:=by omega
   refine⟨Zo (l,()) rfl hc2,Zq (l,()) rfl (Qe (fun h2=> ?_) fun h2=> ?_)⟩
   ·have h2:(Vn l).2=0:=h2
    have hl:=NJ h2
    refine⟨VD fs l hfl,rfl,a,rfl,UM a,?_⟩
    have em:Yd (enc fs) (PV.agg [enc l.k,enc l.t])=Yv fs l:=Qk fs _
    have em2:Yd (enc fs) (PV.agg [enc (Vn l).1.k,enc (Vn l).1.t])=Yv fs (Vn l).1:=Qk fs _
    simp only[em,em2,DV,K3]
    refine⟨by simp,Zo (Yv fs l,a,()) rfl (Hr hv hl.1 hca hna hNa),Zq (Yv fs l,a,()) rfl (Ba (fun h3=> ?_) fun h3=> ?_)⟩
    ·have h3:Xq (Yv fs l) a=true:=h3
     refine⟨VD fs (Vn l).1 hfl,rfl,b,rfl,UM b,?_⟩
     refine⟨by simp,Zo (Yv fs (Vn l).1,b,()) rfl (Hr hv hl.2 hcb hnb hNb),Zq (Yv fs (Vn l).1,b,()) rfl (ZY ?_)⟩
     rw[h2,h3]
     rfl
    ·have h3:Xq (Yv fs l) a=false:=h3
     refine ZY ?_
     rw[h2,h3]
     rfl
   ·have h2 : ¬ (Vn l).2=0:=h2
    refine ZY ?_
    rw[decide_eq_false h2]
    rfl
theorem b4b: ∀ a:List Fact×Cert×Unit,(Zt a.1&&Kh a.2.1&&decide (a.1.length+ZL a.2.1<=300))=true->Zf Fs 0 (Ze R6 (ZB (V5 a.1 a.2.1))) RF [] (Yp c6v (encL a)):=by
 rintro⟨fs,⟨k,m,l,ks⟩,⟨⟩⟩ h
 simp only[Bool.and_eq_true,decide_eq_true_eq]at h
 obtain⟨⟨hf,hc⟩,hd⟩:=h
 have e:(encL ((fs,Cert.mk k m l ks,()):List Fact×Cert×Unit):List PV)=[enc fs,PV.agg [enc k,enc m,enc l.k,enc l.t,enc ks]]:=by
  show [enc fs,enc (Cert.mk k m l ks)]=_
  rw[ZO]
 have e1:(encL ((Cert.mk k m l ks,()):Cert×Unit):List PV)=[PV.agg [enc k,enc m,enc l.k,enc l.t,enc ks]]:=by
  show [enc (Cert.mk k m l ks)]=_
  rw[ZO]
 rw[e]
 have hf:Zt fs=true:=hf
 have hc:Kh (Cert.mk k m l ks)=true:=hc
 refine c9d fs k m l ks ⟨Zo (fs,()) rfl hf,Zq (fs,()) rfl (WV (fun hv=> ?_) fun hv=> ?_)⟩
 ·have hv:ZT fs=false:=hv
  refine U3 ?_
  simp[V5,hv]
 have hv:ZT fs=true:=hv
 have el:(List.map (enc:Fact->PV) fs).length=fs.length:=by simp
 show if decide (((List.map (enc:Fact->PV) fs).length:Int)>100)=true then _ else _
 rw[el]
 refine Qz (fun h1=> ?_) fun h1=>⟨Zo (.mk k m l ks,()) e1.symm (b9n hc),Zq (.mk k m l ks,()) e1.symm (Qz (fun h2=> ?_) fun h2=>⟨Zo (fs,.mk k m l ks,()) e.symm ?_,Zq (fs,.mk k m l ks,()) e.symm (WV (fun h3=> ?_) fun h3=> ?_)⟩)⟩
 ·refine U3 ?_
  simp only[V5,hv,if_true,if_pos h1]
 ·have h2:Yj (.mk k m l ks)>1000:=h2
  refine U3 ?_
  simp only[V5,hv,if_true,if_neg h1,if_pos h2]
 ·show(Zt fs&&ZT fs&&Kh (.mk k m l ks)&&decide (fs.length+ZL (.mk k m l ks)<=300))=true
  rw[hf,hv,hc,decide_eq_true hd]
  rfl
 ·have h2 : ¬ Yj (.mk k m l ks)>1000:=h2
  have h3:Xq fs (.mk k m l ks)=false:=h3
  refine U3 ?_
  simp only[V5,hv,if_true,if_neg h1,if_neg h2,h3]
  rfl
 ·have h2 : ¬ Yj (.mk k m l ks)>1000:=h2
  have h3:Xq fs (.mk k m l ks)=true:=h3
  refine U3 ?_
  simp only[V5,hv,if_true,if_neg h1,if_neg h2,h3]
end Go.Pl
namespace Go.Pl
open Go.RowKit
open Enc (enc dec is)
open EncL (encL decL isL)
def exL:Lin:=⟨-1,[⟨⟨[110]⟩,1⟩]⟩
mutual
def Xe:Cert->Int->Bool
 | .mk _ m l ks,n=> !decide ((m.length:Int)>60)&&(GI l 8&&(!decide (n<1)&&(!decide ((ks.length:Int)>n)&&WM ks n)))
def WM:List Cert->Int->Bool
 | [],_=>true
 | c::cs,n=>Xe c (V9 (n - 1))&&WM cs (V9 (n - Yj c))
end
def b0j:Str:=⟨[49]⟩
def b0c:Str:=⟨[45,49]⟩
def FO:Str:=⟨[110,45,49]⟩
end Go.Pl
namespace Go.Pl
open Go.RowKit
open Enc (enc dec is)
open EncL (encL decL isL)
set_option maxRecDepth 100000
noncomputable def Vq:IC:=Xp Proofs.Tryz.f6
def Vx:List IRes:=[(.tmp 4)]
abbrev a6k:Nat:=51
def Uj(N:Nat):ZI:=YN [(6,.pure (preT (fun x:Cert×Int×Unit=>Y8 x.1&&decide (ZL x.1<N))) (Zk (fun x:Cert×Int×Unit=>Xe x.1 x.2.1))),(14,.pure (preT (fun x:Lin×Int×Unit=>Yb x.1)) (Zk (fun x:Lin×Int×Unit=>GI x.1 x.2.1))),(29,.pure (preT (fun x:Cert×Unit=>Y8 x.1)) (Zk (fun x:Cert×Unit=>Yj x.1)))]
theorem b3k{G:PV->Prop}(N:Nat)(k:Int)(m:List Int)(l:Lin)(ks:List Cert)(n:Int)(h:if (decide ((↑(List.length (List.map enc m)):Int)>60))=true then G ((.bool false))else((Go.Pl.preT (fun(x:Lin×Int×Unit)=>Yb x.1) [(.agg [(.int .i64 l.k),(.sl 2 false (List.map enc l.t))]),(.int .i64 8)])=true∧(∃ y0:Bool,AV.pv (Zk (fun(x:Lin×Int×Unit)=>GI x.1 x.2.1) [(.agg [(.int .i64 l.k),(.sl 2 false (List.map enc l.t))]),(.int .i64 8)])=AV.pv (enc y0)∧(if (!y0)=true then G ((.bool false))else(if (decide (n<1))=true then G ((.bool false))else(if (decide ((↑(List.length (List.map enc ks)):Int)>n))=true then G ((.bool false))else(At (Uj N) 0 (Ze Vx G) Vq 0 51 [(1,(.pv (.int .i64 n))),(2,(.ptr 0 0)),(5,(.pv (.int .i64 0)))] [(.obj (.box [(.pv (.int .i64 k)),(.pv (.sl 1 false (List.map enc m))),(.pv (.int .i64 l.k)),(.pv (.sl 2 false (List.map enc l.t))),(.pv (.sl 5 false (List.map enc ks)))]))]))))))):Zf (Uj N) 0 (Ze Vx G) Vq [] (Yp 51 [.agg [enc k,enc m,enc l.k,enc l.t,enc ks],enc n]):=Zf.tp (.lit (.ask (.lit (.lit (.lit (.lit (.lit (.lit (.lit (.lit (.lit (.lit (.lit (.lit (.lit (.lit (.nil))))))))))))))) (.lit (.lit (.req (.abs (Bool) (fun YY=>AV.pv (enc YY)) (.lit (.lit (.ask (.lit (.lit (.lit (.lit (.lit (.lit (.lit (.lit (.lit (.nil)))))))))) (.lit (.lit (.lit (.ask (.lit (.lit (.lit (.lit (.lit (.lit (.nil))))))) (.lit (.lit (.lit (.lit (.lit (.lit (.ask (.nil) (.nil))))))))))))))))))))) h (by kernel_rfl)
theorem PL{G:PV->Prop}(N:Nat)(k:Int)(m:List Int)(l:Lin)(ks:List Cert)(n:Int)(i:Int)(h:if (decide (i<(↑(List.length (List.map enc ks)):Int)))=true then(decide (0<=i)&&decide (Int.toNat i<List.length (List.map enc ks))&&Enc.sz Cert==5)=true∧(∃ y0:Cert,AV.pv (PV.rptr (PV.cells (List.getD (List.map enc ks) (Int.toNat i) default)))=AV.pv (PV.rptr (PV.cells ((enc) y0)))∧((decide (0+List.length [Sh.int .i64,Sh.sl 1,Sh.int .i64,Sh.sl 2,Sh.sl 5]<=List.length (PV.cells (enc y0)))&&Xu (PV.cells (enc y0)) 0 [Sh.int .i64,Sh.sl 1,Sh.int .i64,Sh.sl 2,Sh.sl 5])=true∧((Go.Pl.preT (fun(x:Cert×Int×Unit)=>Y8 x.1&&decide (ZL x.1<N)) [(.agg [(.int .i64 (PV.asInt (List.getD (PV.cells (enc y0)) 0 default))),(.sl 1 (PV.asT (List.getD (PV.cells (enc y0)) (0+1) default)) (PV.asXs (List.getD (PV.cells (enc y0)) (0+1) default))),(.int .i64 (PV.asInt (List.getD (PV.cells (enc y0)) (0+1+1) default))),(.sl 2 (PV.asT (List.getD (PV.cells (enc y0)) (0+1+1+1) default)) (PV.asXs (List.getD (PV.cells (enc y0)) (0+1+1+1) default))),(.sl 5 (PV.asT (List.getD (PV.cells (enc y0)) (0+1+1+1+1) default)) (PV.asXs (List.getD (PV.cells (enc y0)) (0+1+1+1+1) default)))]),(.int .i64 (IntKind.wrap IntKind.i64 (n - 1)))])=true∧(∃ y1:Bool,AV.pv (Zk (fun(x:Cert×Int×Unit)=>Xe x.1 x.2.1) [(.agg [(.int .i64 (PV.asInt (List.getD (PV.cells (enc y0)) 0 default))),(.sl 1 (PV.asT (List.getD (PV.cells (enc y0)) (0+1) default)) (PV.asXs (List.getD (PV.cells (enc y0)) (0+1) default))),(.int .i64 (PV.asInt (List.getD (PV.cells (enc y0)) (0+1+1) default))),(.sl 2 (PV.asT (List.getD (PV.cells (enc y0)) (0+1+1+1) default)) (PV.asXs (List.getD (PV.cells (enc y0)) (0+1+1+1) default))),(.sl 5 (PV.asT (List.getD (PV.cells (enc y0)) (0+1+1+1+1) default)) (PV.asXs (List.getD (PV.cells (enc y0)) (0+1+1+1+1) default)))]),(.int .i64 (IntKind.wrap IntKind.i64 (n - 1)))])=AV.pv (enc y1)∧(if (!y1)=true then G ((.bool false))else((decide (0<=i)&&decide (Int.toNat i<List.length (List.map enc ks))&&Enc.sz Cert==5)=true∧(∃ y2:Cert,AV.pv (PV.rptr (PV.cells (List.getD (List.map enc ks) (Int.toNat i) default)))=AV.pv (PV.rptr (PV.cells ((enc) y2)))∧((decide (0+List.length [Sh.int .i64,Sh.sl 1,Sh.int .i64,Sh.sl 2,Sh.sl 5]<=List.length (PV.cells (enc y2)))&&Xu (PV.cells (enc y2)) 0 [Sh.int .i64,Sh.sl 1,Sh.int .i64,Sh.sl 2,Sh.sl 5])=true∧((Go.Pl.preT (fun(x:Cert×Unit)=>Y8 x.1) [(.agg [(.int .i64 (PV.asInt (List.getD (PV.cells (enc y2)) 0 default))),(.sl 1 (PV.asT (List.getD (PV.cells (enc y2)) (0+1) default)) (PV.asXs (List.getD (PV.cells (enc y2)) (0+1) default))),(.int .i64 (PV.asInt (List.getD (PV.cells (enc y2)) (0+1+1) default))),(.sl 2 (PV.asT (List.getD (PV.cells (enc y2)) (0+1+1+1) default)) (PV.asXs (List.getD (PV.cells (enc y2)) (0+1+1+1) default))),(.sl 5 (PV.asT (List.getD (PV.cells (enc y2)) (0+1+1+1+1) default)) (PV.asXs (List.getD (PV.cells (enc y2)) (0+1+1+1+1) default)))])])=true∧(∃ y3:Int,AV.pv (Zk (fun(x:Cert×Unit)=>Yj x.1) [(.agg [(.int .i64 (PV.asInt (List.getD (PV.cells (enc y2)) 0 default))),(.sl 1 (PV.asT (List.getD (PV.cells (enc y2)) (0+1) default)) (PV.asXs (List.getD (PV.cells (enc y2)) (0+1) default))),(.int .i64 (PV.asInt (List.getD (PV.cells (enc y2)) (0+1+1) default))),(.sl 2 (PV.asT (List.getD (PV.cells (enc y2)) (0+1+1+1) default)) (PV.asXs (List.getD (PV.cells (enc y2)) (0+1+1+1) default))),(.sl 5 (PV.asT (List.getD (PV.cells (enc y2)) (0+1+1+1+1) default)) (PV.asXs (List.getD (PV.cells (enc y2)) (0+1+1+1+1) default)))])])=AV.pv (enc y3)∧(At (Uj N) 0 (Ze Vx G) Vq 0 51 [(1,(.pv (.int .i64 (IntKind.wrap IntKind.i64 (n - y3))))),(2,(.ptr 0 0)),(5,(.pv (.int .i64 (IntKind.wrap IntKind.i64 (i+1)))))] [(.obj (.box [(.pv (.int .i64 k)),(.pv (.sl 1 false (List.map enc m))),(.pv (.int .i64 l.k)),(.pv (.sl 2 false (List.map enc l.t))),(.pv (.sl 5 false (List.map enc ks)))]))])))))))))))else(G ((.bool true)))):At (Uj N) 0 (Ze Vx G) Vq 0 51 [(1,.pv (.int .i64 n)),(2,.ptr 0 0),(5,.pv (.int .i64 i))] [.obj (.box [.pv (enc k),.pv (enc m),.pv (enc l.k),.pv (enc l.t),.pv (enc ks)])]:=At.tp (.lit (.ask (.req (.abs (Cert) (fun YY=>AV.pv (PV.rptr (PV.cells ((enc) YY)))) (.req (.lit (.req (.abs (Bool) (fun YY=>AV.pv (enc YY)) (.ask (.nil) (.req (.abs (Cert) (fun YY=>AV.pv (PV.rptr (PV.cells ((enc) YY)))) (.req (.req (.abs (Int) (fun YY=>AV.pv (enc YY)) (.lit (.lit (.nil))))))))))))))) (.nil))) h (by kernel_rfl)
noncomputable def Ga:IC:=Xp Proofs.Tryz.f58
def Ac:List IRes:=[(.tmp 2)]
abbrev b1x:Nat:=22
def Rb:ZI:=YN []
theorem b8x{G:PV->Prop}(h:G ((.str (List.drop (Int.toNat 1) (List.take (Int.toNat (IntKind.wrap IntKind.i64 (1+1))) [(48:UInt8),(49:UInt8),(50:UInt8),(51:UInt8),(52:UInt8),(53:UInt8),(54:UInt8),(55:UInt8),(56:UInt8),(57:UInt8)]))))):Zf Rb 0 (Ze Ac G) Ga [] (Yp 22 [.int .i64 1]):=Zf.tp (.lit (.lit (.lit (.lit (.lit (.lit (.nil))))))) h (by kernel_rfl)
noncomputable def Aj:IC:=Ga
def Au:List IRes:=[(.tmp 2)]
abbrev b4z:Nat:=22
def Ph:ZI:=YN [(58,.pure (preT (fun x:Int×Unit=>decide (x.1=1))) (Zk (fun _:Int×Unit=>b0j)))]
theorem c1b{G:PV->Prop}(h : ∃ y0:Str,AV.pv (Zk (fun(x:Int×Unit)=>b0j) [(.int .i64 1)])=AV.pv (enc y0)∧((decide (List.length [(45:UInt8)]+List.length (Str.s y0)<=1099511627776))=true∧(G ((.str ([(45:UInt8)]++Str.s y0)))))):Zf Ph 0 (Ze Au G) Aj [] (Yp 22 [.int .i64 (-1)]):=Zf.tp (.lit (.lit (.lit (.abs (Str) (fun YY=>AV.pv (enc YY)) (.req (.nil)))))) h (by kernel_rfl)
noncomputable def Vv:IC:=Xp Proofs.Tryz.f27
def Vu:List IRes:=[(.tmp 2)]
abbrev a7h:Nat:=69
def Uk:ZI:=YN [(18,.pure (preT (fun x:Lin×Unit=>Yb x.1)) (Zk (fun x:Lin×Unit=>Zm x.1))),(58,.pure (preT (fun x:Int×Unit=>decide (x.1 = -1))) (Zk (fun _:Int×Unit=>b0c)))]
theorem b4q{G:PV->Prop}(h : ∃ y0:Bool,AV.pv (Zk (fun(x:Lin×Unit)=>Zm x.1) [(.agg [(.int .i64 (-1)),(.sl 2 false [(.agg [(.str [(110:UInt8)]),(.int .i64 1)])])])])=AV.pv (enc y0)∧(if (!y0)=true then G ((.str []))else(At Uk 0 (Ze Vu G) Vv 0 69 [(1,(.ptr 0 0)),(3,(.pv (.str []))),(4,(.pv (.int .i64 0)))] [(.obj (.box [(.pv (.int .i64 (-1))),(.pv (.sl 2 false [(.agg [(.str [(110:UInt8)]),(.int .i64 1)])]))]))]))):Zf Uk 0 (Ze Vu G) Vv [] (Yp 69 [.agg [.int .i64 (-1),.sl 2 false [.agg [.str [110],.int .i64 1]]]]):=Zf.tp (.lit (.abs (Bool) (fun YY=>AV.pv (enc YY)) (.ask (.nil) (.nil)))) h (by kernel_rfl)
theorem a1l{G:PV->Prop}(o:List UInt8)(h:(decide (List.length o+List.length (PV.asStr (List.getD (PV.cells (List.getD [PV.agg [PV.str [(110:UInt8)],PV.int .i64 1]] (Int.toNat 0) default)) 0 default))<=1099511627776))=true∧(At Uk 0 (Ze Vu G) Vv 0 69 [(1,(.ptr 0 0)),(3,(.pv (.str (o++PV.asStr (List.getD (PV.cells (List.getD [PV.agg [PV.str [(110:UInt8)],PV.int .i64 1]] (Int.toNat 0) default)) 0 default))))),(4,(.pv (.int .i64 1)))] [(.obj (.box [(.pv (.int .i64 (-1))),(.pv (.sl 2 false [(.agg [(.str [(110:UInt8)]),(.int .i64 1)])]))]))])):At Uk 0 (Ze Vu G) Vv 0 69 [(1,.ptr 0 0),(3,.pv (.str o)),(4,.pv (.int .i64 0))] [.obj (.box [.pv (.int .i64 (-1)),.pv (.sl 2 false [.agg [.str [110],.int .i64 1]])])]:=At.tp (.lit (.lit (.lit (.keep (.lit (.lit (.lit (.lit (.lit (.lit (.lit (.req (.lit (.nil)))))))))))))) h (by kernel_rfl)
theorem Eh{G:PV->Prop}(h : ∃ y0:Str,AV.pv (Zk (fun(x:Int×Unit)=>b0c) [(.int .i64 (-1))])=AV.pv (enc y0)∧((decide (List.length [(110:UInt8)]+List.length (Str.s y0)<=1099511627776))=true∧(G ((.str ([(110:UInt8)]++Str.s y0)))))):At Uk 0 (Ze Vu G) Vv 0 69 [(1,.ptr 0 0),(3,.pv (.str [110])),(4,.pv (.int .i64 1))] [.obj (.box [.pv (.int .i64 (-1)),.pv (.sl 2 false [.agg [.str [110],.int .i64 1]])])]:=At.tp (.lit (.lit (.lit (.lit (.lit (.lit (.lit (.lit (.lit (.abs (Str) (fun YY=>AV.pv (enc YY)) (.req (.nil)))))))))))) h (by kernel_rfl)
noncomputable def Rc:IC:=Xp Proofs.Tryz.f23
def RN:List IRes:=[(.cell true 5 2)]
abbrev c3n:Nat:=5
def F6:ZI:=YN []
theorem c8c{G:PV->Prop}(m:List Int)(h:G ((.agg [(.int .i64 1),(.sl 1 false (List.map enc m)),(.int .i64 0),(.sl 0 true []),(.sl 0 true [])]))):Zf F6 0 (Ze RN G) Rc [] (Yp 5 [enc m]):=Zf.tp (.nil) h (by kernel_rfl)
noncomputable def BD:IC:=Xp Proofs.Tryz.f5
def BH:List IRes:=[(.tmp 0)]
abbrev b6m:Nat:=52
def Tv:ZI:=YN [(22,.pure (preT (fun _:Int×Unit=>true)) (Zk (fun x:Int×Unit=>(⟨x.1,[]⟩:Lin)))),(21,.pure (preT (fun x:Lin×Str×Int×Unit=>decide (x.1.t.length<=1000000))) (Zk (fun x:Lin×Str×Int×Unit=>MQ x.1 x.2.1 x.2.2.1))),(23,.pure (preT (fun _:List Int×Unit=>true)) (Zk (fun x:List Int×Unit=>Cert.mk 1 x.1 ⟨0,[]⟩ []))),(24,.pure (preT (fun x:List Fact×List Int×Unit=>Zt x.1&&decide (x.1.length<=300))) (Zk (fun x:List Fact×List Int×Unit=>Y3 x.1 x.2.1))),(25,.pure (preT (fun x:List Fact×Cert×Unit=>Zt x.1&&Kh x.2.1&&decide (x.1.length+ZL x.2.1<=300))) (Zk (fun x:List Fact×Cert×Unit=>V5 x.1 x.2.1))),(26,.pure (preT (fun x:Cert×Unit=>Y8 x.1)) (Zk (fun x:Cert×Unit=>Yj x.1))),(27,.pure (preT (fun x:Lin×Unit=>decide (x.1=exL))) (Zk (fun _:Lin×Unit=>FO))),(28,.pure (preT (fun x:List Fact×Unit=>Zt x.1)) (Zk (fun x:List Fact×Unit=>ZT x.1)))]
theorem b8n{G:PV->Prop}(h : ∃ y0:Lin,AV.pv (Zk (fun(x:Int×Unit)=>Lin.mk x.1 []) [(.int .i64 (-1))])=AV.pv (enc y0)∧((Go.Pl.preT (fun(x:Lin×Str×Int×Unit)=>decide (List.length x.1.t<=1000000)) [(.agg [(.int .i64 y0.k),(.sl 2 false (List.map enc y0.t))]),(.str [(110:UInt8)]),(.int .i64 2)])=true∧(∃ y1:Lin,AV.pv (Zk (fun(x:Lin×Str×Int×Unit)=>MQ x.1 x.2.1 x.2.2.1) [(.agg [(.int .i64 y0.k),(.sl 2 false (List.map enc y0.t))]),(.str [(110:UInt8)]),(.int .i64 2)])=AV.pv (enc y1)∧(∃ y2:Cert,AV.pv (Zk (fun(x:List Int×Unit)=>Cert.mk 1 x.1 (Lin.mk 0 []) []) [(.sl 1 false [(.int .i64 0),(.int .i64 1),(.int .i64 1)])])=AV.pv (enc y2)∧((List.all [enc y2] fun(x:PV)=>List.length (PV.cells x)==5&&PV.cellsOk x)=true∧((Go.Pl.preT (fun(x:List Fact×List Int×Unit)=>Zt x.1&&decide (List.length x.1<=300)) [(.sl 3 false [(.agg [(.bool true),(.int .i64 y1.k),(.sl 2 false (List.map enc y1.t))])]),(.sl 1 false [(.int .i64 1)])])=true∧(∃ y3:Lin×Int,AV.pv (Zk (fun(x:List Fact×List Int×Unit)=>Y3 x.1 x.2.1) [(.sl 3 false [(.agg [(.bool true),(.int .i64 y1.k),(.sl 2 false (List.map enc y1.t))])]),(.sl 1 false [(.int .i64 1)])])=AV.pv (enc y3)∧((Go.Pl.preT (fun(x:List Fact×Cert×Unit)=>Zt x.1&&Kh x.2.1&&decide (List.length x.1+ZL x.2.1<=300)) [(.sl 3 false [(.agg [(.bool true),(.int .i64 y1.k),(.sl 2 false (List.map enc y1.t))])]),(.agg [(.int .i64 2),(.sl 1 false [(.int .i64 1)]),(.int .i64 0),(.sl 0 true []),(.sl 5 false [(.agg [(.int .i64 2),(.sl 1 false [(.int .i64 (-1)),(.int .i64 0)]),(.int .i64 0),(.sl 0 true []),(.sl 5 false [enc y2])])])])])=true∧(∃ y4:Int,AV.pv (Zk (fun(x:List Fact×Cert×Unit)=>V5 x.1 x.2.1) [(.sl 3 false [(.agg [(.bool true),(.int .i64 y1.k),(.sl 2 false (List.map enc y1.t))])]),(.agg [(.int .i64 2),(.sl 1 false [(.int .i64 1)]),(.int .i64 0),(.sl 0 true []),(.sl 5 false [(.agg [(.int .i64 2),(.sl 1 false [(.int .i64 (-1)),(.int .i64 0)]),(.int .i64 0),(.sl 0 true []),(.sl 5 false [enc y2])])])])])=AV.pv (enc y4)∧(if (y4==0)=true then ∃ y5:Cert,AV.pv (Zk (fun(x:List Int×Unit)=>Cert.mk 1 x.1 (Lin.mk 0 []) []) [(.sl 1 false [(.int .i64 1)])])=AV.pv (enc y5)∧((Go.Pl.preT (fun(x:List Fact×Cert×Unit)=>Zt x.1&&Kh x.2.1&&decide (List.length x.1+ZL x.2.1<=300)) [(.sl 3 false [(.agg [(.bool true),(.int .i64 y1.k),(.sl 2 false (List.map enc y1.t))])]),enc y5])=true∧(∃ y6:Int,AV.pv (Zk (fun(x:List Fact×Cert×Unit)=>V5 x.1 x.2.1) [(.sl 3 false [(.agg [(.bool true),(.int .i64 y1.k),(.sl 2 false (List.map enc y1.t))])]),enc y5])=AV.pv (enc y6)∧(if (y6==18)=true then(Go.Pl.preT (fun(x:Cert×Unit)=>Y8 x.1) [(.agg [(.int .i64 2),(.sl 1 false [(.int .i64 1)]),(.int .i64 0),(.sl 0 true []),(.sl 5 false [(.agg [(.int .i64 2),(.sl 1 false [(.int .i64 (-1)),(.int .i64 0)]),(.int .i64 0),(.sl 0 true []),(.sl 5 false [enc y2])])])])])=true∧(∃ y7:Int,AV.pv (Zk (fun(x:Cert×Unit)=>Yj x.1) [(.agg [(.int .i64 2),(.sl 1 false [(.int .i64 1)]),(.int .i64 0),(.sl 0 true []),(.sl 5 false [(.agg [(.int .i64 2),(.sl 1 false [(.int .i64 (-1)),(.int .i64 0)]),(.int .i64 0),(.sl 0 true []),(.sl 5 false [enc y2])])])])])=AV.pv (enc y7)∧(if (y7==3)=true then if (y3.2==0)=true then(Go.Pl.preT (fun(x:Lin×Unit)=>decide (x.1=exL)) [(.agg [(.int .i64 y3.1.k),(.sl 2 false (List.map enc y3.1.t))])])=true∧(∃ y8:Str,AV.pv (Zk (fun(x:Lin×Unit)=>FO) [(.agg [(.int .i64 y3.1.k),(.sl 2 false (List.map enc y3.1.t))])])=AV.pv (enc y8)∧(if (Str.s y8==[(110:UInt8),(45:UInt8),(49:UInt8)])=true then(Go.Pl.preT (fun(x:List Fact×Unit)=>Zt x.1) [(.sl 3 false [(.agg [(.bool true),(.int .i64 y1.k),(.sl 2 false (List.map enc y1.t))])])])=true∧(∃ y9:Bool,AV.pv (Zk (fun(x:List Fact×Unit)=>ZT x.1) [(.sl 3 false [(.agg [(.bool true),(.int .i64 y1.k),(.sl 2 false (List.map enc y1.t))])])])=AV.pv (enc y9)∧(G ((.bool y9))))else(G ((.bool false)))))else(G ((.bool false)))else(G ((.bool false)))))else(G ((.bool false))))))else(G ((.bool false))))))))))))):Zf Tv 0 (Ze BH G) BD [] (Yp 52 []):=Zf.tp (.lit (.abs (Lin) (fun YY=>AV.pv (enc YY)) (.req (.abs (Lin) (fun YY=>AV.pv (enc YY)) (.lit (.lit (.lit (.lit (.lit (.lit (.abs (Cert) (fun YY=>AV.pv (enc YY)) (.req (.lit (.lit (.lit (.lit (.lit (.lit (.req (.abs (Lin×Int) (fun YY=>AV.pv (enc YY)) (.lit (.lit (.lit (.req (.abs (Int) (fun YY=>AV.pv (enc YY)) (.lit (.ask (.lit (.lit (.lit (.lit (.lit (.abs (Cert) (fun YY=>AV.pv (enc YY)) (.lit (.lit (.req (.abs (Int) (fun YY=>AV.pv (enc YY)) (.lit (.lit (.lit (.ask (.lit (.lit (.lit (.req (.abs (Int) (fun YY=>AV.pv (enc YY)) (.lit (.lit (.lit (.ask (.lit (.lit (.lit (.ask (.lit (.req (.abs (Str) (fun YY=>AV.pv (enc YY)) (.lit (.lit (.lit (.ask (.lit (.lit (.req (.abs (Bool) (fun YY=>AV.pv (enc YY)) (.lit (.nil)))))) (.lit (.lit (.nil)))))))))) (.lit (.lit (.lit (.lit (.lit (.lit (.nil))))))))))) (.lit (.lit (.lit (.lit (.lit (.lit (.lit (.lit (.lit (.nil))))))))))))))))))) (.lit (.lit (.lit (.lit (.lit (.lit (.lit (.lit (.lit (.lit (.lit (.lit (.lit (.nil)))))))))))))))))))))))))))) (.lit (.lit (.lit (.lit (.lit (.lit (.lit (.lit (.lit (.lit (.lit (.lit (.lit (.lit (.lit (.lit (.lit (.lit (.lit (.nil))))))))))))))))))))))))))))))))))))))))))))))) h (by kernel_rfl)
end Go.Pl
namespace Go.Pl
open Go.RowKit
open Enc (enc dec is)
open EncL (encL decL isL)
set_option maxRecDepth 100000
noncomputable def Ls:IC:=Xp Proofs.Tryz.f88
def Oy:List IRes:=[(.tmp 2)]
abbrev d0r:Nat:=9
def a5j:ZI:=YN []
theorem d7j{G:PV->Prop}(c:UInt8)(h:if (decide ((↑(UInt8.toNat c):Int) ≥ 48))=true then G ((.bool (decide ((↑(UInt8.toNat c):Int)<=57))))else(G ((.bool false)))):Zf a5j 0 (Ze Oy G) Ls [] (Yp 9 [enc c]):=Zf.tp (.lit (.ask (.lit (.lit (.lit (.nil)))) (.lit (.lit (.nil))))) h (by kernel_rfl)
noncomputable def FJ:IC:=Xp Proofs.Tryz.f89
def Oi:List IRes:=[(.tmp 2)]
abbrev c8d:Nat:=9
def a6m:ZI:=YN []
theorem d8v{G:PV->Prop}(c:UInt8)(h:if (decide ((↑(UInt8.toNat c):Int) ≥ 97))=true then G ((.bool (decide ((↑(UInt8.toNat c):Int)<=122))))else(G ((.bool false)))):Zf a6m 0 (Ze Oi G) FJ [] (Yp 9 [enc c]):=Zf.tp (.lit (.ask (.lit (.lit (.lit (.nil)))) (.lit (.lit (.nil))))) h (by kernel_rfl)
noncomputable def Ho:IC:=Xp Proofs.Tryz.f47
def BV:List IRes:=[(.tmp 2)]
abbrev b6x:Nat:=9
def Ps:ZI:=YN []
theorem c6b{G:PV->Prop}(n:Int)(h:if (decide (n ≥ (-1000000:Int)))=true then G ((.bool (decide (n<=1000000))))else(G ((.bool false)))):Zf Ps 0 (Ze BV G) Ho [] (Yp 9 [enc n]):=Zf.tp (.lit (.ask (.lit (.lit (.lit (.nil)))) (.lit (.lit (.nil))))) h (by kernel_rfl)
noncomputable def a3j:IC:=Ho
def a3v:List IRes:=[(.tmp 2)]
abbrev d7e:Nat:=9
def b9h:ZI:=YN []
theorem d9u{G:PV->Prop}(n:Int)(h:if (decide (n ≥ (-1000000:Int)))=true then G ((.bool (decide (n<=1000000))))else(G ((.bool false)))):Zf b9h 0 (Ze a3v G) a3j [] (Yp 9 [enc n]):=Zf.tp (.lit (.ask (.lit (.lit (.lit (.nil)))) (.lit (.lit (.nil))))) h (by kernel_rfl)
noncomputable def XZ:IC:=Xp Proofs.Tryz.f48
def We:List IRes:=[(.tmp 2)]
abbrev b7t:Nat:=62
def Vg:ZI:=YN [(88,.pure (preT (fun _:UInt8×Unit=>true)) (Zk (fun x:UInt8×Unit=>digB x.1))),(89,.pure (preT (fun _:UInt8×Unit=>true)) (Zk (fun x:UInt8×Unit=>VW x.1)))]
theorem c9p{G:PV->Prop}(s:List UInt8)(h:if ((↑(List.length s):Int)==0)=true then G ((.bool false))else(if (decide ((↑(List.length s):Int)>30))=true then G ((.bool false))else((decide (0<=0)&&decide (Int.toNat 0<List.length s))=true∧(if ((↑(UInt8.toNat (List.getD s (Int.toNat 0) (0:UInt8))):Int)==95)=true then if (decide ((↑(List.length s):Int)<2))=true then G ((.bool false))else(if (decide ((↑(List.length s):Int)>10))=true then G ((.bool false))else((decide (0<=1)&&decide (Int.toNat 1<List.length s))=true∧(if ((↑(UInt8.toNat (List.getD s (Int.toNat 1) (0:UInt8))):Int)==48)=true then G ((.bool false))else(At Vg 0 (Ze We G) XZ 0 62 [(0,(.pv (.str s))),(3,(.pv (.int .i64 1)))] []))))else(At Vg 0 (Ze We G) XZ 1 62 [(0,(.pv (.str s))),(4,(.pv (.int .i64 0)))] []))))):Zf Vg 0 (Ze We G) XZ [] (Yp 62 [.str s]):=Zf.tp (.lit (.ask (.lit (.lit (.lit (.lit (.nil))))) (.lit (.lit (.lit (.lit (.ask (.nil) (.req (.lit (.ask (.lit (.ask (.lit (.lit (.lit (.lit (.lit (.lit (.lit (.lit (.nil))))))))) (.lit (.lit (.lit (.lit (.ask (.lit (.lit (.lit (.lit (.nil))))) (.lit (.req (.lit (.lit (.lit (.ask (.nil) (.nil)))))))))))))) (.nil))))))))))) h (by kernel_rfl)
theorem a2b{G:PV->Prop}(s:List UInt8)(i:Int)(h:if (decide (i<(↑(List.length s):Int)))=true then(decide (0<=i)&&decide (Int.toNat i<List.length s))=true∧((Go.Pl.preT (fun(x:UInt8×Unit)=>true) [(.int IntKind.u8 (↑(UInt8.toNat (List.getD s (Int.toNat i) (0:UInt8))):Int))])=true∧(∃ y0:Bool,AV.pv (Zk (fun(x:UInt8×Unit)=>digB x.1) [(.int IntKind.u8 (↑(UInt8.toNat (List.getD s (Int.toNat i) (0:UInt8))):Int))])=AV.pv (enc y0)∧(if (!y0)=true then G ((.bool false))else(At Vg 0 (Ze We G) XZ 0 62 [(0,(.pv (.str s))),(3,(.pv (.int .i64 (IntKind.wrap IntKind.i64 (i+1)))))] []))))else(G ((.bool true)))):At Vg 0 (Ze We G) XZ 0 62 [(0,.pv (.str s)),(3,.pv (.int .i64 i))] []:=At.tp (.lit (.ask (.req (.req (.abs (Bool) (fun YY=>AV.pv (enc YY)) (.ask (.nil) (.lit (.nil)))))) (.nil))) h (by kernel_rfl)
theorem Rq{G:PV->Prop}(s:List UInt8)(i:Int)(h:if (decide (i<(↑(List.length s):Int)))=true then(decide (0<=i)&&decide (Int.toNat i<List.length s))=true∧((Go.Pl.preT (fun(x:UInt8×Unit)=>true) [(.int IntKind.u8 (↑(UInt8.toNat (List.getD s (Int.toNat i) (0:UInt8))):Int))])=true∧(∃ y0:Bool,AV.pv (Zk (fun(x:UInt8×Unit)=>VW x.1) [(.int IntKind.u8 (↑(UInt8.toNat (List.getD s (Int.toNat i) (0:UInt8))):Int))])=AV.pv (enc y0)∧(if (!y0)=true then if (i==0)=true then G ((.bool false))else((decide (0<=i)&&decide (Int.toNat i<List.length s))=true∧((Go.Pl.preT (fun(x:UInt8×Unit)=>true) [(.int IntKind.u8 (↑(UInt8.toNat (List.getD s (Int.toNat i) (0:UInt8))):Int))])=true∧(∃ y1:Bool,AV.pv (Zk (fun(x:UInt8×Unit)=>digB x.1) [(.int IntKind.u8 (↑(UInt8.toNat (List.getD s (Int.toNat i) (0:UInt8))):Int))])=AV.pv (enc y1)∧(if (!y1)=true then G ((.bool false))else(At Vg 0 (Ze We G) XZ 1 62 [(0,(.pv (.str s))),(4,(.pv (.int .i64 (IntKind.wrap IntKind.i64 (i+1)))))] [])))))else(At Vg 0 (Ze We G) XZ 1 62 [(0,(.pv (.str s))),(4,(.pv (.int .i64 (IntKind.wrap IntKind.i64 (i+1)))))] []))))else(G ((.bool true)))):At Vg 0 (Ze We G) XZ 1 62 [(0,.pv (.str s)),(4,.pv (.int .i64 i))] []:=At.tp (.lit (.ask (.req (.req (.abs (Bool) (fun YY=>AV.pv (enc YY)) (.ask (.lit (.lit (.lit (.ask (.lit (.lit (.lit (.lit (.lit (.lit (.lit (.lit (.nil))))))))) (.lit (.lit (.req (.lit (.req (.abs (Bool) (fun YY=>AV.pv (enc YY)) (.lit (.lit (.lit (.lit (.ask (.nil) (.lit (.nil))))))))))))))))) (.lit (.lit (.lit (.lit (.lit (.lit (.nil))))))))))) (.nil))) h (by kernel_rfl)
noncomputable def WL:IC:=Xp Proofs.Tryz.f18
def WR:List IRes:=[(.tmp 2)]
abbrev b2w:Nat:=58
def VM:ZI:=YN [(47,.pure (preT (fun _:Int×Unit=>true)) (Zk (fun x:Int×Unit=>Yy x.1))),(48,.pure (preT (fun _:Str×Unit=>true)) (Zk (fun x:Str×Unit=>YZ x.1)))]
theorem c6p{G:PV->Prop}(l:Lin)(h : ∃ y0:Bool,AV.pv (Zk (fun(x:Int×Unit)=>Yy x.1) [(.int .i64 l.k)])=AV.pv (enc y0)∧(if (!y0)=true then G ((.bool false))else(if (decide ((↑(List.length (List.map enc l.t)):Int)>12))=true then G ((.bool false))else(At VM 0 (Ze WR G) WL 0 58 [(1,(.ptr 0 0)),(3,(.pv (.int .i64 0)))] [(.obj (.box [(.pv (.int .i64 l.k)),(.pv (.sl 2 false (List.map enc l.t)))]))])))):Zf VM 0 (Ze WR G) WL [] (Yp 58 [enc l]):=Zf.tp (.lit (.abs (Bool) (fun YY=>AV.pv (enc YY)) (.ask (.lit (.lit (.lit (.lit (.lit (.nil)))))) (.lit (.lit (.lit (.lit (.lit (.ask (.nil) (.nil)))))))))) h (by kernel_rfl)
theorem NM{G:PV->Prop}(l:Lin)(i:Int)(h:if (decide (i<(↑(List.length (List.map enc l.t)):Int)))=true then(decide (0<=i)&&decide (Int.toNat i<List.length (List.map enc l.t))&&Enc.sz Coef==2)=true∧(∃ y0:Coef,AV.pv (PV.rptr (PV.cells (List.getD (List.map enc l.t) (Int.toNat i) default)))=AV.pv (PV.rptr (PV.cells ((enc) y0)))∧(∃ y1:Bool,AV.pv (Zk (fun(x:Str×Unit)=>YZ x.1) [(.str (PV.asStr (List.getD (PV.cells (enc y0)) 0 default)))])=AV.pv (enc y1)∧(if (!y1)=true then G ((.bool false))else(if (PV.asInt (List.getD (PV.cells (enc y0)) (0+1) default)==0)=true then G ((.bool false))else(∃ y2:Bool,AV.pv (Zk (fun(x:Int×Unit)=>Yy x.1) [(.int .i64 (PV.asInt (List.getD (PV.cells (enc y0)) (0+1) default)))])=AV.pv (enc y2)∧(if (!y2)=true then G ((.bool false))else(if (decide (i>0))=true then(decide (0<=IntKind.wrap IntKind.i64 (i - 1))&&decide (Int.toNat (IntKind.wrap IntKind.i64 (i - 1))<List.length (List.map enc l.t))&&Enc.sz Coef==2)=true∧(∃ y3:Coef,AV.pv (PV.rptr (PV.cells (List.getD (List.map enc l.t) (Int.toNat (IntKind.wrap IntKind.i64 (i - 1))) default)))=AV.pv (PV.rptr (PV.cells ((enc) y3)))∧(if (!Op.bytesLess (PV.asStr (List.getD (List.drop 0 (PV.cells (enc y3))) 0 default)) (PV.asStr (List.getD (PV.cells (enc y0)) 0 default)))=true then G ((.bool false))else(At VM 0 (Ze WR G) WL 0 58 [(1,(.ptr 0 0)),(3,(.pv (.int .i64 (IntKind.wrap IntKind.i64 (i+1)))))] [(.obj (.box [(.pv (.int .i64 l.k)),(.pv (.sl 2 false (List.map enc l.t)))]))])))else(At VM 0 (Ze WR G) WL 0 58 [(1,(.ptr 0 0)),(3,(.pv (.int .i64 (IntKind.wrap IntKind.i64 (i+1)))))] [(.obj (.box [(.pv (.int .i64 l.k)),(.pv (.sl 2 false (List.map enc l.t)))]))]))))))))else(G ((.bool true)))):At VM 0 (Ze WR G) WL 0 58 [(1,.ptr 0 0),(3,.pv (.int .i64 i))] [.obj (.box [.pv (.int .i64 l.k),.pv (enc l.t)])]:=At.tp (.lit (.ask (.req (.abs (Coef) (fun YY=>AV.pv (PV.rptr (PV.cells ((enc) YY)))) (.lit (.lit (.abs (Bool) (fun YY=>AV.pv (enc YY)) (.ask (.lit (.lit (.lit (.lit (.lit (.lit (.lit (.lit (.lit (.lit (.lit (.lit (.lit (.lit (.nil))))))))))))))) (.lit (.lit (.lit (.lit (.ask (.lit (.lit (.lit (.lit (.lit (.lit (.lit (.lit (.lit (.lit (.nil))))))))))) (.lit (.lit (.lit (.abs (Bool) (fun YY=>AV.pv (enc YY)) (.lit (.lit (.ask (.lit (.lit (.lit (.lit (.lit (.nil)))))) (.lit (.lit (.lit (.ask (.lit (.lit (.lit (.lit (.lit (.req (.abs (Coef) (fun YY=>AV.pv (PV.rptr (PV.cells ((enc) YY)))) (.lit (.lit (.lit (.lit (.lit (.lit (.lit (.lit (.lit (.lit (.ask (.nil) (.lit (.nil)))))))))))))))))))) (.lit (.lit (.lit (.lit (.lit (.lit (.lit (.lit (.lit (.lit (.lit (.lit (.lit (.lit (.nil))))))))))))))))))))))))))))))))))))) (.nil))) h (by kernel_rfl)
noncomputable def QB:IC:=Xp Proofs.Tryz.f26
def QA:List IRes:=[(.tmp 2)]
abbrev c4p:Nat:=19
def K8(N:Nat):ZI:=YN [(26,.pure (preT (fun x:Cert×Unit=>Y8 x.1&&decide (ZL x.1<N))) (Zk (fun x:Cert×Unit=>Yj x.1)))]
theorem d3r{G:PV->Prop}(N:Nat)(k:Int)(m:List Int)(l:Lin)(ks:List Cert)(h:At (K8 N) 0 (Ze QA G) QB 0 19 [(3,(.pv (.int .i64 1))),(7,(.pv (.sl 5 false (List.map enc ks)))),(8,(.pv (.int .i64 (↑(List.length (List.map enc ks)):Int)))),(9,(.pv (.int .i64 0)))] []):Zf (K8 N) 0 (Ze QA G) QB [] (Yp 19 [.agg [enc k,enc m,enc l.k,enc l.t,enc ks]]):=Zf.tp (.nil) h (by kernel_rfl)
theorem a1f{G:PV->Prop}(N:Nat)(k:Int)(m:List Int)(l:Lin)(ks:List Cert)(n i:Int)(h:if (decide (i<(↑(List.length ks):Int)))=true then(decide (0<=i)&&decide (Int.toNat i<List.length (List.map enc ks))&&Enc.sz Cert==5)=true∧(∃ y0:Cert,AV.pv (PV.rptr (PV.cells (List.getD (List.map enc ks) (Int.toNat i) default)))=AV.pv (PV.rptr (PV.cells ((enc) y0)))∧((decide (0+List.length [Sh.int .i64,Sh.sl 1,Sh.int .i64,Sh.sl 2,Sh.sl 5]<=List.length (PV.cells (enc y0)))&&Xu (PV.cells (enc y0)) 0 [Sh.int .i64,Sh.sl 1,Sh.int .i64,Sh.sl 2,Sh.sl 5])=true∧((Go.Pl.preT (fun(x:Cert×Unit)=>Y8 x.1&&decide (ZL x.1<N)) [(.agg [(.int .i64 (PV.asInt (List.getD (PV.cells (enc y0)) 0 default))),(.sl 1 (PV.asT (List.getD (PV.cells (enc y0)) (0+1) default)) (PV.asXs (List.getD (PV.cells (enc y0)) (0+1) default))),(.int .i64 (PV.asInt (List.getD (PV.cells (enc y0)) (0+1+1) default))),(.sl 2 (PV.asT (List.getD (PV.cells (enc y0)) (0+1+1+1) default)) (PV.asXs (List.getD (PV.cells (enc y0)) (0+1+1+1) default))),(.sl 5 (PV.asT (List.getD (PV.cells (enc y0)) (0+1+1+1+1) default)) (PV.asXs (List.getD (PV.cells (enc y0)) (0+1+1+1+1) default)))])])=true∧(∃ y1:Int,AV.pv (Zk (fun(x:Cert×Unit)=>Yj x.1) [(.agg [(.int .i64 (PV.asInt (List.getD (PV.cells (enc y0)) 0 default))),(.sl 1 (PV.asT (List.getD (PV.cells (enc y0)) (0+1) default)) (PV.asXs (List.getD (PV.cells (enc y0)) (0+1) default))),(.int .i64 (PV.asInt (List.getD (PV.cells (enc y0)) (0+1+1) default))),(.sl 2 (PV.asT (List.getD (PV.cells (enc y0)) (0+1+1+1) default)) (PV.asXs (List.getD (PV.cells (enc y0)) (0+1+1+1) default))),(.sl 5 (PV.asT (List.getD (PV.cells (enc y0)) (0+1+1+1+1) default)) (PV.asXs (List.getD (PV.cells (enc y0)) (0+1+1+1+1) default)))])])=AV.pv (enc y1)∧(At (K8 N) 0 (Ze QA G) QB 0 19 [(3,(.pv (.int .i64 (IntKind.wrap IntKind.i64 (n+y1))))),(7,(.pv (.sl 5 false (List.map enc ks)))),(8,(.pv (.int .i64 (↑(List.length ks):Int)))),(9,(.pv (.int .i64 (IntKind.wrap IntKind.i64 (i+1)))))] [])))))else(G ((.int .i64 n)))):At (K8 N) 0 (Ze QA G) QB 0 19 [(3,.pv (.int .i64 n)),(7,.pv (enc ks)),(8,.pv (.int .i64 ks.length)),(9,.pv (.int .i64 i))] []:=At.tp (.lit (.ask (.req (.abs (Cert) (fun YY=>AV.pv (PV.rptr (PV.cells ((enc) YY)))) (.req (.req (.abs (Int) (fun YY=>AV.pv (enc YY)) (.lit (.lit (.nil)))))))) (.nil))) h (by kernel_rfl)
noncomputable def Ul:IC:=Xp Proofs.Tryz.f29
def Ux:List IRes:=[(.tmp 2)]
abbrev b6c:Nat:=21
def QL(N:Nat):ZI:=YN [(29,.pure (preT (fun x:Cert×Unit=>Y8 x.1&&decide (ZL x.1<N))) (Zk (fun x:Cert×Unit=>Yj x.1)))]
theorem c2p{G:PV->Prop}(N:Nat)(k:Int)(m:List Int)(l:Lin)(ks:List Cert)(h:At (QL N) 0 (Ze Ux G) Ul 0 21 [(1,(.ptr 0 0)),(3,(.pv (.int .i64 1))),(4,(.pv (.int .i64 0)))] [(.obj (.box [(.pv (.int .i64 k)),(.pv (.sl 1 false (List.map enc m))),(.pv (.int .i64 l.k)),(.pv (.sl 2 false (List.map enc l.t))),(.pv (.sl 5 false (List.map enc ks)))]))]):Zf (QL N) 0 (Ze Ux G) Ul [] (Yp 21 [.agg [enc k,enc m,enc l.k,enc l.t,enc ks]]):=Zf.tp (.nil) h (by kernel_rfl)
theorem NQ{G:PV->Prop}(N:Nat)(k:Int)(m:List Int)(l:Lin)(ks:List Cert)(n i:Int)(h:if (decide (i<(↑(List.length (List.map enc ks)):Int)))=true then(decide (0<=i)&&decide (Int.toNat i<List.length (List.map enc ks))&&Enc.sz Cert==5)=true∧(∃ y0:Cert,AV.pv (PV.rptr (PV.cells (List.getD (List.map enc ks) (Int.toNat i) default)))=AV.pv (PV.rptr (PV.cells ((enc) y0)))∧((decide (0+List.length [Sh.int .i64,Sh.sl 1,Sh.int .i64,Sh.sl 2,Sh.sl 5]<=List.length (PV.cells (enc y0)))&&Xu (PV.cells (enc y0)) 0 [Sh.int .i64,Sh.sl 1,Sh.int .i64,Sh.sl 2,Sh.sl 5])=true∧((Go.Pl.preT (fun(x:Cert×Unit)=>Y8 x.1&&decide (ZL x.1<N)) [(.agg [(.int .i64 (PV.asInt (List.getD (PV.cells (enc y0)) 0 default))),(.sl 1 (PV.asT (List.getD (PV.cells (enc y0)) (0+1) default)) (PV.asXs (List.getD (PV.cells (enc y0)) (0+1) default))),(.int .i64 (PV.asInt (List.getD (PV.cells (enc y0)) (0+1+1) default))),(.sl 2 (PV.asT (List.getD (PV.cells (enc y0)) (0+1+1+1) default)) (PV.asXs (List.getD (PV.cells (enc y0)) (0+1+1+1) default))),(.sl 5 (PV.asT (List.getD (PV.cells (enc y0)) (0+1+1+1+1) default)) (PV.asXs (List.getD (PV.cells (enc y0)) (0+1+1+1+1) default)))])])=true∧(∃ y1:Int,AV.pv (Zk (fun(x:Cert×Unit)=>Yj x.1) [(.agg [(.int .i64 (PV.asInt (List.getD (PV.cells (enc y0)) 0 default))),(.sl 1 (PV.asT (List.getD (PV.cells (enc y0)) (0+1) default)) (PV.asXs (List.getD (PV.cells (enc y0)) (0+1) default))),(.int .i64 (PV.asInt (List.getD (PV.cells (enc y0)) (0+1+1) default))),(.sl 2 (PV.asT (List.getD (PV.cells (enc y0)) (0+1+1+1) default)) (PV.asXs (List.getD (PV.cells (enc y0)) (0+1+1+1) default))),(.sl 5 (PV.asT (List.getD (PV.cells (enc y0)) (0+1+1+1+1) default)) (PV.asXs (List.getD (PV.cells (enc y0)) (0+1+1+1+1) default)))])])=AV.pv (enc y1)∧(At (QL N) 0 (Ze Ux G) Ul 0 21 [(1,(.ptr 0 0)),(3,(.pv (.int .i64 (IntKind.wrap IntKind.i64 (n+y1))))),(4,(.pv (.int .i64 (IntKind.wrap IntKind.i64 (i+1)))))] [(.obj (.box [(.pv (.int .i64 k)),(.pv (.sl 1 false (List.map enc m))),(.pv (.int .i64 l.k)),(.pv (.sl 2 false (List.map enc l.t))),(.pv (.sl 5 false (List.map enc ks)))]))])))))else(G ((.int .i64 n)))):At (QL N) 0 (Ze Ux G) Ul 0 21 [(1,.ptr 0 0),(3,.pv (.int .i64 n)),(4,.pv (.int .i64 i))] [.obj (.box [.pv (enc k),.pv (enc m),.pv (enc l.k),.pv (enc l.t),.pv (enc ks)])]:=At.tp (.lit (.ask (.req (.abs (Cert) (fun YY=>AV.pv (PV.rptr (PV.cells ((enc) YY)))) (.req (.req (.abs (Int) (fun YY=>AV.pv (enc YY)) (.lit (.lit (.nil)))))))) (.nil))) h (by kernel_rfl)
noncomputable def Jy:IC:=Xp Proofs.Tryz.f14
def Jk:List IRes:=[(.tmp 4)]
abbrev d0h:Nat:=26
def G7:ZI:=YN []
theorem d6e{G:PV->Prop}(l:Lin)(n:Int)(h:At G7 0 (Ze Jk G) Jy 0 26 [(1,(.pv (.int .i64 n))),(2,(.ptr 0 0)),(5,(.pv (.int .i64 0)))] [(.obj (.box [(.pv (.int .i64 l.k)),(.pv (.sl 2 false (List.map enc l.t)))]))]):Zf G7 0 (Ze Jk G) Jy [] (Yp 26 [enc l,enc n]):=Zf.tp (.nil) h (by kernel_rfl)
theorem a9i{G:PV->Prop}(l:Lin)(n:Int)(i:Int)(h:if (decide (i<(↑(List.length (List.map enc l.t)):Int)))=true then(decide (0<=i)&&decide (Int.toNat i<List.length (List.map enc l.t))&&Enc.sz Coef==2)=true∧(∃ y0:Coef,AV.pv (PV.rptr (PV.cells (List.getD (List.map enc l.t) (Int.toNat i) default)))=AV.pv (PV.rptr (PV.cells ((enc) y0)))∧(if (decide ((↑(List.length (PV.asStr (List.getD (List.drop 0 (PV.cells (enc y0))) 0 default))):Int)>40))=true then G ((.bool false))else(At G7 0 (Ze Jk G) Jy 0 26 [(1,(.pv (.int .i64 n))),(2,(.ptr 0 0)),(5,(.pv (.int .i64 (IntKind.wrap IntKind.i64 (i+1)))))] [(.obj (.box [(.pv (.int .i64 l.k)),(.pv (.sl 2 false (List.map enc l.t)))]))])))else(G ((.bool (decide ((↑(List.length (List.map enc l.t)):Int)<=n)))))):At G7 0 (Ze Jk G) Jy 0 26 [(1,.pv (.int .i64 n)),(2,.ptr 0 0),(5,.pv (.int .i64 i))] [.obj (.box [.pv (.int .i64 l.k),.pv (enc l.t)])]:=At.tp (.lit (.ask (.req (.abs (Coef) (fun YY=>AV.pv (PV.rptr (PV.cells ((enc) YY)))) (.lit (.lit (.ask (.nil) (.lit (.nil))))))) (.lit (.nil)))) h (by kernel_rfl)
-- IMPOSSIBLE
noncomputable def LG:IC:=Xp Proofs.Tryz.f22
def a6y:List IRes:=[(.cell true 2 2)]
abbrev d6l:Nat:=5
def b9f:ZI:=YN []
theorem e0j{G:PV->Prop}(n:Int)(h:G ((.agg [(.int .i64 n),(.sl 0 true [])]))):Zf b9f 0 (Ze a6y G) LG [] (Yp 5 [enc n]):=Zf.tp (.nil) h (by kernel_rfl)
noncomputable def QO:IC:=Xp Proofs.Tryz.f49
def QU:List IRes:=[(.tmp 4)]
abbrev d1m:Nat:=95
def Hg:ZI:=YN []
theorem d8e{G:PV->Prop}(a b:Lin)(h:At Hg 0 (Ze QU G) QO 0 95 [(2,(.ptr 0 0)),(3,(.ptr 1 0)),(5,(.pv (.int .i64 0)))] [(.obj (.box [(.pv (.int .i64 a.k)),(.pv (.sl 2 false (List.map enc a.t)))])),(.obj (.box [(.pv (.int .i64 b.k)),(.pv (.sl 2 false (List.map enc b.t)))]))]):Zf Hg 0 (Ze QU G) QO [] (Yp 95 [enc a,enc b]):=Zf.tp (.nil) h (by kernel_rfl)
theorem a8g{G:PV->Prop}(a b:Lin)(i:Int)(h:if (decide (i<(↑(List.length (List.map enc a.t)):Int)))=true then if (decide (i<(↑(List.length (List.map enc b.t)):Int)))=true then(decide (0<=i)&&decide (Int.toNat i<List.length (List.map enc a.t))&&Enc.sz Coef==2)=true∧(∃ y0:Coef,AV.pv (PV.rptr (PV.cells (List.getD (List.map enc a.t) (Int.toNat i) default)))=AV.pv (PV.rptr (PV.cells ((enc) y0)))∧((decide (0<=i)&&decide (Int.toNat i<List.length (List.map enc b.t))&&Enc.sz Coef==2)=true∧(∃ y1:Coef,AV.pv (PV.rptr (PV.cells (List.getD (List.map enc b.t) (Int.toNat i) default)))=AV.pv (PV.rptr (PV.cells ((enc) y1)))∧(if (Op.bytesLess (PV.asStr (List.getD (PV.cells (enc y0)) 0 default)) (PV.asStr (List.getD (PV.cells (enc y1)) 0 default)))=true then G ((.int .i64 (-1)))else(if (PV.asStr (List.getD (PV.cells (enc y0)) 0 default)==PV.asStr (List.getD (PV.cells (enc y1)) 0 default))=true then if (decide (PV.asInt (List.getD (PV.cells (enc y0)) (0+1) default)<PV.asInt (List.getD (PV.cells (enc y1)) (0+1) default)))=true then G ((.int .i64 (-1)))else(if (!(PV.asStr (List.getD (PV.cells (enc y0)) 0 default)==PV.asStr (List.getD (PV.cells (enc y1)) 0 default)&&(PV.asInt (List.getD (PV.cells (enc y0)) (0+1) default)==PV.asInt (List.getD (PV.cells (enc y1)) (0+1) default)&&true)))=true then G ((.int .i64 1))else(At Hg 0 (Ze QU G) QO 0 95 [(2,(.ptr 0 0)),(3,(.ptr 1 0)),(5,(.pv (.int .i64 (IntKind.wrap IntKind.i64 (i+1)))))] [(.obj (.box [(.pv (.int .i64 a.k)),(.pv (.sl 2 false (List.map enc a.t)))])),(.obj (.box [(.pv (.int .i64 b.k)),(.pv (.sl 2 false (List.map enc b.t)))]))]))else(if (!(PV.asStr (List.getD (PV.cells (enc y0)) 0 default)==PV.asStr (List.getD (PV.cells (enc y1)) 0 default)&&(PV.asInt (List.getD (PV.cells (enc y0)) (0+1) default)==PV.asInt (List.getD (PV.cells (enc y1)) (0+1) default)&&true)))=true then G ((.int .i64 1))else(At Hg 0 (Ze QU G) QO 0 95 [(2,(.ptr 0 0)),(3,(.ptr 1 0)),(5,(.pv (.int .i64 (IntKind.wrap IntKind.i64 (i+1)))))] [(.obj (.box [(.pv (.int .i64 a.k)),(.pv (.sl 2 false (List.map enc a.t)))])),(.obj (.box [(.pv (.int .i64 b.k)),(.pv (.sl 2 false (List.map enc b.t)))]))])))))))else(if (decide ((↑(List.length (List.map enc a.t)):Int)<(↑(List.length (List.map enc b.t)):Int)))=true then G ((.int .i64 (-1)))else(if ((↑(List.length (List.map enc a.t)):Int)==(↑(List.length (List.map enc b.t)):Int))=true then if (decide (a.k<b.k))=true then G ((.int .i64 (-1)))else(if (decide ((↑(List.length (List.map enc a.t)):Int)>(↑(List.length (List.map enc b.t)):Int)))=true then G ((.int .i64 1))else(if (decide (a.k>b.k))=true then G ((.int .i64 1))else(G ((.int .i64 0)))))else(if (decide ((↑(List.length (List.map enc a.t)):Int)>(↑(List.length (List.map enc b.t)):Int)))=true then G ((.int .i64 1))else(if (decide (a.k>b.k))=true then G ((.int .i64 1))else(G ((.int .i64 0)))))))else(if (decide ((↑(List.length (List.map enc a.t)):Int)<(↑(List.length (List.map enc b.t)):Int)))=true then G ((.int .i64 (-1)))else(if ((↑(List.length (List.map enc a.t)):Int)==(↑(List.length (List.map enc b.t)):Int))=true then if (decide (a.k<b.k))=true then G ((.int .i64 (-1)))else(if (decide ((↑(List.length (List.map enc a.t)):Int)>(↑(List.length (List.map enc b.t)):Int)))=true then G ((.int .i64 1))else(if (decide (a.k>b.k))=true then G ((.int .i64 1))else(G ((.int .i64 0)))))else(if (decide ((↑(List.length (List.map enc a.t)):Int)>(↑(List.length (List.map enc b.t)):Int)))=true then G ((.int .i64 1))else(if (decide (a.k>b.k))=true then G ((.int .i64 1))else(G ((.int .i64 0)))))))):At Hg 0 (Ze QU G) QO 0 95 [(2,.ptr 0 0),(3,.ptr 1 0),(5,.pv (.int .i64 i))] [.obj (.box [.pv (.int .i64 a.k),.pv (enc a.t)]),.obj (.box [.pv (.int .i64 b.k),.pv (enc b.t)])]:=At.tp (.lit (.ask (.lit (.lit (.lit (.lit (.lit (.lit (.ask (.req (.abs (Coef) (fun YY=>AV.pv (PV.rptr (PV.cells ((enc) YY)))) (.lit (.req (.abs (Coef) (fun YY=>AV.pv (PV.rptr (PV.cells ((enc) YY)))) (.lit (.lit (.ask (.lit (.lit (.lit (.lit (.lit (.lit (.lit (.lit (.nil))))))))) (.lit (.lit (.lit (.lit (.lit (.lit (.ask (.lit (.lit (.lit (.lit (.lit (.lit (.lit (.lit (.ask (.nil) (.lit (.ask (.nil) (.lit (.nil))))))))))))) (.lit (.lit (.lit (.lit (.lit (.lit (.lit (.lit (.lit (.ask (.nil) (.lit (.nil))))))))))))))))))))))))))) (.lit (.ask (.lit (.lit (.lit (.lit (.lit (.lit (.lit (.lit (.lit (.lit (.nil))))))))))) (.lit (.lit (.lit (.lit (.lit (.lit (.lit (.lit (.ask (.lit (.lit (.lit (.lit (.lit (.lit (.lit (.lit (.ask (.nil) (.lit (.ask (.lit (.lit (.lit (.lit (.lit (.lit (.nil))))))) (.lit (.lit (.lit (.lit (.lit (.lit (.ask (.nil) (.nil))))))))))))))))))) (.lit (.lit (.lit (.lit (.lit (.lit (.lit (.lit (.lit (.ask (.lit (.lit (.lit (.lit (.lit (.lit (.nil))))))) (.lit (.lit (.lit (.lit (.lit (.lit (.ask (.nil) (.nil)))))))))))))))))))))))))))))))))))) (.lit (.lit (.lit (.lit (.lit (.lit (.lit (.ask (.lit (.lit (.lit (.lit (.lit (.lit (.lit (.lit (.lit (.lit (.nil))))))))))) (.lit (.lit (.lit (.lit (.lit (.lit (.lit (.lit (.ask (.lit (.lit (.lit (.lit (.lit (.lit (.lit (.lit (.ask (.nil) (.lit (.ask (.lit (.lit (.lit (.lit (.lit (.lit (.nil))))))) (.lit (.lit (.lit (.lit (.lit (.lit (.ask (.nil) (.nil))))))))))))))))))) (.lit (.lit (.lit (.lit (.lit (.lit (.lit (.lit (.lit (.ask (.lit (.lit (.lit (.lit (.lit (.lit (.nil))))))) (.lit (.lit (.lit (.lit (.lit (.lit (.ask (.nil) (.nil))))))))))))))))))))))))))))))))))))) h (by kernel_rfl)
noncomputable def a3x:IC:=Xp Proofs.Tryz.f19
def a7a:List IRes:=[(.tmp 4)]
abbrev d7a:Nat:=9
def c1f:ZI:=YN [(49,.pure (preT (fun x:Lin×Lin×Unit=>Yb x.1)) (Zk (fun x:Lin×Lin×Unit=>Nl x.1 x.2.1)))]
theorem e0d{G:PV->Prop}(a b:Lin)(h:(Go.Pl.preT (fun(x:Lin×Lin×Unit)=>Yb x.1) [(.agg [(.int .i64 a.k),(.sl 2 false (List.map enc a.t))]),(.agg [(.int .i64 b.k),(.sl 2 false (List.map enc b.t))])])=true∧(∃ y0:Int,AV.pv (Zk (fun(x:Lin×Lin×Unit)=>Nl x.1 x.2.1) [(.agg [(.int .i64 a.k),(.sl 2 false (List.map enc a.t))]),(.agg [(.int .i64 b.k),(.sl 2 false (List.map enc b.t))])])=AV.pv (enc y0)∧(G ((.bool (y0==0)))))):Zf c1f 0 (Ze a7a G) a3x [] (Yp 9 [enc a,enc b]):=Zf.tp (.req (.abs (Int) (fun YY=>AV.pv (enc YY)) (.lit (.nil)))) h (by kernel_rfl)
end Go.Pl
namespace Go.Pl
open Go.RowKit
open Enc (enc dec is)
open EncL (encL decL isL)
theorem d5o(c:UInt8):digB c=(decide ((c.toNat:Int) ≥ 48)&&decide ((c.toNat:Int)<=57)):=by
 simp only[digB,UInt8.le_iff_toNat_le,ge_iff_le]
 have e1:(48:UInt8).toNat=48:=rfl
 have e2:(57:UInt8).toNat=57:=rfl
 rw[e1,e2]
 congr 1 <;> exact decide_eq_decide.2 (by omega)
theorem d8n(c:UInt8):VW c=(decide ((c.toNat:Int) ≥ 97)&&decide ((c.toNat:Int)<=122)):=by
 simp only[VW,UInt8.le_iff_toNat_le,ge_iff_le]
 have e1:(97:UInt8).toNat=97:=rfl
 have e2:(122:UInt8).toNat=122:=rfl
 rw[e1,e2]
 congr 1 <;> exact decide_eq_decide.2 (by omega)
theorem Li{a b:Bool}{G:PV->Prop}(h:G (.bool (a&&b))):if a=true then G (.bool b)else G (.bool false):=by cases a <;> simpa using h
theorem b8s: ∀ a:UInt8×Unit,true=true->Zf a5j 0 (Ze Oy (ZB (digB a.1))) Ls [] (Yp d0r (encL a)):=by
 rintro⟨c,⟨⟩⟩ -
 exact d7j c (Li (ZY (d5o c).symm))
theorem c3o: ∀ a:UInt8×Unit,true=true->Zf a6m 0 (Ze Oi (ZB (VW a.1))) FJ [] (Yp c8d (encL a)):=by
 rintro⟨c,⟨⟩⟩ -
 exact d8v c (Li (ZY (d8n c).symm))
theorem a3o: ∀ a:Int×Unit,true=true->Zf Ps 0 (Ze BV (ZB (Yy a.1))) Ho [] (Yp b6x (encL a)):=by
 rintro⟨n,⟨⟩⟩ -
 exact c6b n (Li (ZY rfl))
theorem d2w: ∀ a:Int×Unit,true=true->Zf b9h 0 (Ze a3v (ZB (Yy a.1))) a3j [] (Yp d7e (encL a)):=by
 rintro⟨n,⟨⟩⟩ -
 exact d9u n (Li (ZY rfl))
theorem b8f(s:List UInt8)(hs:s.length<=30): ∀ (j i:Nat),j+i=s.length->At Vg 0 (Ze We (ZB ((s.drop i).all digB))) XZ 0 62 [(0,.pv (.str s)),(3,.pv (.int .i64 i))] []:=by
 intro j
 induction j with
 | zero=>
  intro i hi
  refine a2b s i ?_
  rw[if_neg (UX (by omega))]
  exact ZY (by rw[List.drop_of_length_le (by omega)];rfl)
 | succ j ih=>
  intro i hi
  have hlt:i<s.length:=by omega
  refine a2b s i ?_
  rw[if_pos (U4 hlt)]
  have eg:List.getD s (Int.toNat (i:Int)) 0=s[i]:=by simp[List.getD,hlt]
  rw[eg,next (by omega)]
  refine⟨by simp[hlt],Zo (s[i],()) rfl rfl,Zq (s[i],()) rfl ?_⟩
  rw[List.drop_eq_getElem_cons hlt,List.all_cons]
  show if (!digB s[i])=true then _ else _
  cases hd:digB s[i]
  ·exact ZY rfl
  ·rw[if_neg (by simp)]
   simpa using ih (i+1) (by omega)
theorem b8e(s:List UInt8)(hs:s.length<=30): ∀ (j i:Nat),j+i=s.length->0<i->At Vg 0 (Ze We (ZB ((s.drop i).all fun c=>VW c||digB c))) XZ 1 62 [(0,.pv (.str s)),(4,.pv (.int .i64 i))] []:=by
 intro j
 induction j with
 | zero=>
  intro i hi _
  refine Rq s i ?_
  rw[if_neg (UX (by omega))]
  exact ZY (by rw[List.drop_of_length_le (by omega)];rfl)
 | succ j ih=>
  intro i hi h0
  have hlt:i<s.length:=by omega
  refine Rq s i ?_
  rw[if_pos (U4 hlt)]
  have eg:List.getD s (Int.toNat (i:Int)) 0=s[i]:=by simp[List.getD,hlt]
  rw[eg,next (by omega)]
  refine⟨by simp[hlt],Zo (s[i],()) rfl rfl,Zq (s[i],()) rfl ?_⟩
  rw[List.drop_eq_getElem_cons hlt,List.all_cons]
  show if (!VW s[i])=true then _ else _
  cases hd:VW s[i]
  ·rw[d4q,if_neg (by simp;omega)]
   refine⟨by simp[hlt],Zo (s[i],()) rfl rfl,Zq (s[i],()) rfl ?_⟩
   show if (!digB s[i])=true then _ else _
   cases hd:digB s[i]
   ·exact ZY rfl
   ·rw[if_neg (by simp)]
    simpa using ih (i+1) (by omega) (by omega)
  ·rw[if_neg (by simp)]
   simpa using ih (i+1) (by omega) (by omega)
theorem b1y: ∀ a:Str×Unit,true=true->Zf Vg 0 (Ze We (ZB (YZ a.1))) XZ [] (Yp b7t (encL a)):=by
 rintro⟨⟨s⟩,⟨⟩⟩ -
 refine c9p s ?_
 cases s with
 | nil=>exact ZY rfl
 | cons c r=>
  rw[if_neg (by simp;omega)]
  by_cases h30:((c::r).length:Int)>30
  ·rw[if_pos (by simpa using h30)]
   refine ZY ?_
   have : ¬ r.length<=29:=by simp at h30;omega
   have h9 : ¬ r.length<=9:=by omega
   simp[YZ,this,h9]
  ·rw[if_neg (by simpa using h30)]
   have hl:(c::r).length<=30:=by omega
   refine⟨by simp,?_⟩
   show if ((c.toNat:Int)==95)=true then _ else _
   by_cases hc:c=95
   ·subst hc
    rw[if_pos (by rfl)]
    simp only[YZ,if_true]
    cases r with
    | nil=>exact ZY rfl
    | cons d r=>
     rw[if_neg (by simp;omega)]
     by_cases h10:((95::d::r:List UInt8).length:Int)>10
     ·rw[if_pos (by simpa using h10)]
      refine ZY ?_
      have:decide ((d::r).length<=9)=false:=decide_eq_false (by simp at h10 ⊢;omega)
      rw[this,Bool.and_false]
     ·rw[if_neg (by simpa using h10)]
      refine⟨by simp,?_⟩
      show if ((d.toNat:Int)==48)=true then _ else _
      by_cases hd:d=48
      ·subst hd
       rw[if_pos (by rfl)]
       exact ZY (by simp)
      ·rw[if_neg (by exact d4w 48 hd (by omega))]
       have h:=b8f (95::d::r) hl (d::r).length 1 (by simp)
       have e:(d::r).length<=9:=by simp at h10 ⊢;omega
       have e2:((d::r).all digB&& !(d::r).isEmpty&&decide ((d::r).head? ≠ some 48)&&decide ((d::r).length<=9))=(d::r).all digB:=by rw[decide_eq_true e,show decide ((d::r).head? ≠ some (48:UInt8))=true by simpa using hd];simp
       rw[e2]
       exact h
   ·rw[if_neg (by exact d4w 95 hc (by omega))]
    refine Rq (c::r) 0 ?_
    rw[if_pos (by simp)]
    refine⟨by simp,Zo (c,()) rfl rfl,Zq (c,()) rfl ?_⟩
    show if (!VW c)=true then _ else _
    have en:YZ ⟨c::r⟩=(VW c&&r.all (fun c=>VW c||digB c)):=by
     have:r.length<=29:=by simp at hl;omega
     simp[YZ,hc,this]
    rw[en]
    cases hlow:VW c
    ·rw[d4q,if_pos (by rfl)]
     exact ZY rfl
    ·rw[if_neg (by simp)]
     exact b8e (c::r) hl r.length 1 (by simp) (by omega)
def TD(prev:Option (List UInt8)):List Coef->Bool
 | []=>true
 | t::r=>YZ t.v&&decide (t.c≠0)&&Yy t.c&&(match prev with|none=>true|some p=>decide (p<t.v.s))&&TD (some t.v.s) r
theorem DX(p:Option (List UInt8))(t:Coef)(r:List Coef):TD p (t::r)=(YZ t.v&&decide (t.c≠0)&&Yy t.c&&(match p with|none=>true|some p=>decide (p<t.v.s))&&TD (some t.v.s) r):=by cases p <;> rfl
theorem ET: ∀ (l:List Coef) (p:List UInt8),TD (some p) l=(l.all (fun t=>YZ t.v&&decide (t.c≠0)&&Yy t.c)&&(match l with|[]=>true|t::_=>decide (p<t.v.s))&&Nq l)
 | [],p=>by simp[TD,Nq]
 | t::r,p=>by
  rw[DX,ET r]
  cases r with
  | nil=>simp[Nq]
  | cons u r=>
   simp only[List.all_cons,Nq]
   ac_rfl
theorem c1p(l:List Coef):TD none l=(l.all (fun t=>YZ t.v&&decide (t.c≠0)&&Yy t.c)&&Nq l):=by
 cases l with
 | nil=>simp[TD,Nq]
 | cons t r=>
  rw[DX,ET r]
  cases r with
  | nil=>simp[Nq]
  | cons u r=>
   simp only[List.all_cons,Nq,Bool.and_true]
   ac_rfl
theorem EY(l:Lin):Zm l=(Yy l.k&&decide (l.t.length<=12)&&TD none l.t):=by
 rw[c1p,Zm]
 ac_rfl
def pvS(ts:List Coef):Nat->Option (List UInt8)
 | 0=>none
 | i+1=>(ts[i]?).map (·.v.s)
theorem a9j{k:Nat}(h:k<9223372036854775807):IntKind.i64.wrap (((k+1:Nat):Int) - 1)=(k:Int):=by rw[Yn (by omega) (by omega)];omega
theorem Eu(l:Lin)(hl:l.t.length<=9223372036854775807): ∀ (j i:Nat),j+i=l.t.length->At VM 0 (Ze WR (ZB (TD (pvS l.t i) (l.t.drop i)))) WL 0 58 [(1,.ptr 0 0),(3,.pv (.int .i64 i))] [.obj (.box [.pv (.int .i64 l.k),.pv (enc l.t)])]:=by
 intro j
 induction j with
 | zero=>
  intro i hi
  refine NM l i ?_
  rw[if_neg (Gx (by omega))]
  exact ZY (by rw[List.drop_of_length_le (by omega)];rfl)
 | succ j ih=>
  intro i hi
  have hlt:i<l.t.length:=by omega
  have h:=ih (i+1) (by omega)
  refine NM l i ?_
  simp only[co1,co2,co3,co4]
  refine Zu (Gy hlt) ⟨YU hlt rfl,WB hlt (Zq (l.t[i].v,()) rfl (WV (fun hn=> ?_) fun hn=>Qe (fun hc=> ?_) fun hc=>Zq (l.t[i].c,()) rfl (WV (fun hk=> ?_) fun hk=> ?_)))⟩
  all_goals rw[List.drop_eq_getElem_cons hlt,DX]
  ·have hn:YZ l.t[i].v=false:=hn
   exact ZY (by simp[hn])
  ·exact ZY (by simp[hc])
  ·have hk:Yy l.t[i].c=false:=hk
   exact ZY (by simp[hk])
  have hn:YZ l.t[i].v=true:=hn
  have hk:Yy l.t[i].c=true:=hk
  rw[next (by omega),hn,hk,decide_eq_true hc]
  have ep:pvS l.t (i+1)=some l.t[i].v.s:=by simp[pvS,hlt]
  rw[ep]at h
  cases i with
  | zero=>exact Zv (by simp) h
  | succ i=>
   refine Zu (by simp) ?_
   rw[a9j (by omega)]
   refine⟨YU (by omega) rfl,WB (by omega) ?_⟩
   have e2:pvS l.t (i+1)=some l.t[i].v.s:=by simp[pvS,show i<l.t.length by omega]
   rw[e2]
   refine WV (fun hb=> ?_) fun hb=> ?_
   all_goals
    have hb':=(YV l.t[i].v.s l.t[i+1].v.s).symm.trans hb
    simp only[hb',Bool.and_true,Bool.true_and,Bool.and_false,Bool.false_and]
   ·exact ZY rfl
   ·exact h
theorem a3s: ∀ a:Lin×Unit,Yb a.1=true->Zf VM 0 (Ze WR (ZB (Zm a.1))) WL [] (Yp b2w (encL a)):=by
 rintro⟨l,⟨⟩⟩ hl
 have hl:l.t.length<=9223372036854775807:=by simpa [Yb]using hl
 refine c6p l (Zq (l.k,()) rfl ?_)
 show if (!Yy l.k)=true then _ else _
 show if (!Yy l.k)=true then ZB (Zm l) _ else if _ then ZB (Zm l) _ else At VM 0 (Ze WR (ZB (Zm l))) WL 0 58 _ _
 rw[EY]
 cases hk:Yy l.k
 ·exact ZY rfl
 rw[d8z]
 by_cases h12:l.t.length<=12
 ·rw[if_neg (by simp;omega)]
  have h:=Eu l hl l.t.length 0 (by omega)
  simp only[h12,decide_true,Bool.true_and]
  exact h
 ·rw[if_pos (by simp;omega)]
  exact ZY (by simp[h12])
theorem De{k:Int}{m:List Int}{l:Lin}{ks:List Cert}(h:Y8 (.mk k m l ks)=true):m.length<=9223372036854775807∧l.t.length<=9223372036854775807∧ks.length<=9223372036854775807∧Ug ks=true:=by
 simp only[Y8,Yb,Bool.and_eq_true,decide_eq_true_eq]at h
 exact⟨h.1.1.1,h.1.1.2,h.1.2,h.2⟩
theorem Qg(k:Int)(m:List Int)(l:Lin)(ks:List Cert):([PV.agg [enc k,enc m,enc l.k,enc l.t,enc ks]]:List PV)=[enc (Cert.mk k m l ks)]:=by rw[ZO]
theorem a7i(N:Nat)(k:Int)(m:List Int)(l:Lin)(ks:List Cert)(hN:XN ks<N)(hlen:ks.length<=9223372036854775807)(hok:Ug ks=true): ∀ (j i:Nat) (n:Int),j+i=ks.length->At (K8 N) 0 (Ze QA (ZB (Y4 n (ks.drop i)))) QB 0 19 [(3,.pv (.int .i64 n)),(7,.pv (enc ks)),(8,.pv (.int .i64 ks.length)),(9,.pv (.int .i64 i))] []:=by
 intro j
 induction j with
 | zero=>
  intro i n hi
  exact a1f N k m l ks n i (Zv (UX (by omega)) (U3 (by rw[List.drop_of_length_le (by omega),Y4])))
 | succ j ih=>
  intro i n hi
  have hlt:i<ks.length:=by omega
  have h:=ih (i+1) (V9 (n+Yj ks[i])) (by omega)
  have hd:=Qo (List.getElem_mem hlt)
  have ho:=UI hok (List.getElem_mem hlt)
  refine a1f N k m l ks n i (Zu (U4 hlt) ⟨YU hlt rfl,WB hlt ?_⟩)
  rw[List.drop_eq_getElem_cons hlt,Y4,next (by omega)]
  generalize ks[i]=c at h hd ho ⊢
  obtain⟨k',m',l',ks'⟩:=c
  rw[ZO]
  exact⟨rfl,Zo (.mk k' m' l' ks',()) (Qg k' m' l' ks') (by show(Y8 _&&decide _)=true;rw[ho,decide_eq_true (show ZL (Cert.mk k' m' l' ks')<N by omega)];rfl),Zq (.mk k' m' l' ks',()) (Qg k' m' l' ks') h⟩
theorem b0s(N:Nat): ∀ a:Cert×Unit,(Y8 a.1&&decide (ZL a.1<N+1))=true->Zf (K8 N) 0 (Ze QA (ZB (Yj a.1))) QB [] (Yp c4p (encL a)):=by
 rintro⟨⟨k,m,l,ks⟩,⟨⟩⟩ h
 simp only[Bool.and_eq_true,decide_eq_true_eq]at h
 obtain⟨h1,h2,h3,h4⟩:=De h.1
 have h5:ZL (Cert.mk k m l ks)<N+1:=h.2
 rw[ZL]at h5
 have e:(encL ((Cert.mk k m l ks,()):Cert×Unit):List PV)=[PV.agg [enc k,enc m,enc l.k,enc l.t,enc ks]]:=(Qg k m l ks).symm
 rw[e]
 refine d3r N k m l ks ?_
 have:=a7i N k m l ks (by omega) h3 h4 ks.length 0 1 (by omega)
 rw[List.length_map]
 exact this
theorem EA(N:Nat)(k:Int)(m:List Int)(l:Lin)(ks:List Cert)(hN:XN ks<N)(hlen:ks.length<=9223372036854775807)(hok:Ug ks=true): ∀ (j i:Nat) (n:Int),j+i=ks.length->At (QL N) 0 (Ze Ux (ZB (Y4 n (ks.drop i)))) Ul 0 21 [(1,.ptr 0 0),(3,.pv (.int .i64 n)),(4,.pv (.int .i64 i))] [.obj (.box [.pv (enc k),.pv (enc m),.pv (enc l.k),.pv (enc l.t),.pv (enc ks)])]:=by
 intro j
 induction j with
 | zero=>
  intro i n hi
  exact NQ N k m l ks n i (Zv (Gx (by omega)) (U3 (by rw[List.drop_of_length_le (by omega),Y4])))
 | succ j ih=>
  intro i n hi
  have hlt:i<ks.length:=by omega
  have h:=ih (i+1) (V9 (n+Yj ks[i])) (by omega)
  have hd:=Qo (List.getElem_mem hlt)
  have ho:=UI hok (List.getElem_mem hlt)
  refine NQ N k m l ks n i (Zu (Gy hlt) ⟨YU hlt rfl,WB hlt ?_⟩)
  rw[List.drop_eq_getElem_cons hlt,Y4,next (by omega)]
  generalize ks[i]=c at h hd ho ⊢
  obtain⟨k',m',l',ks'⟩:=c
  rw[ZO]
  exact⟨rfl,Zo (.mk k' m' l' ks',()) (Qg k' m' l' ks') (by show(Y8 _&&decide _)=true;rw[ho,decide_eq_true (show ZL (Cert.mk k' m' l' ks')<N by omega)];rfl),Zq (.mk k' m' l' ks',()) (Qg k' m' l' ks') h⟩
theorem a5h(N:Nat): ∀ a:Cert×Unit,(Y8 a.1&&decide (ZL a.1<N+1))=true->Zf (QL N) 0 (Ze Ux (ZB (Yj a.1))) Ul [] (Yp b6c (encL a)):=by
 rintro⟨⟨k,m,l,ks⟩,⟨⟩⟩ h
 simp only[Bool.and_eq_true,decide_eq_true_eq]at h
 obtain⟨h1,h2,h3,h4⟩:=De h.1
 have h5:ZL (Cert.mk k m l ks)<N+1:=h.2
 rw[ZL]at h5
 have e:(encL ((Cert.mk k m l ks,()):Cert×Unit):List PV)=[PV.agg [enc k,enc m,enc l.k,enc l.t,enc ks]]:=(Qg k m l ks).symm
 rw[e]
 refine c2p N k m l ks ?_
 exact EA N k m l ks (by omega) h3 h4 ks.length 0 1 (by omega)
theorem b3m(l:Lin)(n:Int)(hl:l.t.length<=9223372036854775807): ∀ (j i:Nat),j+i=l.t.length->At G7 0 (Ze Jk (ZB ((l.t.drop i).all (fun t=>decide (t.v.s.length<=40))&&decide ((l.t.length:Int)<=n)))) Jy 0 26 [(1,.pv (.int .i64 n)),(2,.ptr 0 0),(5,.pv (.int .i64 i))] [.obj (.box [.pv (.int .i64 l.k),.pv (enc l.t)])]:=by
 intro j
 induction j with
 | zero=>
  intro i hi
  exact a9i l n i (Zv (Gx (by omega)) (ZY (by rw[List.drop_of_length_le (by omega),List.length_map];rfl)))
 | succ j ih=>
  intro i hi
  have hlt:i<l.t.length:=by omega
  have h:=ih (i+1) (by omega)
  refine a9i l n i (Zu (Gy hlt) ⟨YU hlt rfl,WB hlt ?_⟩)
  rw[List.drop_eq_getElem_cons hlt,List.all_cons,next (by omega)]
  refine Qz (fun h40=> ?_) fun h40=> ?_
  ·have h40:(l.t[i].v.s.length:Int)>40:=h40
   exact ZY (by rw[decide_eq_false (show ¬ l.t[i].v.s.length<=40 by omega)];rfl)
  ·have h40 : ¬ (l.t[i].v.s.length:Int)>40:=h40
   rw[decide_eq_true (show l.t[i].v.s.length<=40 by omega),Bool.true_and]
   exact h
theorem b9e: ∀ a:Lin×Int×Unit,Yb a.1=true->Zf G7 0 (Ze Jk (ZB (GI a.1 a.2.1))) Jy [] (Yp d0h (encL a)):=by
 rintro⟨l,n,⟨⟩⟩ hl
 exact d6e l n (b3m l n (by simpa [Yb]using hl) l.t.length 0 (by omega))
theorem M7(N:Nat)(k:Int)(m:List Int)(l:Lin)(ks:List Cert)(hN:XN ks<N)(hlen:ks.length<=9223372036854775807)(hok:Ug ks=true): ∀ (j i:Nat) (n:Int),j+i=ks.length->At (Uj N) 0 (Ze Vx (ZB (WM (ks.drop i) n))) Vq 0 51 [(1,.pv (.int .i64 n)),(2,.ptr 0 0),(5,.pv (.int .i64 i))] [.obj (.box [.pv (enc k),.pv (enc m),.pv (enc l.k),.pv (enc l.t),.pv (enc ks)])]:=by
 intro j
 induction j with
 | zero=>
  intro i n hi
  exact PL N k m l ks n i (Zv (Gx (by omega)) (ZY (by rw[List.drop_of_length_le (by omega),WM])))
 | succ j ih=>
  intro i n hi
  have hlt:i<ks.length:=by omega
  have h:=ih (i+1) (V9 (n - Yj ks[i])) (by omega)
  have hd:=Qo (List.getElem_mem hlt)
  have ho:=UI hok (List.getElem_mem hlt)
  refine PL N k m l ks n i (Zu (Gy hlt) ⟨YU hlt rfl,WB hlt ⟨UM _,?_⟩⟩)
  simp only[K3]
  refine⟨Zo (ks[i],V9 (n - 1),()) rfl (by show(Y8 _&&decide _)=true;rw[ho,decide_eq_true (show ZL ks[i]<N by omega)];rfl),Zq (ks[i],V9 (n - 1),()) rfl ?_⟩
  rw[List.drop_eq_getElem_cons hlt,WM,next (by omega)]
  refine WV (fun hf=> ?_) fun hf=> ?_
  ·have hf:Xe ks[i] (V9 (n - 1))=false:=hf
   exact ZY (by rw[hf];rfl)
  ·have hf:Xe ks[i] (V9 (n - 1))=true:=hf
   rw[hf,Bool.true_and]
   refine⟨YU hlt rfl,WB hlt ⟨UM _,?_⟩⟩
   exact⟨Zo (ks[i],()) rfl ho,Zq (ks[i],()) rfl h⟩
theorem a2f(N:Nat): ∀ a:Cert×Int×Unit,(Y8 a.1&&decide (ZL a.1<N+1))=true->Zf (Uj N) 0 (Ze Vx (ZB (Xe a.1 a.2.1))) Vq [] (Yp a6k (encL a)):=by
 rintro⟨⟨k,m,l,ks⟩,n,⟨⟩⟩ h
 simp only[Bool.and_eq_true,decide_eq_true_eq]at h
 obtain⟨h1,h2,h3,h4⟩:=De h.1
 have h5:ZL (Cert.mk k m l ks)<N+1:=h.2
 rw[ZL]at h5
 have e:(encL ((Cert.mk k m l ks,n,()):Cert×Int×Unit):List PV)=[PV.agg [enc k,enc m,enc l.k,enc l.t,enc ks],enc n]:=by
  show [enc (Cert.mk k m l ks),enc n]=_
  rw[ZO]
 rw[e]
 have hlo:Yb l=true:=by simpa [Yb]using h2
 refine b3k N k m l ks n ?_
 show if decide (((List.map (enc:Int->PV) m).length:Int)>60)=true then ZB (Xe (.mk k m l ks) n) _ else _
 rw[List.length_map,Xe]
 refine Qz (fun g1=>ZY (by rw[decide_eq_true g1];rfl)) fun g1=>⟨Zo (l,8,()) rfl hlo,Zq (l,8,()) rfl ?_⟩
 rw[decide_eq_false g1]
 refine WV (fun g2=> ?_) fun g2=>Qz (fun g3=> ?_) fun g3=> ?_
 ·have g2:GI l 8=false:=g2
  exact ZY (by rw[g2];rfl)
 ·have g2:GI l 8=true:=g2
  exact ZY (by rw[g2,decide_eq_true g3];rfl)
 have g2:GI l 8=true:=g2
 rw[g2,decide_eq_false g3]
 show if decide (((List.map (enc:Cert->PV) ks).length:Int)>n)=true then _ else _
 rw[List.length_map]
 refine Qz (fun g4=>ZY (by rw[decide_eq_true g4];rfl)) fun g4=> ?_
 rw[decide_eq_false g4]
 exact M7 N k m l ks (by omega) h3 h4 ks.length 0 n (by omega)
theorem a3k: ∀ a:Int×Unit,decide (a.1=1)=true->Zf Rb 0 (Ze Ac (ZB b0j)) Ga [] (Yp b1x (encL a)):=by
 rintro⟨n,⟨⟩⟩ h
 obtain rfl:n=1:=by simpa using h
 exact b8x ⟨rfl,rfl⟩
theorem a4h: ∀ a:Int×Unit,decide (a.1 = -1)=true->Zf Ph 0 (Ze Au (ZB b0c)) Aj [] (Yp b4z (encL a)):=by
 rintro⟨n,⟨⟩⟩ h
 obtain rfl:n = -1:=by simpa using h
 exact c1b (Zq ((1:Int),()) rfl ⟨by decide,rfl,rfl⟩)
theorem a1h: ∀ a:Lin×Unit,decide (a.1=exL)=true->Zf Uk 0 (Ze Vu (ZB FO)) Vv [] (Yp a7h (encL a)):=by
 rintro⟨l,⟨⟩⟩ h
 obtain rfl:l=exL:=by simpa using h
 have hv:Zm exL=true:=by decide
 refine b4q (Zq (exL,()) rfl (WV (fun hf=> ?_) fun _=> ?_))
 ·have hf:Zm exL=false:=hf
  rw[hv]at hf;cases hf
 exact a1l [] ⟨by decide,Eh (Zq ((-1:Int),()) rfl ⟨by decide,rfl,rfl⟩)⟩
theorem b5r: ∀ a:List Int×Unit,true=true->Zf F6 0 (Ze RN (ZB (Cert.mk 1 a.1 ⟨0,[]⟩ []))) Rc [] (Yp c3n (encL a)):=by
 rintro⟨m,⟨⟩⟩ -
 refine c8c m ⟨?_,?_⟩
 ·rw[d1v]
  show(true&&is (List Int) (enc m)&&true&&true&&true)=true
  rw[Enc.is_enc];rfl
 ·rw[c3f _ _ _ _ _ rfl]
  show Cert.mk 1 (dec (enc m)) ⟨0,[]⟩ []=_
  rw[Enc.dec_enc]
def nS:Str:=⟨[110]⟩
def GN:List Fact:=[⟨true,⟨-1,[⟨nS,2⟩]⟩⟩]
def d9f:Lin:=⟨0,[⟨nS,-1⟩]⟩
def KG(m:List Int):Cert:=.mk 1 m ⟨0,[]⟩ []
def d8c:Cert:=.mk 2 [-1,0] ⟨0,[]⟩ [KG [0,1,1]]
def exC:Cert:=.mk 2 [1] ⟨0,[]⟩ [d8c]
theorem b1f(x:List UInt8):Wt [x]=[x]:=by simp[Wt]
theorem a2m(n:Int)(s:Str)(c:Int):FD n [(s,c)]=if Zm ⟨(CP n (VG [c])).1,[⟨s,V9 (c.tdiv (VG [c]))⟩]⟩then(⟨(CP n (VG [c])).1,[⟨s,V9 (c.tdiv (VG [c]))⟩]⟩,0)else(⟨0,[]⟩,3):=by
 simp[FD,UG,GY,Yx,b1f,Kg,KO]
theorem Le:Y3 GN [1]=(exL,0):=by
 have h1:ZT GN=true:=by decide
 have h2:Nc GN [1]=true:=by decide
 have h3:Xb GN [1]=(-1,[(nS,2)]):=by decide
 have h4:Sl [(nS,2)]=[(nS,2)]:=by decide
 rw[Y3,h1,h2,h3,if_pos rfl,if_pos rfl,h4,a2m]
 decide
def b0w:List Fact:=Yv GN exL
theorem d1g:Y3 b0w [-1,0]=(d9f,0):=by
 have h1:ZT b0w=true:=by decide
 have h2:Nc b0w [-1,0]=true:=by decide
 have h3:Xb b0w [-1,0]=(1,[(nS,-2)]):=by decide
 have h4:Sl [(nS,-2)]=[(nS,-2)]:=by decide
 rw[Y3,h1,h2,h3,if_pos rfl,if_pos rfl,h4,a2m]
 decide
theorem d6f:Xq GN exC=true:=by
 have h3:b4m (Yv b0w d9f) [0,1,1]=true:=by decide
 have e1:Yv GN (Y3 GN [1]).1=b0w:=by rw[Le];rfl
 have b1:Y0 exC 1 true=true:=by decide
 have b2:Y0 d8c 1 true=true:=by decide
 have b3:Y0 (KG [0,1,1]) 0 true=true:=by decide
 unfold exC
 rw[a0r,e1]
 unfold d8c
 rw[a0r,d1g]
 unfold KG
 rw[N7,h3]
 rw[Le]
 decide
theorem c8u:Xq GN (KG [1])=false:=by
 unfold KG
 rw[N7]
 decide
theorem c5y:V5 GN exC=0:=by
 have h1:ZT GN=true:=by decide
 have h2 : ¬ Yj exC>1000:=by decide
 rw[V5,h1,if_pos rfl,if_neg (by decide),if_neg h2,d6f,if_pos rfl]
theorem b6t:V5 GN (KG [1])=18:=by
 have h1:ZT GN=true:=by decide
 have h2 : ¬ Yj (KG [1])>1000:=by decide
 rw[V5,h1,if_pos rfl,if_neg (by decide),if_neg h2,c8u]
 rfl
def Sy(p:PV):PV:=.agg [.int .i64 2,.sl 1 false [.int .i64 1],.int .i64 0,.sl 0 true [],.sl 5 false [.agg [.int .i64 2,.sl 1 false [.int .i64 (-1),.int .i64 0],.int .i64 0,.sl 0 true [],.sl 5 false [p]]]]
theorem a2a(y:Cert):(dec (Sy (enc y)):Cert) = .mk 2 [1] ⟨0,[]⟩ [.mk 2 [-1,0] ⟨0,[]⟩ [y]]:=by
 have h:(dec (Sy (enc y)):Cert) = .mk 2 [1] ⟨0,[]⟩ [.mk 2 [-1,0] ⟨0,[]⟩ [Gw (KA y)]]:=rfl
 rw[h,OE]
theorem a8a(y:Cert):is Cert (Sy (enc y))=true:=by
 have h:is Cert (Sy (enc y))=((Qv (KA y)&&true)&&true):=rfl
 rw[h,LX];rfl
theorem a4d: ∀ a:Unit,true=true->Zf Tv 0 (Ze BH (ZB true)) BD [] (Yp b6m (encL a)):=by
 rintro⟨⟩ -
 have ep:MQ (⟨-1,[]⟩:Lin) nS 2=⟨-1,[⟨nS,2⟩]⟩:=by decide
 have hf:Zt GN=true:=by decide
 have hc:Kh exC=true:=by decide
 have hc1:Kh (KG [1])=true:=by decide
 have i1:isL (List Fact×Cert×Unit) [enc GN,Sy (enc (KG [0,1,1]))]=true:=by
  show(is (List Fact) (enc GN)&&(is Cert (Sy (enc (KG [0,1,1])))&&true))=true
  rw[a8a,Enc.is_enc];rfl
 have d1:(decL [enc GN,Sy (enc (KG [0,1,1]))]:List Fact×Cert×Unit)=(GN,exC,()):=by
  show((dec (enc GN):List Fact),(dec (Sy (enc (KG [0,1,1]))):Cert),())=_
  rw[a2a,Enc.dec_enc];rfl
 have i2:isL (Cert×Unit) [Sy (enc (KG [0,1,1]))]=true:=by
  show(is Cert (Sy (enc (KG [0,1,1])))&&true)=true
  rw[a8a];rfl
 have d2:(decL [Sy (enc (KG [0,1,1]))]:Cert×Unit)=(exC,()):=by
  show((dec (Sy (enc (KG [0,1,1]))):Cert),())=_
  rw[a2a];rfl
 refine b8n (Zq ((-1:Int),()) rfl ⟨Zo (⟨-1,[]⟩,nS,2,()) rfl (by decide),Zq (⟨-1,[]⟩,nS,2,()) rfl (Zq ([0,1,1],()) rfl ⟨?_,?_⟩)⟩)
 ·rfl
 simp only[ep]
 refine⟨Zo (GN,[1],()) rfl (by decide),Zq (GN,[1],()) rfl ?_⟩
 simp only[Le]
 refine⟨Ox (GN,exC,()) i1 d1 (by show(Zt GN&&Kh exC&&decide (GN.length+ZL exC<=300))=true;rw[hf,hc];decide),Kr (GN,exC,()) d1 ?_⟩
 simp only[c5y]
 refine Zu rfl (Zq ([1],()) rfl ⟨Zo (GN,KG [1],()) rfl (by show(Zt GN&&Kh (KG [1])&&decide (GN.length+ZL (KG [1])<=300))=true;rw[hf,hc1];decide),Zq (GN,KG [1],()) rfl ?_⟩)
 simp only[b6t]
 refine Zu rfl ⟨Ox (exC,()) i2 d2 (by decide),Kr (exC,()) d2 ?_⟩
 have hz:Yj exC=3:=by decide
 simp only[hz]
 refine Zu rfl (Zu rfl ⟨Zo (exL,()) rfl (by decide),Zq (exL,()) rfl (Zu rfl ⟨Zo (GN,()) rfl hf,Zq (GN,()) rfl (ZY (by decide))⟩)⟩)
def Ty(x y:List Coef)(a b:Int):Int:=if Cf x y≠0 then Cf x y else Su a b
theorem b0t(a b:Lin)(hl:a.t.length<=9223372036854775807): ∀ (m i:Nat),m+i=a.t.length->i<=b.t.length->At Hg 0 (Ze QU (ZB (Ty (a.t.drop i) (b.t.drop i) a.k b.k))) QO 0 95 [(2,.ptr 0 0),(3,.ptr 1 0),(5,.pv (.int .i64 i))] [.obj (.box [.pv (.int .i64 a.k),.pv (enc a.t)]),.obj (.box [.pv (.int .i64 b.k),.pv (enc b.t)])]:=by
 intro m
 induction m with
 | zero=>
  intro i hi hb
  refine a8g a b i (Zv (Gx (by omega)) ?_)
  rw[List.drop_of_length_le (show a.t.length<=i by omega)]
  refine Qz (fun h1=> ?_) fun h1=> ?_
  ·simp only[List.length_map]at h1
   refine U3 ?_
   obtain⟨t,r,e⟩ : ∃ t r,b.t.drop i=t::r:=by
    cases e:b.t.drop i with
    | nil=>have:=List.length_drop (l:=b.t) (i:=i);rw[e]at this;simp at this;omega
    | cons t r=>exact⟨t,r,rfl⟩
   rw[e];rfl
  ·simp only[List.length_map]at h1
   have e:b.t.drop i=[]:=List.drop_of_length_le (by omega)
   rw[e]
   have hlen:(List.length (List.map (enc:Coef->PV) a.t):Int)=(List.length (List.map (enc:Coef->PV) b.t):Int):=by simp;omega
   refine Qe (fun _=> ?_) fun h=>absurd hlen h
   have ec:Ty [] [] a.k b.k=Su a.k b.k:=by simp[Ty,Cf]
   rw[ec]
   unfold Su
   refine Qz (fun h2=>U3 (by rw[if_pos h2])) fun h2=>Qz (fun h3=>by simp only[List.length_map]at h3;omega) fun h3=>Qz (fun h4=>U3 (by rw[if_neg h2,if_pos h4])) fun h4=>U3 (by rw[if_neg h2,if_neg h4])
 | succ m ih=>
  intro i hi hb
  have hlt:i<a.t.length:=by omega
  refine a8g a b i (Zu (Gy hlt) ?_)
  by_cases hlb:i<b.t.length
  ·have h:=ih (i+1) (by omega) (by omega)
   refine Zu (Gy hlb) ⟨YU hlt rfl,WB hlt ⟨YU hlb rfl,WB hlb ?_⟩⟩
   rw[List.drop_eq_getElem_cons hlt,List.drop_eq_getElem_cons hlb,next (by omega)]
   generalize a.t[i]=x at h ⊢
   generalize b.t[i]=y at h ⊢
   obtain⟨⟨xv⟩,xc⟩:=x
   obtain⟨⟨yv⟩,yc⟩:=y
   refine Ba (fun h1=> ?_) fun h1=> ?_
   ·have h1:xv<yv:=by have:=(YV xv yv).symm.trans h1;simpa using this
    exact U3 (by simp[Ty,Cf,h1])
   have h1 : ¬ xv<yv:=by have:=(YV xv yv).symm.trans h1;simpa using this
   refine Qe (fun h2=> ?_) fun h2=> ?_
   ·have h2:xv=yv:=h2
    subst h2
    refine Qz (fun h3=> ?_) fun h3=> ?_
    ·have h3:xc<yc:=h3
     exact U3 (by simp[Ty,Cf,h1,h3])
    have h3 : ¬ xc<yc:=h3
    refine WV (fun h4=> ?_) fun h4=> ?_
    ·have h4:(xv==xv&&(xc==yc&&true))=false:=h4
     have h4:xc≠yc:=by simpa using h4
     exact U3 (by simp[Ty,Cf,h1,h3,h4])
    ·have h4:(xv==xv&&(xc==yc&&true))=true:=h4
     have h4:xc=yc:=by simpa using h4
     subst h4
     have e:Ty (⟨⟨xv⟩,xc⟩::a.t.drop (i+1)) (⟨⟨xv⟩,xc⟩::b.t.drop (i+1)) a.k b.k=Ty (a.t.drop (i+1)) (b.t.drop (i+1)) a.k b.k:=by simp[Ty,Cf,List.lt_irrefl xv]
     rw[e]
     exact h
   ·have h2 : ¬ xv=yv:=h2
    refine WV (fun h4=>U3 (by simp[Ty,Cf,h1,h2])) fun h4=> ?_
    have h4:(xv==yv&&(xc==yc&&true))=true:=h4
    simp[h2]at h4
  ·refine Zv (Gx hlb) ?_
   obtain⟨t,r,e⟩ : ∃ t r,a.t.drop i=t::r:=⟨_,_,List.drop_eq_getElem_cons hlt⟩
   rw[e,List.drop_of_length_le (show b.t.length<=i by omega)]
   refine Qz (fun h1=>by simp only[List.length_map]at h1;omega) fun h1=>Qe (fun h2=>by simp only[List.length_map]at h2;omega) fun h2=>Qz (fun h3=>U3 (by simp[Ty,Cf])) fun h3=>by simp only[List.length_map]at h3;omega
theorem c4t: ∀ a:Lin×Lin×Unit,Yb a.1=true->Zf Hg 0 (Ze QU (ZB (Nl a.1 a.2.1))) QO [] (Yp d1m (encL a)):=by
 rintro⟨a,b,⟨⟩⟩ hl
 exact d8e a b (b0t a b (by simpa [Yb]using hl) a.t.length 0 (by omega) (by omega))
def e1a(a b:Lin):Bool:=Nl a b==0
theorem c8x: ∀ a:Lin×Lin×Unit,Yb a.1=true->Zf c1f 0 (Ze a7a (ZB (e1a a.1 a.2.1))) a3x [] (Yp d7a (encL a)):=by
 rintro⟨a,b,⟨⟩⟩ hl
 exact e0d a b ⟨Zo (a,b,()) rfl hl,Zq (a,b,()) rfl (ZY rfl)⟩
theorem c1n(ts:List Coef)(j:Nat)(x y:Coef):List.set (List.map enc ts) j (PV.withCells (enc y) (splice (PV.cells (enc y)) 0 (PV.cells (PV.agg (CK (PV.cells (enc x)) 0 [Sh.str,Sh.int .i64])))))=List.map enc (ts.set j x):=by
 rw[List.map_set]
 rfl
theorem c4r{α:Type}(f:α->PV){l:List α}{k:Nat}(h:k<l.length):(l.map f).getD (0+(k:Int).toNat) default=f l[k]:=by rw[Nat.zero_add];exact CX f h
theorem tri{x y:List UInt8}(h1 : ¬ x<y)(h2:x≠y):y<x:=Decidable.byContradiction fun h=>h2 (List.le_antisymm (List.not_lt.1 h) (List.not_lt.1 h1))
theorem d4v(s:Str)(c:Int)(t:Coef)(r:List Coef):UY s c true (t::r)=(if t.v=s then⟨t.v,V9 (t.c+c)⟩else t)::UY s c true r:=by
 rw[UY];simp only[Bool.not_true,Bool.false_and,Bool.false_eq_true,if_false,Bool.true_or,List.nil_append];split <;> rfl
theorem MB(s:Str)(c:Int)(t:Coef)(r:List Coef):UY s c false (t::r)=if s.s<t.v.s then⟨s,c⟩::t::UY s c true r else if t.v=s then⟨t.v,V9 (t.c+c)⟩::UY s c true r else t::UY s c false r:=by
 rw[UY]
 by_cases h:s.s<t.v.s
 ·have : ¬ t.v=s:=fun e=>by rw[e]at h;exact List.lt_irrefl _ h
  simp[h,this]
 ·simp[h]
theorem FM{a b:Str}:a=b ↔ a.s=b.s:=⟨fun h=>by rw[h],fun h=>by cases a;cases b;cases h;rfl⟩
theorem d1k: ∀ a:Int×Unit,true=true->Zf b9f 0 (Ze a6y (ZB (⟨a.1,[]⟩:Lin))) LG [] (Yp d6l (encL a)):=by
 rintro⟨n,⟨⟩⟩ -
 exact e0j n ⟨by simp,by simp⟩
end Go.Pl
namespace Go.Pl
open Go.RowKit
open Enc (enc dec is)
open EncL (encL decL isL)
set_option maxRecDepth 100000
noncomputable def LU:IC:=Xp Proofs.Tryz.f126
def OW:List IRes:=[(.tmp 2)]
abbrev d3y:Nat:=8
def a4w:ZI:=YN []
theorem d6m{G:PV->Prop}(a:Int)(h:if (decide (a<0))=true then G ((.int .i64 (IntKind.wrap IntKind.i64 (-a))))else(G ((.int .i64 a)))):Zf a4w 0 (Ze OW G) LU [] (Yp 8 [enc a]):=Zf.tp (.lit (.ask (.nil) (.nil))) h (by kernel_rfl)
noncomputable def Dc:IC:=Xp Proofs.Tryz.f92
def Db:List IRes:=[(.tmp 2)]
abbrev d7n:Nat:=18
def RG:ZI:=YN []
theorem d9z{G:PV->Prop}(l:List Int)(h:At RG 0 (Ze Db G) Dc 0 18 [(5,(.pv (.sl 1 false (List.map enc l)))),(6,(.pv (.int .i64 (↑(List.length (List.map enc l)):Int)))),(7,(.pv (.int .i64 0)))] []):Zf RG 0 (Ze Db G) Dc [] (Yp 18 [enc l]):=Zf.tp (.nil) h (by kernel_rfl)
theorem c5o{G:PV->Prop}(l:List Int)(i:Int)(h:if (decide (i<(↑(List.length l):Int)))=true then(decide (0<=i)&&decide (Int.toNat i<List.length (List.map enc l))&&Enc.sz Int==1)=true∧(∃ y0:Int,AV.pv (PV.rptr (PV.cells (List.getD (List.map enc l) (Int.toNat i) default)))=AV.pv (PV.rptr (PV.cells ((enc) y0)))∧(if (decide (PV.asInt (List.getD (PV.cells (enc y0)) 0 default)<(-4611686018427387904:Int)))=true then G ((.bool false))else(if (decide (PV.asInt (List.getD (PV.cells (enc y0)) 0 default)>4611686018427387904))=true then G ((.bool false))else(At RG 0 (Ze Db G) Dc 0 18 [(5,(.pv (.sl 1 false (List.map enc l)))),(6,(.pv (.int .i64 (↑(List.length l):Int)))),(7,(.pv (.int .i64 (IntKind.wrap IntKind.i64 (i+1)))))] []))))else(G ((.bool true)))):At RG 0 (Ze Db G) Dc 0 18 [(5,.pv (enc l)),(6,.pv (.int .i64 l.length)),(7,.pv (.int .i64 i))] []:=At.tp (.lit (.ask (.req (.abs (Int) (fun YY=>AV.pv (PV.rptr (PV.cells ((enc) YY)))) (.lit (.lit (.ask (.lit (.lit (.lit (.nil)))) (.lit (.lit (.lit (.ask (.nil) (.lit (.nil))))))))))) (.nil))) h (by kernel_rfl)
noncomputable def QW:IC:=Xp Proofs.Tryz.f93
def JA:List IRes:=[(.tmp 4)]
abbrev d0f:Nat:=16
def J5:ZI:=YN [(126,.pure (preT (fun _:Int×Unit=>true)) (Zk (fun x:Int×Unit=>Nt x.1)))]
theorem d8a{G:PV->Prop}(a b:Int)(h : ∃ y0:Int,AV.pv (Zk (fun(x:Int×Unit)=>Nt x.1) [(.int .i64 a)])=AV.pv (enc y0)∧(∃ y1:Int,AV.pv (Zk (fun(x:Int×Unit)=>Nt x.1) [(.int .i64 b)])=AV.pv (enc y1)∧(At J5 0 (Ze JA G) QW 0 16 [(0,(.pv (.int .i64 y0))),(1,(.pv (.int .i64 y1)))] []))):Zf J5 0 (Ze JA G) QW [] (Yp 16 [enc a,enc b]):=Zf.tp (.lit (.abs (Int) (fun YY=>AV.pv (enc YY)) (.lit (.abs (Int) (fun YY=>AV.pv (enc YY)) (.nil))))) h (by kernel_rfl)
theorem c8g{G:PV->Prop}(a b:Int)(x y:Int)(h:if (y != 0)=true then(y != 0)=true∧(At J5 0 (Ze JA G) QW 0 16 [(0,(.pv (.int .i64 y))),(1,(.pv (.int .i64 (Int.tmod x y))))] [])else(G ((.int .i64 x)))):At J5 0 (Ze JA G) QW 0 16 [(0,.pv (.int .i64 x)),(1,.pv (.int .i64 y))] []:=At.tp (.lit (.ask (.req (.nil)) (.nil))) h (by kernel_rfl)
noncomputable def GQ:IC:=Xp Proofs.Tryz.f95
def GR:List IRes:=[(.tmp 4),(.tmp 5)]
abbrev a7e:Nat:=30
def BP:ZI:=YN []
theorem b3p{G:PV->Prop}(a b:Int)(h:(b != 0)=true∧((b != 0)=true∧(if (Int.tmod a b==0)=true then G ((.tup [(.int .i64 (IntKind.wrap IntKind.i64 (Int.tdiv a b))),(.int .i64 (Int.tmod a b))]))else(if (!decide (Int.tmod a b<0)==decide (b<0))=true then G ((.tup [(.int .i64 (IntKind.wrap IntKind.i64 (IntKind.wrap IntKind.i64 (Int.tdiv a b) - 1))),(.int .i64 (IntKind.wrap IntKind.i64 (Int.tmod a b+b)))]))else(G ((.tup [(.int .i64 (IntKind.wrap IntKind.i64 (Int.tdiv a b))),(.int .i64 (Int.tmod a b))]))))))):Zf BP 0 (Ze GR G) GQ [] (Yp 30 [enc a,enc b]):=Zf.tp (.req (.req (.lit (.ask (.nil) (.lit (.lit (.lit (.ask (.lit (.lit (.nil))) (.nil))))))))) h (by kernel_rfl)
noncomputable def Pe:IC:=Xp Proofs.Tryz.f94
def PU:List IRes:=[(.tmp 4)]
abbrev c2q:Nat:=14
def Lv:ZI:=YN [(92,.pure (preT (fun x:List Int×Unit=>decide (x.1.length<=9223372036854775807))) (Zk (fun x:List Int×Unit=>x.1.all V8)))]
theorem c7w{G:PV->Prop}(a b:Int)(h : ∃ y0:Bool,AV.pv (Zk (fun(x:List Int×Unit)=>List.all x.1 V8) [(.sl 1 false [(.int .i64 a),(.int .i64 b)])])=AV.pv (enc y0)∧(if (!y0)=true then G ((.int .i64 2))else(if (b==0)=true then G ((.int .i64 1))else(G ((.int .i64 0)))))):Zf Lv 0 (Ze PU G) Pe [] (Yp 14 [enc a,enc b]):=Zf.tp (.lit (.lit (.lit (.abs (Bool) (fun YY=>AV.pv (enc YY)) (.ask (.nil) (.lit (.ask (.nil) (.nil)))))))) h (by kernel_rfl)
noncomputable def Ff:IC:=Xp Proofs.Tryz.f55
def OA:List IRes:=[(.tmp 4),(.tmp 5)]
abbrev c9v:Nat:=22
def a6d:ZI:=YN [(94,.pure (preT (fun _:Int×Int×Unit=>true)) (Zk (fun x:Int×Int×Unit=>Sq x.1 x.2.1))),(95,.pure (preT (fun x:Int×Int×Unit=>V8 x.1&&V8 x.2.1&&decide (x.2.1≠0))) (Zk (fun x:Int×Int×Unit=>(b2c x.1 x.2.1,c5x x.1 x.2.1))))]
theorem d7h{G:PV->Prop}(a b:Int)(h : ∃ y0:Int,AV.pv (Zk (fun(x:Int×Int×Unit)=>Sq x.1 x.2.1) [(.int .i64 a),(.int .i64 b)])=AV.pv (enc y0)∧(if (y0 != 0)=true then G ((.tup [(.int .i64 0),(.int .i64 y0)]))else((Go.Pl.preT (fun(x:Int×Int×Unit)=>V8 x.1&&V8 x.2.1&&decide (x.2.1≠0)) [(.int .i64 a),(.int .i64 b)])=true∧(∃ y1:Int×Int,AV.pv (Zk (fun(x:Int×Int×Unit)=>(b2c x.1 x.2.1,c5x x.1 x.2.1)) [(.int .i64 a),(.int .i64 b)])=AV.pv (enc y1)∧(G ((.tup [(.int .i64 y1.1),(.int .i64 0)]))))))):Zf a6d 0 (Ze OA G) Ff [] (Yp 22 [enc a,enc b]):=Zf.tp (.lit (.abs (Int) (fun YY=>AV.pv (enc YY)) (.lit (.ask (.nil) (.req (.abs (Int×Int) (fun YY=>AV.pv (enc YY)) (.nil))))))) h (by kernel_rfl)
noncomputable def QD:IC:=Xp Proofs.Tryz.f54
def Qy:List IRes:=[(.tmp 2),(.tmp 3)]
abbrev c4x:Nat:=22
def Jw:ZI:=YN [(92,.pure (preT (fun x:List Int×Unit=>decide (x.1.length<=9223372036854775807))) (Zk (fun x:List Int×Unit=>x.1.all V8))),(93,.pure (preT (fun x:Int×Int×Unit=>V8 x.1&&V8 x.2.1)) (Zk (fun x:Int×Int×Unit=>(Int.gcd x.1 x.2.1:Int))))]
theorem d3z{G:PV->Prop}(l:List Int)(h:At Jw 0 (Ze Qy G) QD 0 22 [(4,(.pv (.int .i64 0))),(7,(.pv (.sl 1 false (List.map enc l)))),(8,(.pv (.int .i64 (↑(List.length (List.map enc l)):Int)))),(9,(.pv (.int .i64 0)))] []):Zf Jw 0 (Ze Qy G) QD [] (Yp 22 [enc l]):=Zf.tp (.nil) h (by kernel_rfl)
theorem EL{G:PV->Prop}(l:List Int)(g i:Int)(h:if (decide (i<(↑(List.length l):Int)))=true then(decide (0<=i)&&decide (Int.toNat i<List.length (List.map enc l))&&Enc.sz Int==1)=true∧(∃ y0:Int,AV.pv (PV.rptr (PV.cells (List.getD (List.map enc l) (Int.toNat i) default)))=AV.pv (PV.rptr (PV.cells ((enc) y0)))∧(∃ y1:Bool,AV.pv (Zk (fun(x:List Int×Unit)=>List.all x.1 V8) [(.sl 1 false [(.int .i64 (PV.asInt (List.getD (PV.cells (enc y0)) 0 default)))])])=AV.pv (enc y1)∧(if (!y1)=true then G ((.tup [(.int .i64 0),(.int .i64 2)]))else((Go.Pl.preT (fun(x:Int×Int×Unit)=>V8 x.1&&V8 x.2.1) [(.int .i64 g),(.int .i64 (PV.asInt (List.getD (PV.cells (enc y0)) 0 default)))])=true∧(∃ y2:Int,AV.pv (Zk (fun(x:Int×Int×Unit)=>(↑(Int.gcd x.1 x.2.1):Int)) [(.int .i64 g),(.int .i64 (PV.asInt (List.getD (PV.cells (enc y0)) 0 default)))])=AV.pv (enc y2)∧(At Jw 0 (Ze Qy G) QD 0 22 [(4,(.pv (.int .i64 y2))),(7,(.pv (.sl 1 false (List.map enc l)))),(8,(.pv (.int .i64 (↑(List.length l):Int)))),(9,(.pv (.int .i64 (IntKind.wrap IntKind.i64 (i+1)))))] []))))))else(G ((.tup [(.int .i64 g),(.int .i64 0)])))):At Jw 0 (Ze Qy G) QD 0 22 [(4,.pv (.int .i64 g)),(7,.pv (enc l)),(8,.pv (.int .i64 l.length)),(9,.pv (.int .i64 i))] []:=At.tp (.lit (.ask (.req (.abs (Int) (fun YY=>AV.pv (PV.rptr (PV.cells ((enc) YY)))) (.lit (.lit (.lit (.lit (.abs (Bool) (fun YY=>AV.pv (enc YY)) (.ask (.nil) (.req (.abs (Int) (fun YY=>AV.pv (enc YY)) (.lit (.nil)))))))))))) (.nil))) h (by kernel_rfl)
end Go.Pl
namespace Go.Pl
open Go.RowKit
open Enc (enc dec is)
open EncL (encL decL isL)
theorem a8d{n:Int}:V8 n=true ↔ -4611686018427387904<=n∧n<=4611686018427387904:=by simp[V8]
theorem a9g{n:Int}(h:V8 n=true):Nt n=n.natAbs:=by
 rw[a8d]at h
 unfold Nt
 split
 ·show IntKind.i64.wrap (-n)=_
  rw[Yn (by omega) (by omega)];omega
 ·omega
theorem b7y: ∀ a:Int×Unit,true=true->Zf a4w 0 (Ze OW (ZB (Nt a.1))) LU [] (Yp d3y (encL a)):=by
 rintro⟨n,⟨⟩⟩ -
 refine d6m n ?_
 unfold Nt
 exact Qz (fun h=>U3 (by rw[if_pos h])) fun h=>U3 (by rw[if_neg h])
theorem c1t(l:List Int)(hl:l.length<=9223372036854775807): ∀ (m i:Nat),m+i=l.length->At RG 0 (Ze Db (ZB ((l.drop i).all V8))) Dc 0 18 [(5,.pv (enc l)),(6,.pv (.int .i64 l.length)),(7,.pv (.int .i64 i))] []:=by
 intro m
 induction m with
 | zero=>
  intro i hi
  exact c5o l i (Zv (UX (by omega)) (ZY (by rw[List.drop_of_length_le (show l.length<=i by omega)];rfl)))
 | succ m ih=>
  intro i hi
  have hlt:i<l.length:=by omega
  have h:=ih (i+1) (by omega)
  refine c5o l i (Zu (U4 hlt) ⟨YU hlt rfl,?_⟩)
  rw[List.drop_eq_getElem_cons hlt,List.all_cons,next (by omega)]
  refine⟨l[i],by rw[CX enc hlt],?_⟩
  refine Qz (fun h1=> ?_) fun h1=>Qz (fun h2=> ?_) fun h2=> ?_
  ·have h1:l[i] < -4611686018427387904:=h1
   exact ZY (by rw[show V8 l[i]=false by simp[V8];omega];rfl)
  ·have h2:l[i]>4611686018427387904:=h2
   exact ZY (by rw[show V8 l[i]=false by simp[V8];omega];rfl)
  ·have h1 : ¬ l[i] < -4611686018427387904:=h1
   have h2 : ¬ l[i]>4611686018427387904:=h2
   have:V8 l[i]=true:=by simp[V8];omega
   rw[this,Bool.true_and]
   exact h
theorem c8k: ∀ a:List Int×Unit,decide (a.1.length<=9223372036854775807)=true->Zf RG 0 (Ze Db (ZB (a.1.all V8))) Dc [] (Yp d7n (encL a)):=by
 rintro⟨l,⟨⟩⟩ hl
 refine d9z l ?_
 rw[List.length_map]
 exact c1t l (by simpa using hl) l.length 0 (by omega)
theorem c1s(x y:Nat):Int.tmod (x:Int) (y:Int)=((x % y:Nat):Int):=rfl
theorem c4i(x y:Nat):Nat.gcd x y=Nat.gcd y (x % y):=by rw[Nat.gcd_comm x y,Nat.gcd_rec y x,Nat.gcd_comm]
theorem b3s(a b:Int): ∀ (y x:Nat),At J5 0 (Ze JA (ZB (((Nat.gcd x y:Nat):Int)))) QW 0 16 [(0,.pv (.int .i64 x)),(1,.pv (.int .i64 y))] []:=by
 intro y
 induction y using Nat.strongRecOn with
 | _ y ih=>
  intro x
  refine c8g a b x y ?_
  by_cases h0:y=0
  ·subst h0
   exact Zv (by simp) (U3 (by simp))
  ·refine Zu (by simp;omega) ⟨by simp;omega,?_⟩
   rw[c1s,c4i]
   exact ih (x % y) (Nat.mod_lt _ (by omega)) y
theorem c6t: ∀ a:Int×Int×Unit,(V8 a.1&&V8 a.2.1)=true->Zf J5 0 (Ze JA (ZB ((Int.gcd a.1 a.2.1:Nat):Int))) QW [] (Yp d0f (encL a)):=by
 rintro⟨a,b,⟨⟩⟩ h
 simp only[Bool.and_eq_true]at h
 refine d8a a b (Zq (a,()) rfl (Zq (b,()) rfl ?_))
 show At J5 0 _ QW 0 16 [(0,.pv (.int .i64 (Nt a))),(1,.pv (.int .i64 (Nt b)))] []
 rw[a9g h.1,a9g h.2]
 exact b3s a b b.natAbs a.natAbs
theorem d6a{a b:Int}(h:V8 a=true)(k:V8 b=true):V8 (Int.gcd a b:Int)=true:=by
 rw[a8d]at *
 have h1:Int.gcd a b<=a.natAbs∨a=0:=by
  by_cases h0:a=0
  ·exact .inr h0
  ·exact .inl (Nat.le_of_dvd (by omega) (Int.gcd_dvd_natAbs_left a b))
 rcases h1 with h1|rfl
 ·omega
 ·rw[Int.zero_gcd];omega
theorem a4p(l:List Int)(hl:l.length<=10000)(hin:l.all V8=true): ∀ (m i:Nat) (g:Int),m+i=l.length->V8 g=true->At Jw 0 (Ze Qy (ZB ((l.drop i).foldl (fun g n=>(Int.gcd g n:Int)) g,(0:Int)))) QD 0 22 [(4,.pv (.int .i64 g)),(7,.pv (enc l)),(8,.pv (.int .i64 l.length)),(9,.pv (.int .i64 i))] []:=by
 intro m
 induction m with
 | zero=>
  intro i g hi hg
  refine EL l g i (Zv (UX (by omega)) ?_)
  rw[List.drop_of_length_le (show l.length<=i by omega)]
  exact⟨rfl,rfl⟩
 | succ m ih=>
  intro i g hi hg
  have hlt:i<l.length:=by omega
  have hn:V8 l[i]=true:=by rw[List.all_eq_true]at hin;exact hin _ (List.getElem_mem hlt)
  have h:=ih (i+1) (Int.gcd g l[i]) (by omega) (d6a hg hn)
  refine EL l g i (Zu (U4 hlt) ⟨YU hlt rfl,l[i],by rw[CX enc hlt],?_⟩)
  rw[List.drop_eq_getElem_cons hlt,List.foldl_cons,next (by omega)]
  refine Zq ([l[i]],()) rfl (WV (fun e=> ?_) fun _=>⟨Zo (g,l[i],()) rfl (by simp[hg,hn]),Zq (g,l[i],()) rfl h⟩)
  have e:([l[i]].all V8)=false:=e
  simp[hn]at e
theorem b3x: ∀ a:List Int×Unit,(decide (a.1.length<=10000)&&a.1.all V8)=true->Zf Jw 0 (Ze Qy (ZB (Gu a.1))) QD [] (Yp c4x (encL a)):=by
 rintro⟨l,⟨⟩⟩ h
 simp only[Bool.and_eq_true,decide_eq_true_eq]at h
 refine d3z l ?_
 rw[List.length_map]
 exact a4p l h.1 h.2 l.length 0 0 (by omega) rfl
theorem b7d{a b:Int}(h:a.tmod b≠0):decide (a.tmod b<0)=decide (a<0):=by
 rcases Int.lt_or_le a 0 with h1|h1
 ·have:=Int.tmod_nonneg b (show 0 <= -a by omega)
  rw[Int.neg_tmod]at this
  rw[decide_eq_true h1,decide_eq_true (show a.tmod b<0 by omega)]
 ·have:=Int.tmod_nonneg b h1
  rw[decide_eq_false (show ¬ a<0 by omega),decide_eq_false (show ¬ a.tmod b<0 by omega)]
theorem a1n: ∀ a:Int×Int×Unit,(V8 a.1&&V8 a.2.1&&decide (a.2.1≠0))=true->Zf BP 0 (Ze GR (ZB (b2c a.1 a.2.1,c5x a.1 a.2.1))) GQ [] (Yp a7e (encL a)):=by
 rintro⟨a,b,⟨⟩⟩ h
 simp only[Bool.and_eq_true,decide_eq_true_eq]at h
 have hb:(b != 0)=true:=by simpa using h.2
 refine b3p a b ⟨hb,hb,?_⟩
 unfold b2c c5x
 refine Qe (fun h1=> ?_) fun h1=> ?_
 ·rw[if_neg (by simp[h1]),if_neg (by simp[h1])]
  exact⟨rfl,rfl⟩
 ·rw[b7d h1]
  refine WV (fun h2=> ?_) fun h2=> ?_
  ·rw[if_pos ⟨h1,by simpa using h2⟩,if_pos ⟨h1,by simpa using h2⟩]
   exact⟨rfl,rfl⟩
  ·rw[if_neg (fun e=>e.2 (by simpa using h2)),if_neg (fun e=>e.2 (by simpa using h2))]
   exact⟨rfl,rfl⟩
theorem b3w: ∀ a:Int×Int×Unit,true=true->Zf Lv 0 (Ze PU (ZB (Sq a.1 a.2.1))) Pe [] (Yp c2q (encL a)):=by
 rintro⟨a,b,⟨⟩⟩ -
 refine c7w a b (Zq ([a,b],()) rfl (WV (fun e=> ?_) fun e=>Qe (fun h=> ?_) fun h=> ?_))
 ·have e:([a,b].all V8)=false:=e
  refine U3 ?_
  unfold Sq
  have:(V8 a&&V8 b)=false:=by simpa using e
  simp[this]
 all_goals
  have e:([a,b].all V8)=true:=e
  have:(V8 a&&V8 b)=true:=by simpa using e
  refine U3 ?_
  unfold Sq
  first|rw[if_pos this,if_pos h]|rw[if_pos this,if_neg h]
theorem e0l{a b:Int}(h:Sq a b=0):V8 a=true∧V8 b=true∧b≠0:=by
 unfold Sq at h
 split at h
 ·rename_i h1
  simp only[Bool.and_eq_true]at h1
  split at h
  ·cases h
  ·exact⟨h1.1,h1.2,‹_›⟩
 ·cases h
theorem b8w: ∀ a:Int×Int×Unit,true=true->Zf a6d 0 (Ze OA (ZB (CP a.1 a.2.1))) Ff [] (Yp c9v (encL a)):=by
 rintro⟨a,b,⟨⟩⟩ -
 refine d7h a b (Zq (a,b,()) rfl ?_)
 show if (Sq a b != 0)=true then ZB (CP a b) _ else(_∧ ∃ y1:Int×Int,_=AV.pv (enc y1)∧ZB (CP a b) (.tup [.int .i64 y1.1,.int .i64 0]))
 unfold CP
 by_cases h:Sq a b=0
 ·obtain⟨h1,h2,h3⟩:=e0l h
  refine Zv (by simp[h]) ⟨Zo (a,b,()) rfl (by simp[h1,h2,h3]),Zq (a,b,()) rfl ?_⟩
  rw[if_neg (by simp[h])]
  exact⟨rfl,rfl⟩
 ·refine Zu (by simp[h]) ?_
  rw[if_pos h]
  exact⟨rfl,rfl⟩
end Go.Pl
namespace Go.Pl
open Go.RowKit
open Enc (enc dec is)
open EncL (encL decL isL)
set_option maxRecDepth 100000
noncomputable def X7:IC:=Xp Proofs.Tryz.f78
def Wd:List IRes:=[(.tmp 2)]
abbrev c0j:Nat:=67
def Vh:ZI:=YN [(114,.pure (preT (fun _:Str×Str×Unit=>true)) (Zk (fun x:Str×Str×Unit=>x.2.1.s.isPrefixOf x.1.s))),(118,.pure (preT (fun x:Str×Unit=>decide (x.1.s.length<=1000000))) (Zk (fun x:Str×Unit=>XH x.1))),(76,.pure (preT (fun x:Int×Unit=>decide (-9223372036854775808<=x.1)&&decide (x.1<=9223372036854775807))) (Zk (fun x:Int×Unit=>c5t x.1)))]
theorem c9i{G:PV->Prop}(s:List UInt8)(h : ∃ y0:Bool,AV.pv (Zk (fun(x:Str×Str×Unit)=>List.isPrefixOf (Str.s x.2.1) (Str.s x.1)) [(.str s),(.str [(95:UInt8)])])=AV.pv (enc y0)∧(if (y0)=true then(decide (0<=1)&&true&&decide (Int.toNat 1<=List.length s)&&decide (List.length s<=List.length s))=true∧((Go.Pl.preT (fun(x:Str×Unit)=>decide (List.length (Str.s x.1)<=1000000)) [(.str (List.drop (Int.toNat 1) (List.take (List.length s) s)))])=true∧(∃ y1:Int×Er,AV.pv (Zk (fun(x:Str×Unit)=>XH x.1) [(.str (List.drop (Int.toNat 1) (List.take (List.length s) s)))])=AV.pv (enc y1)∧((a0f (enc y1.2)&&Prod.fst (true,PV.bool (JP (enc y1.2))))=true∧(if (JP (enc y1.2))=true then if (decide (y1.1>0))=true then if (decide ((↑(List.length s):Int)<=10))=true then(Go.Pl.preT (fun(x:Int×Unit)=>decide ((-9223372036854775808:Int)<=x.1)&&decide (x.1<=9223372036854775807)) [(.int .i64 y1.1)])=true∧(∃ y2:Str,AV.pv (Zk (fun(x:Int×Unit)=>c5t x.1) [(.int .i64 y1.1)])=AV.pv (enc y2)∧((decide (0<=1)&&true&&decide (Int.toNat 1<=List.length s)&&decide (List.length s<=List.length s))=true∧(G ((.bool (Str.s y2==List.drop (Int.toNat 1) (List.take (List.length s) s)))))))else(G ((.bool false)))else(G ((.bool false)))else(G ((.bool false)))))))else(At Vh 0 (Ze Wd G) X7 0 67 [(0,(.pv (.str s))),(34,(.pv (.sl 1 false (ZE s)))),(35,(.pv (.int .i64 (↑(List.length (ZE s)):Int)))),(36,(.pv (.int .i64 0)))] []))):Zf Vh 0 (Ze Wd G) X7 [] (Yp 67 [.str s]):=Zf.tp (.lit (.abs (Bool) (fun YY=>AV.pv (enc YY)) (.ask (.req (.req (.abs (Int×Er) (fun YY=>AV.pv (enc YY)) (.req (.ask (.lit (.lit (.lit (.ask (.lit (.lit (.lit (.lit (.ask (.lit (.req (.abs (Str) (fun YY=>AV.pv (enc YY)) (.lit (.lit (.req (.lit (.lit (.lit (.nil)))))))))) (.lit (.lit (.lit (.lit (.lit (.nil))))))))))) (.lit (.lit (.lit (.lit (.lit (.lit (.lit (.lit (.lit (.nil)))))))))))))) (.lit (.lit (.lit (.lit (.lit (.lit (.lit (.lit (.lit (.lit (.lit (.lit (.nil)))))))))))))))))) (.nil)))) h (by kernel_rfl)
theorem a0c{G:PV->Prop}(s:List UInt8)(i:Int)(h:if (decide (i<(↑(List.length (ZE s)):Int)))=true then(decide (0<=i)&&decide (Int.toNat i<List.length (ZE s))&&1==1)=true∧((decide (0+List.length [Sh.int IntKind.u8]<=List.length (PV.cells (List.getD (ZE s) (Int.toNat i) default)))&&Xu (PV.cells (List.getD (ZE s) (Int.toNat i) default)) 0 [Sh.int IntKind.u8])=true∧(if (decide (PV.asInt (List.getD (PV.cells (List.getD (ZE s) (Int.toNat i) default)) 0 default)<97))=true then if (i==0)=true then G ((.bool false))else(if (decide (PV.asInt (List.getD (PV.cells (List.getD (ZE s) (Int.toNat i) default)) 0 default)<48))=true then G ((.bool false))else(if (decide (PV.asInt (List.getD (PV.cells (List.getD (ZE s) (Int.toNat i) default)) 0 default)>57))=true then G ((.bool false))else(At Vh 0 (Ze Wd G) X7 0 67 [(0,(.pv (.str s))),(34,(.pv (.sl 1 false (ZE s)))),(35,(.pv (.int .i64 (↑(List.length (ZE s)):Int)))),(36,(.pv (.int .i64 (IntKind.wrap IntKind.i64 (i+1)))))] [])))else(if (decide (PV.asInt (List.getD (PV.cells (List.getD (ZE s) (Int.toNat i) default)) 0 default)>122))=true then if (i==0)=true then G ((.bool false))else(if (decide (PV.asInt (List.getD (PV.cells (List.getD (ZE s) (Int.toNat i) default)) 0 default)<48))=true then G ((.bool false))else(if (decide (PV.asInt (List.getD (PV.cells (List.getD (ZE s) (Int.toNat i) default)) 0 default)>57))=true then G ((.bool false))else(At Vh 0 (Ze Wd G) X7 0 67 [(0,(.pv (.str s))),(34,(.pv (.sl 1 false (ZE s)))),(35,(.pv (.int .i64 (↑(List.length (ZE s)):Int)))),(36,(.pv (.int .i64 (IntKind.wrap IntKind.i64 (i+1)))))] [])))else(At Vh 0 (Ze Wd G) X7 0 67 [(0,(.pv (.str s))),(34,(.pv (.sl 1 false (ZE s)))),(35,(.pv (.int .i64 (↑(List.length (ZE s)):Int)))),(36,(.pv (.int .i64 (IntKind.wrap IntKind.i64 (i+1)))))] []))))else(if (!s==[])=true then G ((.bool (decide ((↑(List.length s):Int)<=30))))else(G ((.bool false))))):At Vh 0 (Ze Wd G) X7 0 67 [(0,.pv (.str s)),(34,.pv (.sl 1 false (ZE s))),(35,.pv (.int .i64 (ZE s).length)),(36,.pv (.int .i64 i))] []:=At.tp (.lit (.ask (.req (.keep (.req (.lit (.ask (.lit (.lit (.lit (.lit (.lit (.lit (.ask (.lit (.lit (.lit (.lit (.lit (.lit (.lit (.lit (.lit (.lit (.nil))))))))))) (.lit (.lit (.lit (.lit (.lit (.ask (.lit (.lit (.lit (.lit (.lit (.nil)))))) (.lit (.lit (.lit (.lit (.lit (.ask (.nil) (.lit (.nil))))))))))))))))))))) (.lit (.lit (.lit (.ask (.lit (.lit (.lit (.ask (.lit (.lit (.lit (.lit (.lit (.lit (.lit (.lit (.lit (.lit (.nil))))))))))) (.lit (.lit (.lit (.lit (.lit (.ask (.lit (.lit (.lit (.lit (.lit (.nil)))))) (.lit (.lit (.lit (.lit (.lit (.ask (.nil) (.lit (.nil)))))))))))))))))) (.lit (.lit (.lit (.lit (.lit (.lit (.lit (.lit (.nil)))))))))))))))))) (.lit (.ask (.lit (.lit (.lit (.lit (.nil))))) (.lit (.lit (.lit (.nil)))))))) h (by kernel_rfl)
noncomputable def WP:IC:=Xp Proofs.Tryz.f41
def WS:List IRes:=[(.tmp 2)]
abbrev b5t:Nat:=54
def V3:ZI:=YN [(79,.pure (preT (fun _:Int×Unit=>true)) (Zk (fun x:Int×Unit=>Yy x.1))),(78,.pure (preT (fun x:Str×Unit=>decide (x.1.s.length<=1000000))) (Zk (fun x:Str×Unit=>YZ x.1)))]
theorem c4f{G:PV->Prop}(l:Lin)(h:At V3 0 (Ze WS G) WP 0 54 [(1,(.ptr 0 0)),(6,(.pv (.sl 2 false (List.map enc l.t)))),(7,(.pv (.int .i64 (↑(List.length (List.map enc l.t)):Int)))),(8,(.pv (.int .i64 0)))] [(.obj (.box [(.pv (.int .i64 l.k)),(.pv (.sl 2 false (List.map enc l.t)))]))]):Zf V3 0 (Ze WS G) WP [] (Yp 54 [enc l]):=Zf.tp (.nil) h (by kernel_rfl)
theorem Mr{G:PV->Prop}(l:Lin)(i:Int)(h:if (decide (i<(↑(List.length l.t):Int)))=true then(decide (0<=i)&&decide (Int.toNat i<List.length (List.map enc l.t))&&Enc.sz Coef==2)=true∧(∃ y0:Coef,AV.pv (PV.rptr (PV.cells (List.getD (List.map enc l.t) (Int.toNat i) default)))=AV.pv (PV.rptr (PV.cells ((enc) y0)))∧((Go.Pl.preT (fun(x:Str×Unit)=>decide (List.length (Str.s x.1)<=1000000)) [(.str (PV.asStr (List.getD (PV.cells (enc y0)) 0 default)))])=true∧(∃ y1:Bool,AV.pv (Zk (fun(x:Str×Unit)=>YZ x.1) [(.str (PV.asStr (List.getD (PV.cells (enc y0)) 0 default)))])=AV.pv (enc y1)∧(if (!y1)=true then G ((.bool false))else(if (PV.asInt (List.getD (PV.cells (enc y0)) (0+1) default)==0)=true then G ((.bool false))else(∃ y2:Bool,AV.pv (Zk (fun(x:Int×Unit)=>Yy x.1) [(.int .i64 (PV.asInt (List.getD (PV.cells (enc y0)) (0+1) default)))])=AV.pv (enc y2)∧(if (!y2)=true then G ((.bool false))else(if (decide (i>0))=true then(decide (0<=IntKind.wrap IntKind.i64 (i - 1))&&decide (Int.toNat (IntKind.wrap IntKind.i64 (i - 1))<List.length (List.map enc l.t))&&Enc.sz Coef==2)=true∧(∃ y3:Coef,AV.pv (PV.rptr (PV.cells (List.getD (List.map enc l.t) (Int.toNat (IntKind.wrap IntKind.i64 (i - 1))) default)))=AV.pv (PV.rptr (PV.cells ((enc) y3)))∧(if (!Op.bytesLess (PV.asStr (List.getD (List.drop 0 (PV.cells (enc y3))) 0 default)) (PV.asStr (List.getD (PV.cells (enc y0)) 0 default)))=true then G ((.bool false))else(At V3 0 (Ze WS G) WP 0 54 [(1,(.ptr 0 0)),(6,(.pv (.sl 2 false (List.map enc l.t)))),(7,(.pv (.int .i64 (↑(List.length l.t):Int)))),(8,(.pv (.int .i64 (IntKind.wrap IntKind.i64 (i+1)))))] [(.obj (.box [(.pv (.int .i64 l.k)),(.pv (.sl 2 false (List.map enc l.t)))]))])))else(At V3 0 (Ze WS G) WP 0 54 [(1,(.ptr 0 0)),(6,(.pv (.sl 2 false (List.map enc l.t)))),(7,(.pv (.int .i64 (↑(List.length l.t):Int)))),(8,(.pv (.int .i64 (IntKind.wrap IntKind.i64 (i+1)))))] [(.obj (.box [(.pv (.int .i64 l.k)),(.pv (.sl 2 false (List.map enc l.t)))]))])))))))))else(∃ y4:Bool,AV.pv (Zk (fun(x:Int×Unit)=>Yy x.1) [(.int .i64 l.k)])=AV.pv (enc y4)∧(if (y4)=true then G ((.bool (decide ((↑(List.length (List.map enc l.t)):Int)<=12))))else(G ((.bool false)))))):At V3 0 (Ze WS G) WP 0 54 [(1,.ptr 0 0),(6,.pv (enc l.t)),(7,.pv (.int .i64 l.t.length)),(8,.pv (.int .i64 i))] [.obj (.box [.pv (.int .i64 l.k),.pv (enc l.t)])]:=At.tp (.lit (.ask (.req (.abs (Coef) (fun YY=>AV.pv (PV.rptr (PV.cells ((enc) YY)))) (.lit (.req (.abs (Bool) (fun YY=>AV.pv (enc YY)) (.ask (.lit (.lit (.lit (.lit (.lit (.lit (.lit (.lit (.lit (.lit (.lit (.lit (.lit (.lit (.nil))))))))))))))) (.lit (.lit (.lit (.lit (.ask (.lit (.lit (.lit (.lit (.lit (.lit (.lit (.lit (.lit (.lit (.nil))))))))))) (.lit (.lit (.lit (.abs (Bool) (fun YY=>AV.pv (enc YY)) (.lit (.lit (.ask (.lit (.lit (.lit (.lit (.lit (.nil)))))) (.lit (.lit (.lit (.ask (.lit (.lit (.lit (.lit (.lit (.req (.abs (Coef) (fun YY=>AV.pv (PV.rptr (PV.cells ((enc) YY)))) (.lit (.lit (.lit (.lit (.lit (.lit (.lit (.lit (.lit (.lit (.ask (.nil) (.lit (.nil)))))))))))))))))))) (.lit (.lit (.lit (.lit (.lit (.lit (.lit (.lit (.lit (.lit (.lit (.lit (.lit (.lit (.nil))))))))))))))))))))))))))))))))))))) (.lit (.abs (Bool) (fun YY=>AV.pv (enc YY)) (.ask (.lit (.lit (.lit (.lit (.lit (.nil)))))) (.lit (.lit (.lit (.lit (.nil)))))))))) h (by kernel_rfl)
noncomputable def a4s:IC:=LG
def a6q:List IRes:=[(.cell true 2 2)]
abbrev d6g:Nat:=5
def c5a:ZI:=YN []
theorem d9r{G:PV->Prop}(n:Int)(h:G ((.agg [(.int .i64 n),(.sl 0 true [])]))):Zf c5a 0 (Ze a6q G) a4s [] (Yp 5 [enc n]):=Zf.tp (.nil) h (by kernel_rfl)
noncomputable def Om:IC:=Xp Proofs.Tryz.f99
def Ot:List IRes:=[(.tmp 6)]
abbrev d3d:Nat:=28
def a4l:ZI:=YN []
theorem d6i{G:PV->Prop}(k:Int)(m:List Int)(l:Lin)(ks:List Cert)(n:Int)(b:Bool)(h:if ((↑(List.length (List.map enc ks)):Int) != n)=true then G ((.bool false))else(if (b)=true then if ((↑(List.length (List.map enc l.t)):Int)==0)=true then G ((.bool (l.k==0)))else(G ((.bool false)))else(G ((.bool ((↑(List.length (List.map enc m)):Int)==0)))))):Zf a4l 0 (Ze Ot G) Om [] (Yp 28 [.agg [enc k,enc m,enc l.k,enc l.t,enc ks],enc n,enc b]):=Zf.tp (.lit (.ask (.nil) (.ask (.lit (.ask (.lit (.lit (.lit (.lit (.lit (.nil)))))) (.lit (.lit (.lit (.lit (.nil))))))) (.lit (.nil))))) h (by kernel_rfl)
end Go.Pl
