/-
  Texts of mine that belong together (packed by pack.py), for every input: TyL, TyM, TyN, TyT, TyO, TyS, GLb, GLa, QLa, QLb, GLc, QLc, GLd, QLd, TyU, QLh, QLm, GLe, QLe, GLg, QLg, QLf, GLi, GL1, QL1, QL2, QLi, QLj, QL3, QL4, GL5, QL5, GL7, QL7, TyR, GLr, QRp, QRq, TyRa, GRa, QGa, GRb, TyP, GLo, QLq, QGb, QGc, GRp, QGp, QLr, GLm, GLk, QLk, GLn, QLn, QLo, QLp, QRa, QRb, QRc, TyQ, GLu, GLt, QRs, QRt, QRu, QRv, GLv, QRw, QRx, TyRb, TyRc, TyPo, QGd.
-/
import Derived.Test.YtjfgiaooglnomaaGreatDoorChecked
import Derived.Test.YtjfgiaooglnomaaGreatDoorKV2
import Derived.KernelRfl
import Derived.Lib.AtoiAllMem
import Derived.Lib.AtoiAllCases
import Derived.Lib.ItoaNum
set_option linter.unusedVariables false
set_option linter.unusedSimpArgs false
namespace Go.Pl
open Go.RowKit
open Enc (enc dec is)
open EncL (encL decL isL)
structure Coef where
 v:Str
 c:Int
 deriving DecidableEq
instance:Enc Coef where
 sz:=2
 enc x:=.agg [enc x.v,enc x.c]
 dec | .agg [a,b]=>⟨dec a,dec b⟩|_=>⟨⟨[]⟩,0⟩
 is | .agg [a,b]=>is Str a&&is Int b|_=>false
 is_enc v:=by simp
 dec_enc v:=by simp
 sub p h:=by
  cases p with
  | agg xs=>
   match xs,h with
   | [a,b],h=>
    simp only[Bool.and_eq_true]at h
    exact .agg (.cons (Enc.sub a h.1).2 (.cons (Enc.sub b h.2).2 .nil))
  | _=>cases h
structure Lin where
 k:Int
 t:List Coef
 deriving DecidableEq
instance:Enc Lin where
 sz:=2
 enc x:=.agg [enc x.k,enc x.t]
 dec | .agg [a,b]=>⟨dec a,dec b⟩|_=>⟨0,[]⟩
 is | .agg [a,b]=>is Int a&&is (List Coef) b|_=>false
 is_enc v:=by simp
 dec_enc v:=by simp
 sub p h:=by
  cases p with
  | agg xs=>
   match xs,h with
   | [a,b],h=>
    simp only[Bool.and_eq_true]at h
    exact .agg (.cons (Enc.sub a h.1).2 (.cons (Enc.sub b h.2).2 .nil))
  | _=>cases h
@[simp] theorem e2p (a b : PV) : is Coef (.agg [a, b]) = (is Str a && is Int b) := rfl
@[simp] theorem e1v (a b : PV) : (dec (.agg [a, b]) : Coef) = ⟨dec a, dec b⟩ := rfl
@[simp] theorem e3w (a b : PV) : is Lin (.agg [a, b]) = (is Int a && is (List Coef) b) := rfl
@[simp] theorem e2l (a b : PV) : (dec (.agg [a, b]) : Lin) = ⟨dec a, dec b⟩ := rfl
def digB(c:UInt8):Bool:=decide (48<=c)&&decide (c<=57)
def VF(c:UInt8):Bool:=decide (97<=c)&&decide (c<=122)
def ZH(s:Str):Bool:=match s.s with
 | []=>false
 | c::r=>if c=95 then r.all digB&& !r.isEmpty&&decide (r.head? ≠ some 48)&&decide (r.length<=9)else VF c&&r.all (fun c=>VF c||digB c)&&decide (r.length<=29)
def YT(n:Int):Bool:=decide (-1000000<=n)&&decide (n<=1000000)
def G5:List Coef->Bool
 | a::b::l=>decide (a.v.s<b.v.s)&&G5 (b::l)
 | _=>true
def Zh(l:Lin):Bool:=l.t.all (fun t=>ZH t.v&&decide (t.c≠0)&&YT t.c)&&G5 l.t&&YT l.k&&decide (l.t.length<=12)
def atM(m:List (Str×Int))(s:List UInt8):Int:=((m.find? fun p=>p.1.s==s).map (·.2)).getD 0
end Go.Pl
namespace Go.Pl
open Go.RowKit
open Enc (enc dec is)
open EncL (encL decL isL)
structure Fact where
 eq:Bool
 l:Lin
 deriving DecidableEq
instance:Enc Fact where
 sz:=3
 enc x:=.agg [enc x.eq,enc x.l.k,enc x.l.t]
 dec | .agg [a,b,c]=>⟨dec a,⟨dec b,dec c⟩⟩|_=>⟨false,⟨0,[]⟩⟩
 is | .agg [a,b,c]=>is Bool a&&is Int b&&is (List Coef) c|_=>false
 is_enc v:=by simp
 dec_enc v:=by simp
 sub p h:=by
  cases p with
  | agg xs=>
   match xs,h with
   | [a,b,c],h=>
    simp only[Bool.and_eq_true]at h
    exact .agg (.cons (Enc.sub a h.1.1).2 (.cons (Enc.sub b h.1.2).2 (.cons (Enc.sub c h.2).2 .nil)))
  | _=>cases h
@[simp] theorem e2t (a b c : PV) : is Fact (.agg [a, b, c]) = (is Bool a && is Int b && is (List Coef) c) := rfl
@[simp] theorem e1s (a b c : PV) : (dec (.agg [a, b, c]) : Fact) = ⟨dec a, ⟨dec b, dec c⟩⟩ := rfl
structure Bnd where
 kind:Int
 v:Str
 dim:Lin
 row:Str
 dims:List Lin
 elem:Str
 deriving DecidableEq
instance:Enc Bnd where
 sz:=7
 enc x:=.agg [enc x.kind,enc x.v,enc x.dim.k,enc x.dim.t,enc x.row,enc x.dims,enc x.elem]
 dec | .agg [a,b,c,d,e,f,g]=>⟨dec a,dec b,⟨dec c,dec d⟩,dec e,dec f,dec g⟩|_=>⟨0,⟨[]⟩,⟨0,[]⟩,⟨[]⟩,[],⟨[]⟩⟩
 is | .agg [a,b,c,d,e,f,g]=>is Int a&&is Str b&&is Int c&&is (List Coef) d&&is Str e&&is (List Lin) f&&is Str g|_=>false
 is_enc v:=by simp
 dec_enc v:=by simp
 sub p h:=by
  cases p with
  | agg xs=>
   match xs,h with
   | [a,b,c,d,e,f,g],h=>
    simp only[Bool.and_eq_true]at h
    exact .agg (.cons (Enc.sub a h.1.1.1.1.1.1).2 (.cons (Enc.sub b h.1.1.1.1.1.2).2 (.cons (Enc.sub c h.1.1.1.1.2).2 (.cons (Enc.sub d h.1.1.1.2).2 (.cons (Enc.sub e h.1.1.2).2 (.cons (Enc.sub f h.1.2).2 (.cons (Enc.sub g h.2).2 .nil)))))))
  | _=>cases h
@[simp] theorem e3k (a b c d e f g : PV) : is Bnd (.agg [a, b, c, d, e, f, g]) = (is Int a && is Str b && is Int c && is (List Coef) d && is Str e && is (List Lin) f && is Str g) := rfl
@[simp] theorem e2k (a b c d e f g : PV) : (dec (.agg [a, b, c, d, e, f, g]) : Bnd) = ⟨dec a, dec b, ⟨dec c, dec d⟩, dec e, dec f, dec g⟩ := rfl
inductive Cert where
 | mk (kind:Int) (mults:List Int) (lin:Lin) (kids:List Cert)
mutual
def Hg:Cert->PV
 | .mk k m l ks=>.agg [enc k,enc m,enc l.k,enc l.t,.sl 5 false (WU ks)]
def WU:List Cert->List PV
 | []=>[]
 | c::cs=>Hg c::WU cs
end
mutual
def Bf:PV->Cert
 | .agg [a,b,c,d,.sl _ _ ks]=>.mk (dec a) (dec b) ⟨dec c,dec d⟩ (Ur ks)
 | _=>.mk 0 [] ⟨0,[]⟩ []
def Ur:List PV->List Cert
 | []=>[]
 | p::ps=>Bf p::Ur ps
end
mutual
def KL:PV->Bool
 | .agg [a,b,c,d,.sl s _ ks]=>is Int a&&is (List Int) b&&is Int c&&is (List Coef) d&&(ks.isEmpty||s==5)&&KP ks
 | _=>false
def KP:List PV->Bool
 | []=>true
 | p::ps=>KL p&&KP ps
end
theorem a6h(cs:List Cert):WU cs=cs.map Hg:=by
 induction cs with
 | nil=>simp[WU]
 | cons c cs ih=>simp[WU,ih]
theorem a3t(cs:List PV):Ur cs=cs.map Bf:=by
 induction cs with
 | nil=>simp[Ur]
 | cons c cs ih=>simp[Ur,ih]
theorem a4k(cs:List PV):KP cs=cs.all KL:=by
 induction cs with
 | nil=>simp[KP]
 | cons c cs ih=>simp[KP,ih]
mutual
theorem a8i: ∀ c:Cert,KL (Hg c)=true
 | .mk k m l ks=>by
  have h:=a0u ks
  simp only[Hg,KL,Enc.is_enc,Bool.true_and,Bool.and_eq_true,h,and_true]
  simp
theorem a0u: ∀ cs:List Cert,KP (WU cs)=true
 | []=>by simp[WU,KP]
 | c::cs=>by simp[WU,KP,a8i c,a0u cs]
end
mutual
theorem b0i: ∀ c:Cert,Bf (Hg c)=c
 | .mk k m l ks=>by
  have h:=Ep ks
  simp only[Hg,Bf,Enc.dec_enc,h]
theorem Ep: ∀ cs:List Cert,Ur (WU cs)=cs
 | []=>by simp[WU,Ur]
 | c::cs=>by simp[WU,Ur,b0i c,Ep cs]
end
mutual
theorem Ey: ∀ p:PV,KL p=true->KN p (Hg (Bf p))
 | .agg [a,b,c,d,.sl s t ks],h=>by
  simp only[KL,Bool.and_eq_true]at h
  obtain⟨⟨⟨⟨⟨h1,h2⟩,h3⟩,h4⟩,h5⟩,h6⟩:=h
  have hk:=NF ks h6
  simp only[Bf,Hg]
  refine .agg (.cons (Enc.sub a h1).2 (.cons (Enc.sub b h2).2 (.cons (Enc.sub c h3).2 (.cons (Enc.sub d h4).2 (.cons ?_ .nil)))))
  simp only[Bool.or_eq_true,List.isEmpty_iff,beq_iff_eq]at h5
  rcases h5 with rfl|rfl
  ·simp only[Ur,WU]
   exact(KN.sl0 _ _ _).2
  ·exact(KN.sl hk.1 hk.2).2
 | .bool _,h | .int _ _,h | .str _,h | .sl _ _ _,h | .tup _,h | .nilp,h | .nilmap,h | .nilfn,h | .nili,h | .ifc,h | .fn _,h | .rptr _,h=>by simp[KL]at h
 | .agg [],h | .agg [_],h | .agg [_,_],h | .agg [_,_,_],h | .agg [_,_,_,_],h=>by simp[KL]at h
 | .agg (a::b::c::d::e::f::g),h=>by
  have h':KL (.agg (a::b::c::d::e::f::g))=false:=by cases e <;> kernel_rfl
  rw[h']at h;cases h
 | .agg [_,_,_,_,.bool _],h | .agg [_,_,_,_,.int _ _],h | .agg [_,_,_,_,.str _],h | .agg [_,_,_,_,.agg _],h | .agg [_,_,_,_,.tup _],h | .agg [_,_,_,_,.nilp],h | .agg [_,_,_,_,.nilmap],h | .agg [_,_,_,_,.nilfn],h | .agg [_,_,_,_,.nili],h | .agg [_,_,_,_,.ifc],h | .agg [_,_,_,_,.fn _],h | .agg [_,_,_,_,.rptr _],h=>by simp[KL]at h
theorem NF: ∀ ps:List PV,KP ps=true->ps.length=(WU (Ur ps)).length∧ ∀ (j:Nat) x y,ps[j]? = some x->(WU (Ur ps))[j]? = some y->KN x y
 | [],_=>⟨by simp[Ur,WU],fun j x y h=>by simp at h⟩
 | p::ps,h=>by
  simp only[KP,Bool.and_eq_true]at h
  have h1:=Ey p h.1
  have h2:=NF ps h.2
  refine⟨by simp[Ur,WU,<- h2.1],fun j x y hx hy=> ?_⟩
  simp only[Ur,WU]at hy
  cases j with
  | zero=>simp at hx hy;subst hx hy;exact h1
  | succ j=>exact h2.2 j x y (by simpa using hx) (by simpa using hy)
end
instance:Enc Cert where
 sz:=5
 enc:=Hg
 dec:=Bf
 is:=KL
 is_enc:=a8i
 dec_enc:=b0i
 sub:=Ey
theorem Qp(k:Int)(m:List Int)(l:Lin)(ks:List Cert):(enc (Cert.mk k m l ks):PV) = .agg [enc k,enc m,enc l.k,enc l.t,enc ks]:=by
 show Hg _=_
 rw[Hg,a6h]
 rfl
@[simp] theorem e2q (a b c d e : PV) : is Cert (.agg [a, b, c, d, e]) = (is Int a && is (List Int) b && is Int c && is (List Coef) d && is (List Cert) e) := by
 show KL _=_
 cases e <;> simp only[KL] <;> try (simp[is];done)
 rename_i s t ks
 rw[a4k]
 show _=(_&&((ks.isEmpty||s==5)&&ks.all KL))
 rw[Bool.and_assoc]
@[simp] theorem e2i (a b c d e : PV) (h : is (List Cert) e = true) : (dec (.agg [a, b, c, d, e]) : Cert) = .mk (dec a) (dec b) ⟨dec c, dec d⟩ (dec e) := by
 show Bf _=_
 cases e <;> try (cases h;done)
 rw[Bf,a3t]
 rfl
end Go.Pl
namespace Go.Pl
open Enc (enc dec is)
structure Er where
 b:Bool
 deriving DecidableEq
instance:Enc Er where
 sz:=1
 enc x:=if x.b then .ifc else .nili
 dec | .ifc=>⟨true⟩|_=>⟨false⟩
 is | .ifc=>true | .nili=>true|_=>false
 is_enc v:=by obtain⟨b⟩:=v;cases b <;> rfl
 dec_enc v:=by obtain⟨b⟩:=v;cases b <;> rfl
 sub p h:=by cases p <;> first|exact .refl _|cases h
def YW(s:Str):Int×Er:=match Lib.atoiAll s.s with
 | .ok v=>(v,⟨false⟩)
 | .range=>(Lib.atoiSat s.s,⟨true⟩)
 | _=>(0,⟨true⟩)
def a2a(n:Int):Str:=⟨Lib.itoa n⟩
def JK(l:Lin)(n:Int):Bool:=l.t.all (fun t=>decide (t.v.s.length<=40))&&decide ((l.t.length:Int)<=n)
abbrev XI(n:Int):Int:=IntKind.i64.wrap n
def We(s:Str)(c:Int):Bool->List Coef->List Coef
 | put,[]=>if put then []else [⟨s,c⟩]
 | put,t::r=>(if !put&&decide (s.s<t.v.s)then [⟨s,c⟩]else [])++(if t.v=s then⟨t.v,XI (t.c+c)⟩::We s c true r else t::We s c (put||decide (s.s<t.v.s)) r)
def Wu(l:Lin)(s:Str)(c:Int):Lin:=⟨l.k,(We s c false l.t).filter fun t=>decide (t.c≠0)⟩
def Uy(l x:Lin)(k:Int):Lin:=x.t.foldl (fun o t=>Wu o t.v (XI (k*t.c))) ⟨XI (l.k+XI (k*x.k)),l.t⟩
def Wj(v:List Coef)(s:Str):Option Int:=(v.find? fun t=>decide (t.v=s)).map (·.c)
def UF(v:List Coef):Int->List Coef->Int×Int
 | n,[]=>(n,0)
 | n,t::r=>match Wj v t.v with
  | none=>(0,7)
  | some x=>if x < -1000000000 then(0,2)else if x>1000000000 then(0,2)else UF v (XI (n+XI (t.c*x))) r
def ZZ(l:Lin)(v:List Coef):Int×Int:=if Zh l then UF v l.k l.t else(0,1)
def YR(n:Int):Bool:=decide (-4611686018427387904<=n)&&decide (n<=4611686018427387904)
def Et(a b:Int):Int:=if YR a&&YR b then(if b=0 then 1 else 0)else 2
def b3r(a b:Int):Int:=if a.tmod b≠0∧decide (a<0)≠decide (b<0)then XI (XI (a.tdiv b) - 1)else XI (a.tdiv b)
def DN(a b:Int):Int×Int:=if Et a b≠0 then(0,Et a b)else(b3r a b,0)
mutual
def R7:Cert->Int
 | .mk _ _ _ ks=>Br 1 ks
def Br(n:Int):List Cert->Int
 | []=>n
 | c::cs=>Br (XI (n+R7 c)) cs
end
def Z9(l:Lin):Bool:=decide (l.t.length<=9223372036854775807)
def Z0(l:Lin):Bool:=Z9 l&&l.t.all fun t=>decide (t.v.s.length<=1000000)
mutual
def cOk:Cert->Bool
 | .mk _ m l ks=>decide (m.length<=9223372036854775807)&&Z9 l&&decide (ks.length<=9223372036854775807)&&b2q ks
def b2q:List Cert->Bool
 | []=>true
 | c::cs=>cOk c&&b2q cs
end
mutual
def d6m:Cert->Nat
 | .mk _ _ _ ks=>a2m ks+1
def a2m:List Cert->Nat
 | []=>0
 | c::cs=>max (d6m c) (a2m cs)
end
end Go.Pl
namespace Go.Pl
open Go.RowKit
open Enc (enc dec is)
open EncL (encL decL isL)
abbrev Yk{α β:Type}[EncL α][Enc β](F:α->β)(ps:List PV)(K:β->Prop):Prop:= ∃ y,AV.pv (Zw F ps)=AV.pv (enc y)∧K y
abbrev Xc{α:Type}[Enc α](l:List α)(i:Int)(K:α->Prop):Prop:= ∃ y:α,AV.pv (PV.rptr (PV.cells (List.getD (List.map enc l) (Int.toNat i) default)))=AV.pv (PV.rptr (PV.cells ((enc) y)))∧K y
abbrev Vt{α:Type}[Enc α](l:List α)(i:Int)(n:Nat):Prop:=(decide (0<=i)&&decide (Int.toNat i<List.length (List.map (enc:α->PV) l))&&Enc.sz α==n)=true
abbrev Rx{α:Type}[Enc α](l:List α)(i:Int):Bool:=decide (i<(↑(List.length (List.map (enc:α->PV) l)):Int))
abbrev WY{α:Type}[Enc α](y:α):PV:=List.getD (List.drop 1 (PV.cells (enc y))) 0 default
abbrev SA{α:Type}[Enc α](y:α):List PV:=PV.asXs (List.getD (List.drop 1 (PV.cells (enc y))) 0 default)
abbrev Yp{α:Type}[Enc α](y:α):PV:=List.getD (PV.cells (enc y)) 0 default
abbrev X9{α:Type}[Enc α](y:α):PV:=List.getD (PV.cells (enc y)) (0+1) default
abbrev g0'{α:Type}[Enc α](l:List α)(i:Int):PV:=List.getD (List.map enc l) (0+Int.toNat i) default
abbrev Vs{α:Type}[Enc α](y:α)(i:Int):PV:=List.getD (SA y) (Int.toNat i) default
def Yj(α:Type)[Enc α](m:Mq):Mq:=.abs α (fun y=>AV.pv (enc y)) m
def ZK:Nat->Mq->Mq
 | 0,m=>m
 | n+1,m=>.lit (ZK n m)
def Yo(n:Nat):Mq:=ZK n .nil
abbrev Zc(n:Int):AV:=.pv (.int .i64 n)
abbrev Y3{α:Type}[Enc α](l:List α):AV:=.pv (.sl 1 false (List.map enc l))
abbrev ZM{α:Type}[Enc α](l:List α):AV:=.pv (.sl 2 false (List.map enc l))
abbrev Jz(s:List Sh)(x:List PV):Bool:=decide (0+List.length s<=List.length x)&&Ga x 0 s
def Xa(α:Type)[Enc α](m:Mq):Mq:=.abs α (fun y=>AV.pv (PV.rptr (PV.cells (enc y)))) m
theorem Zu{α:Type}[Enc α]{l:List α}{i:Nat}(h:i<l.length){P:α->Prop}(k:P l[i]):
  ∃ y:α,AV.pv (PV.rptr (PV.cells (List.getD (List.map enc l) (Int.toNat (i:Int)) default)))=AV.pv (PV.rptr (PV.cells (enc y)))∧P y:=⟨l[i],by rw[HV enc h],k⟩
theorem Zn{α:Type}[Enc α]{l:List α}{i n:Nat}(h:i<l.length)(hn:Enc.sz α=n):(decide (0<=(i:Int))&&decide (Int.toNat (i:Int)<List.length (List.map (enc:α->PV) l))&&Enc.sz α==n)=true:=by simp[hn,h]
theorem Yy{α:Type}[Enc α]{l:List α}{i:Nat}(h:i<l.length):decide ((i:Int)<(List.length (List.map (enc:α->PV) l):Int))=true:=by simp;omega
theorem YY{α:Type}[Enc α]{l:List α}{i:Nat}(h : ¬ i<l.length): ¬ decide ((i:Int)<(List.length (List.map (enc:α->PV) l):Int))=true:=by simp;omega
theorem Yi{n i:Nat}(h:i<n):decide ((i:Int)<(n:Int))=true:=by simp;omega
theorem Yt{n i:Nat}(h : ¬ i<n): ¬ decide ((i:Int)<(n:Int))=true:=by simp;omega
theorem d4z{P Q:Prop}:(if (!false)=true then P else Q)=P:=rfl
theorem e1u{P Q:Prop}:(if (!true)=true then P else Q)=Q:=rfl
theorem ZA{c:Prop}[Decidable c]{P Q:Prop}(h:c)(k:P):if c then P else Q:=by rw[if_pos h];exact k
theorem ZG{c:Prop}[Decidable c]{P Q:Prop}(h : ¬ c)(k:Q):if c then P else Q:=by rw[if_neg h];exact k
theorem Ht{c:Prop}[Decidable c]{P Q:Prop}(h1:c->P)(h2 : ¬ c->Q):if c then P else Q:=by split;exact h1 ‹_›;exact h2 ‹_›
theorem Xt{b:Bool}{P Q:Prop}(h1:b=false->P)(h2:b=true->Q):if (!b)=true then P else Q:=by cases b;exact h1 rfl;exact h2 rfl
theorem WP{b:Bool}{P Q:Prop}(h1:b=true->P)(h2:b=false->Q):if b=true then P else Q:=by cases b;exact h2 rfl;exact h1 rfl
theorem XJ{c:Prop}[Decidable c]{P Q:Prop}(h1:c->P)(h2 : ¬ c->Q):if decide c=true then P else Q:=by by_cases h:c;rw[if_pos (by simpa using h)];exact h1 h;rw[if_neg (by simpa using h)];exact h2 h
theorem Ko{α:Type}[BEq α][LawfulBEq α]{x y:α}{P Q:Prop}(h1:x=y->P)(h2:x≠y->Q):if (x==y)=true then P else Q:=by by_cases h:x=y;rw[if_pos (by simpa using h)];exact h1 h;rw[if_neg (by simpa using h)];exact h2 h
theorem ZC{β:Type}[Enc β]{x y:β}(h:x=y):Zi y (enc x):=⟨Enc.is_enc x,by rw[Enc.dec_enc,h]⟩
theorem ZW{x y:Bool}(h:x=y):Zi y (.bool x):=⟨rfl,h⟩
theorem Ut{x y:Int}(h:x=y):Zi y (.int .i64 x):=⟨rfl,h⟩
section
variable (x:Coef) (f:Fact)
theorem co1:PV.asStr (List.getD (PV.cells (enc x)) 0 default)=x.v.s:=rfl
theorem co2:PV.asInt (List.getD (PV.cells (enc x)) (0+1) default)=x.c:=rfl
theorem co3:PV.asStr (List.getD (List.drop 0 (PV.cells (enc x))) 0 default)=x.v.s:=rfl
theorem co4:PV.asInt (List.getD (List.drop 1 (PV.cells (enc x))) 0 default)=x.c:=rfl
end
theorem d4p{c:UInt8}(n:Nat)(h:c≠UInt8.ofNat n)(hn:n<256): ¬ ((c.toNat:Int)==(n:Int))=true:=by
 intro e
 have e:(c.toNat:Int)=n:=by simpa using e
 have e:c.toNat=n:=by omega
 exact h (UInt8.toNat_inj.1 (by rw[e,UInt8.toNat_ofNat'];omega))
theorem YH: ∀ a b:List UInt8,Op.bytesLess a b=decide (a<b)
 | [],[]=>by simp[Op.bytesLess]
 | _::_,[]=>by simp[Op.bytesLess]
 | [],_::_=>by simp[Op.bytesLess]
 | x::a,y::b=>by
  rw[Op.bytesLess,YH a b]
  simp only[List.cons_lt_cons_iff]
  by_cases h1:x<y
  ·simp[h1]
  ·by_cases h2:x=y
   ·subst h2;simp
   ·simp[h1,h2]
theorem Zt.or{P:Program}{f:Nat}{α β:Type}[EncL α][Enc β]{pre:α->Bool}{F:α->β}(c:α->Bool)(h1:Zt P f (fun a=>pre a&&c a) F)(h2:Zt P f (fun a=>pre a&& !c a) F):Zt P f pre F:=fun ps hps=>by
 have hps':=hps
 simp only[preT,Bool.and_eq_true]at hps'
 cases hc:c (decL ps)
 ·exact h2 ps (by simp only[preT,hps'.1,hps'.2,hc];rfl)
 ·exact h1 ps (by simp only[preT,hps'.1,hps'.2,hc];rfl)
mutual
def PQ:PV->PV->Bool
 | .bool a,.bool b=>a==b
 | .int k a,.int l b=>Dq k l&&a==b
 | .str a,.str b=>a==b
 | .sl s t xs,.sl s' t' ys=>s==s'&&t==t'&&Sv xs ys
 | .agg xs,.agg ys=>Sv xs ys
 | .tup xs,.tup ys=>Sv xs ys
 | .nilp,.nilp=>true
 | .nilmap,.nilmap=>true
 | .nilfn,.nilfn=>true
 | .nili,.nili=>true
 | .ifc,.ifc=>true
 | .fn a,.fn b=>a==b
 | .rptr xs,.rptr ys=>Sv xs ys
 | _,_=>false
def Sv:List PV->List PV->Bool
 | [],[]=>true
 | x::xs,y::ys=>PQ x y&&Sv xs ys
 | _,_=>false
end
theorem a1t(k:IntKind):Dq k k=true:=by cases k <;> rfl
mutual
theorem c8c: ∀ (p q:PV),PQ p q=true->p=q
 | .bool a,q,h=>by cases q <;> simp[PQ]at h;rw[h]
 | .int k a,q,h=>by cases q <;> simp[PQ]at h;rw[GL h.1,h.2]
 | .str a,q,h=>by cases q <;> simp[PQ]at h;rw[h]
 | .sl s t xs,q,h=>by cases q <;> simp[PQ]at h;rw[h.1.1,h.1.2,C9 xs _ h.2]
 | .agg xs,q,h=>by cases q <;> simp[PQ]at h;rw[C9 xs _ h]
 | .tup xs,q,h=>by cases q <;> simp[PQ]at h;rw[C9 xs _ h]
 | .nilp,q,h=>by cases q <;> simp[PQ]at h;rfl
 | .nilmap,q,h=>by cases q <;> simp[PQ]at h;rfl
 | .nilfn,q,h=>by cases q <;> simp[PQ]at h;rfl
 | .nili,q,h=>by cases q <;> simp[PQ]at h;rfl
 | .ifc,q,h=>by cases q <;> simp[PQ]at h;rfl
 | .fn a,q,h=>by cases q <;> simp[PQ]at h;rw[h]
 | .rptr xs,q,h=>by cases q <;> simp[PQ]at h;rw[C9 xs _ h]
theorem C9: ∀ (xs ys:List PV),Sv xs ys=true->xs=ys
 | [],ys,h=>by cases ys <;> simp[Sv]at h;rfl
 | x::xs,ys,h=>by
  cases ys with
  | nil=>simp[Sv]at h
  | cons y ys=>simp[Sv]at h;rw[c8c x y h.1,C9 xs ys h.2]
end
mutual
theorem OH: ∀ (p:PV),PQ p p=true
 | .bool a | .str a | .fn a=>by simp[PQ]
 | .int k a=>by simp[PQ,a1t]
 | .sl s t xs=>by simp[PQ,Aj xs]
 | .agg xs | .tup xs | .rptr xs=>by simp[PQ,Aj xs]
 | .nilp | .nilmap | .nilfn | .nili | .ifc=>by simp[PQ]
theorem Aj: ∀ (xs:List PV),Sv xs xs=true
 | []=>by simp[Sv]
 | x::xs=>by simp[Sv,OH x,Aj xs]
end
def WN(α:Type)[Enc α](p:PV):Bool:=PQ p (enc (dec p:α))
@[simp] theorem ZR {α : Type} [Enc α] (a : α) : WN α (enc a) = true := by unfold WN; rw [Enc.dec_enc]; exact OH _
theorem YG{α:Type}[Enc α]{p:PV}(h:WN α p=true): ∃ a:α,p=enc a:=⟨_,c8c _ _ h⟩
end Go.Pl
namespace Go.Pl
open Enc (enc dec is)
@[irreducible] def Ck (a : Nat) (r : List UInt8) : Nat := r.foldl (fun a c => a * 10 + (c.toNat - 48)) a
theorem Cy(a:Nat):Ck a []=a:=by unfold Ck;rfl
theorem Je(a:Nat)(c:UInt8)(r:List UInt8):Ck a (c::r)=Ck (a*10+(c.toNat - 48)) r:=by unfold Ck;rfl
theorem Un{c:UInt8}:digB c=true ↔ 48<=c.toNat∧c.toNat<=57:=by
 simp only[digB,Bool.and_eq_true,decide_eq_true_eq,UInt8.le_iff_toNat_le]
 have e1:(48:UInt8).toNat=48:=rfl
 have e2:(57:UInt8).toNat=57:=rfl
 rw[e1,e2]
theorem a9v: ∀ (r:List UInt8) (a:Nat),r.all digB=true->Ck a r<(a+1)*10 ^ r.length
 | [],a,_=>by simp[Cy]
 | c::r,a,h=>by
  simp only[List.all_cons,Bool.and_eq_true,Un]at h
  have:=a9v r (a*10+(c.toNat - 48)) h.2
  rw[Je,List.length_cons,Nat.pow_succ]
  refine Nat.lt_of_lt_of_le this ?_
  rw[Nat.mul_comm (10 ^ r.length) 10,<- Nat.mul_assoc]
  exact Nat.mul_le_mul_right _ (by omega)
theorem FK: ∀ (r:List UInt8) (a:Nat),a<=Ck a r
 | [],a=>by rw[Cy];exact Nat.le_refl _
 | c::r,a=>by
  have:=FK r (a*10+(c.toNat - 48))
  rw[Je]
  omega
theorem MS: ∀ (r:List UInt8) (a:Nat),r.all digB=true->Ck a r<1000000000000000000->Lib.parseUint10 a r = .ok (Ck a r)
 | [],a,_,_=>by rw[Cy,Lib.parseUint10]
 | c::r,a,h,hv=>by
  simp only[List.all_cons,Bool.and_eq_true,Un]at h
  rw[Je]at hv ⊢
  have hge:=FK r (a*10+(c.toNat - 48))
  rw[Lib.parseUint10,if_pos h.1,if_neg (by omega),if_neg (by omega)]
  exact MS r _ h.2 hv
theorem c4v{a d:Nat}(ha:1<=a)(hd:d<=9):Lib.decDigits (a*10+d)=Lib.decDigits a++[UInt8.ofNat (48+d)]:=by
 rw[Lib.decDigits,dif_neg (by omega),show(a*10+d) / 10=a by omega,show(a*10+d) % 10=d by omega]
theorem b1g: ∀ (r:List UInt8) (a:Nat),1<=a->r.all digB=true->Lib.decDigits (Ck a r)=Lib.decDigits a++r
 | [],a,_,_=>by simp[Cy]
 | c::r,a,ha,h=>by
  simp only[List.all_cons,Bool.and_eq_true,Un]at h
  rw[Je,b1g r _ (by omega) h.2,c4v ha (by omega)]
  have:UInt8.ofNat (48+(c.toNat - 48))=c:=by
   rw[show 48+(c.toNat - 48)=c.toNat by omega]
   exact UInt8.ofNat_toNat
  rw[this]
  simp
theorem c7m{n:Nat}(h:n<256):(UInt8.ofNat n).toNat=n:=by rw[UInt8.toNat_ofNat'];omega
theorem a7h: ∀ (u:Nat),1<=u->(Lib.decDigits u).all digB=true∧(Lib.decDigits u).head? ≠ some 48∧Lib.decDigits u≠[]:=by
 intro u
 induction u using Nat.strongRecOn with
 | _ u ih=>
  intro h1
  rw[Lib.decDigits]
  by_cases h:u<10
  ·rw[dif_pos h]
   refine⟨?_,?_,by simp⟩
   ·simp only[List.all_cons,List.all_nil,Bool.and_true]
    rw[Un,c7m (by omega)]
    omega
   ·simp only[List.head?_cons,ne_eq,Option.some.injEq]
    intro e
    have:=congrArg UInt8.toNat e
    rw[c7m (by omega)]at this
    have e48:(48:UInt8).toNat=48:=rfl
    rw[e48]at this
    omega
  ·rw[dif_neg h]
   obtain⟨i1,i2,i3⟩:=ih (u / 10) (by omega) (by omega)
   refine⟨?_,?_,by simp⟩
   ·rw[List.all_append,i1]
    simp only[List.all_cons,List.all_nil,Bool.and_true,Bool.true_and]
    rw[Un,c7m (by omega)]
    omega
   ·cases hd:Lib.decDigits (u / 10)with
    | nil=>exact absurd hd i3
    | cons c r=>rw[hd]at i2;simpa using i2
def a2u(r:List UInt8):Bool:=r.all digB&& !r.isEmpty&&decide (r.head? ≠ some 48)
theorem d9r(b:Bool):Kt (enc (⟨b⟩:Er)) = !b:=by cases b <;> rfl
theorem d4w(e:Er):PG (enc e)=true:=by obtain⟨b⟩:=e;cases b <;> rfl
theorem a8w(r:List UInt8)(hr:r.length<=9):(Kt (enc (YW ⟨r⟩).2)&&decide ((YW ⟨r⟩).1>0)&&(Lib.itoa (YW ⟨r⟩).1==r))=a2u r:=by
 by_cases hn:a2u r=true
 ·rw[hn]
  simp only[a2u,Bool.and_eq_true,Bool.not_eq_true',decide_eq_true_eq]at hn
  obtain⟨⟨h1,h2⟩,h3⟩:=hn
  cases r with
  | nil=>simp at h2
  | cons c r=>
   have h1':=h1
   simp only[List.all_cons,Bool.and_eq_true,Un]at h1
   have hc:c≠48:=by simpa using h3
   have hc':c.toNat≠48:=fun e=>hc (UInt8.toNat_inj.1 (by rw[e];rfl))
   have hv:=a9v (c::r) 0 h1'
   have hp:10 ^ (c::r).length<=10 ^ 9:=Nat.pow_le_pow_right (by omega) hr
   have hpm:=MS (c::r) 0 h1' (by omega)
   have hat:Lib.atoiAll (c::r) = .ok (Ck 0 (c::r):Int):=by
    have e1 : ¬ (c.toNat=43∨c.toNat=45):=by omega
    have e2 : ¬ c.toNat=45:=by omega
    simp only[Lib.atoiAll,if_neg e1,Lib.parseMag,if_neg (show ¬ (c::r=[]) by simp),hpm]
    rw[if_neg (by omega),if_neg (fun e=>e2 e.1),if_neg e2]
   have ha:YW ⟨c::r⟩=((Ck 0 (c::r):Int),⟨false⟩):=by simp only[YW,hat]
   have hvd:Ck 0 (c::r)=Ck (c.toNat - 48) r:=by rw[Je];congr 1;omega
   have hpos:=FK r (c.toNat - 48)
   rw[ha]
   have h4:Lib.itoa (Ck 0 (c::r):Int)=c::r:=by
    rw[Lib.itoa,if_neg (by omega),Int.toNat_natCast,hvd,b1g r _ (by omega) h1.2,Lib.decDigits,dif_pos (by omega)]
    have:UInt8.ofNat (48+(c.toNat - 48))=c:=by
     rw[show 48+(c.toNat - 48)=c.toNat by omega]
     exact UInt8.ofNat_toNat
    rw[this];rfl
   simp only[d9r,h4,beq_self_eq_true,Bool.and_true,Bool.not_false,Bool.true_and]
   exact decide_eq_true (by omega)
 ·have hn:a2u r=false:=by simpa using hn
  rw[hn]
  by_cases h1:decide ((YW ⟨r⟩).1>0)=true
  ·by_cases h2:(Lib.itoa (YW ⟨r⟩).1==r)=true
   ·exfalso
    have h1:(YW ⟨r⟩).1>0:=by simpa using h1
    have h2:Lib.itoa (YW ⟨r⟩).1=r:=by simpa using h2
    rw[Lib.itoa,if_neg (by omega)]at h2
    obtain⟨d1,d2,d3⟩:=a7h (YW ⟨r⟩).1.toNat (by omega)
    rw[h2]at d1 d2 d3
    have:a2u r=true:=by simp only[a2u,d1,decide_eq_true d2,Bool.true_and,Bool.and_true];cases r <;> simp at d3 ⊢
    rw[this]at hn;cases hn
   ·simp[h2]
  ·simp[h1]
theorem a1x(r:List UInt8):ZH ⟨95::r⟩=(a2u r&&decide (r.length<=9)):=by simp[ZH,a2u]
end Go.Pl
namespace Go.Pl
open Go.RowKit
open Enc (enc dec is)
open EncL (encL decL isL)
def b5h(s:Str)(c:Int):List (Str×Int)->List (Str×Int)
 | []=>[(s,c)]
 | p::m=>if s.s=p.1.s then(s,c)::m else p::b5h s c m
def d7h(k:Int):List Coef->List (Str×Int)->List (Str×Int)
 | [],m=>m
 | t::l,m=>d7h k l (b5h t.v (IntKind.i64.wrap (atM m t.v.s+IntKind.i64.wrap (k*t.c))) m)
def Zl(l:List Fact):Bool:=decide (l.length<=9223372036854775807)&&l.all fun f=>Z0 f.l
def YU(l:List Fact):Bool:=l.all fun f=>Zh f.l
def VH:AV×List AObj×List AObj:=(.tup [.pv (.int .i64 0),.pv .nilmap,.pv (.bool false)],[],[])
structure FnV (n:Nat) where
 u:Unit:=()
instance (n:Nat):Enc (FnV n) where
  sz:=1
  enc _:=.fn n
  dec _:={}
  is | .fn m=>m==n|_=>false
  is_enc _:=by simp
  dec_enc _:=rfl
  sub p h:=by
    cases p with
    | fn m => have : m = n := by simpa using h
              subst this;exact .refl _
    | _=>cases h
def ZL{α:Type}(p:α->Bool)(l:List α):Int:=match l.findIdx? p with|some i=>i|none=> -1
theorem WE{α:Type}(p:α->Bool)(l:List α):decide (ZL p l ≥ 0)=l.any p:=by
 unfold ZL
 cases h:l.findIdx? p with
 | none=>
  rw[List.findIdx?_eq_none_iff]at h
  have:l.any p=false:=by rw[List.any_eq_false];intro x hx;simp[h x hx]
  rw[this];rfl
 | some i=>
  have:l.any p=true:=by
   rw[List.findIdx?_eq_some_iff_getElem]at h
   obtain⟨hi,hp,_⟩:=h
   rw[List.any_eq_true]
   exact⟨_,List.getElem_mem hi,hp⟩
  rw[this]
  exact decide_eq_true (by show(i:Int) ≥ 0;omega)
theorem Kz{α:Type}(p:α->Bool)(l:List α)(i:Nat)(hlt:i<l.length)(hno : ∀ j (h:j<l.length),j<i->p l[j]=false)(hp:p l[i]=true):ZL p l=i:=by
 unfold ZL
 have:l.findIdx? p=some i:=by
  rw[List.findIdx?_eq_some_iff_getElem]
  exact⟨hlt,hp,fun j hj=>by simp[hno j (by omega) hj]⟩
 rw[this]
theorem KG{α:Type}(p:α->Bool)(l:List α)(hno : ∀ j (h:j<l.length),p l[j]=false):ZL p l = -1:=by
 unfold ZL
 have:l.findIdx? p=none:=by
  rw[List.findIdx?_eq_none_iff]
  intro x hx
  obtain⟨j,hj,rfl⟩:=List.getElem_of_mem hx
  exact hno j hj
 rw[this]
def Yx(f:Fact)(v:List Coef):Bool:=decide ((ZZ f.l v).2=0)&& !decide ((ZZ f.l v).1<0)&&(!f.eq||decide ((ZZ f.l v).1=0))
def Cm:List AV->List AObj->Bool
 | [.pv f,.ptr 0 0],[.box [.pv v]]=>WN Fact f&&WN (List Coef) v&&Z0 (dec f:Fact).l&&decide ((dec v:List Coef).length<=9223372036854775807)
 | _,_=>false
def Ab:List AV->List AObj->AV×List AObj×List AObj
 | [.pv f,_],[.box [.pv v]]=>(.pv (.bool (!Yx (dec f) (dec v))),[.box [.pv v]],[])
 | _,_=>VH
def VP(g:Nat):List AV->List AObj->Bool
 | [.pv l,.fn g' [] [.ptr 0 0]],[.box [.pv v]]=>g'==g&&WN (List Fact) l&&WN (List Coef) v&&Zl (dec l)&&decide ((dec v:List Coef).length<=9223372036854775807)
 | _,_=>false
def Tf:List AV->List AObj->AV×List AObj×List AObj
 | [.pv l,_],[.box [.pv v]]=>(.pv (.int .i64 (ZL (fun f=> !Yx f (dec v)) (dec l))),[.box [.pv v]],[])
 | _,_=>VH
def Td:List AV->List AObj->AV×List AObj×List AObj
 | [.pv l,_],[.box [.pv v]]=>(.pv (.bool ((dec l:List Fact).any (fun f=> !Yx f (dec v)))),[.box [.pv v]],[])
 | _,_=>VH
def RY:List AV->List AObj->Bool
 | [.pv x,.ptr 0 0],[.box [.pv (.str v),.pv (.int .i64 c)]]=>WN Coef x
 | _,_=>false
def Og:List AV->List AObj->AV×List AObj×List AObj
 | [.pv x,_],[.box [.pv (.str v),.pv (.int .i64 c)]]=>(.pv (.bool ((dec x:Coef).v.s==v)),[.box [.pv (.str v),.pv (.int .i64 c)]],[])
 | _,_=>VH
def JS(g:Nat):List AV->List AObj->Bool
 | [.pv l,.fn g' [] [.ptr 0 0]],[.box [.pv (.str v),.pv (.int .i64 c)]]=>g'==g&&WN (List Coef) l&&decide ((dec l:List Coef).length<=9223372036854775807)
 | _,_=>false
def Sy:List AV->List AObj->AV×List AObj×List AObj
 | [.pv l,_],[.box [.pv (.str v),.pv (.int .i64 c)]]=>(.pv (.int .i64 (ZL (fun t:Coef=>t.v.s==v) (dec l))),[.box [.pv (.str v),.pv (.int .i64 c)]],[])
 | _,_=>VH
end Go.Pl
namespace Go.Pl
open Go.RowKit
open Enc (enc dec is)
open EncL (encL decL isL)
set_option maxRecDepth 100000
end Go.Pl
namespace Go.Pl
open Go.RowKit
open Enc (enc dec is)
open EncL (encL decL isL)
set_option maxRecDepth 100000
-- IMPOSSIBLE
end Go.Pl
namespace Go.Pl
open Go.RowKit
open Enc (enc dec is)
open EncL (encL decL isL)
end Go.Pl
namespace Go.Pl
open Go.RowKit
open Enc (enc dec is)
open EncL (encL decL isL)
set_option maxRecDepth 100000
end Go.Pl
namespace Go.Pl
open Go.RowKit
open Enc (enc dec is)
open EncL (encL decL isL)
end Go.Pl
namespace Go.Pl
open Go.RowKit
open Enc (enc dec is)
open EncL (encL decL isL)
set_option maxRecDepth 100000
end Go.Pl
namespace Go.Pl
open Go.RowKit
open Enc (enc dec is)
open EncL (encL decL isL)
end Go.Pl
namespace Go.Pl
open Go.RowKit
open Enc (enc dec is)
open EncL (encL decL isL)
mutual
def cSm:Cert->Bool
 | .mk _ m l ks=>decide (m.length<=9223372036854775807)&&Z0 l&&decide (ks.length<=9223372036854775807)&&b6j ks
def b6j:List Cert->Bool
 | []=>true
 | c::cs=>cSm c&&b6j cs
end
mutual
theorem d6j: ∀ {c:Cert},cSm c=true->cOk c=true
 | .mk k m l ks,h=>by
  simp only[cSm,cOk,Z0,Bool.and_eq_true]at h ⊢
  exact⟨⟨⟨h.1.1.1,h.1.1.2.1⟩,h.1.2⟩,a9p h.2⟩
theorem a9p: ∀ {cs:List Cert},b6j cs=true->b2q cs=true
 | [],_=>rfl
 | c::cs,h=>by
  simp only[b6j,b2q,Bool.and_eq_true]at h ⊢
  exact⟨d6j h.1,a9p h.2⟩
end
theorem GJ{l:Lin}(h:Zh l=true):l.t.length<=12:=by
 simp only[Zh,Bool.and_eq_true,decide_eq_true_eq]at h
 exact h.2
theorem JX{l:Lin}(h:Zh l=true){t:Coef}(ht:t∈l.t):ZH t.v=true∧t.c≠0∧ -1000000<=t.c∧t.c<=1000000:=by
 simp only[Zh,Bool.and_eq_true,decide_eq_true_eq,List.all_eq_true]at h
 have:=h.1.1.1 t ht
 simp only[YT,Bool.and_eq_true,decide_eq_true_eq]at this
 exact⟨this.1.1,this.1.2,this.2⟩
theorem Tj{l:Lin}(h:Zh l=true): -1000000<=l.k∧l.k<=1000000:=by
 simp only[Zh,YT,Bool.and_eq_true,decide_eq_true_eq]at h
 exact h.1.2
end Go.Pl
namespace Go.Pl
open Go.RowKit
open Enc (enc dec is)
open EncL (encL decL isL)
theorem Y2{n:Int}(h1 : -9223372036854775808<=n)(h2:n<=9223372036854775807):XI n=n:=WX h1 h2
end Go.Pl
namespace Go.Pl
open Go.RowKit
open Enc (enc dec is)
open EncL (encL decL isL)
set_option maxRecDepth 100000
noncomputable def a5k:IC:=Wn Proofs.Tryz.f162
def a8b:List IRes:=[(.tmp 2)]
abbrev d9y:Nat:=7
def c3z:ZU:=Xe [(73,.pure (preT (fun x:Lin×Unit=>Z0 x.1)) (Zw (fun x:Lin×Unit=>Zh x.1)))]
theorem e1g{G:PV->Prop}(f:Fact)(h:(Go.Pl.preT (fun(x:Lin×Unit)=>Z0 x.1) [(.agg [(.int .i64 (Lin.k f.l)),(.sl 2 false (List.map enc (Lin.t f.l)))])])=true∧(Yk (fun(x:Lin×Unit)=>Zh x.1) [(.agg [(.int .i64 (Lin.k f.l)),(.sl 2 false (List.map enc (Lin.t f.l)))])] fun y0:Bool=>G ((.bool !y0)))):Ze c3z 0 (Za a8b G) a5k [] (Yn 7 [enc f]):=Ze.tp (.req (Yj (Bool) (.nil))) h (by kernel_rfl)
noncomputable def Gd:IC:=Wn Proofs.Tryz.f227
def DC:List IRes:=[(.tmp 4)]
abbrev d6g:Nat:=19
def TY:ZU:=Xe [(162,.pure (preT (fun x:Fact×Unit=>Z0 x.1.l)) (Zw (fun x:Fact×Unit=> !(Zh x.1.l))))]
theorem e1r{G:PV->Prop}(l:List Fact)(h:At TY 0 (Za DC G) Gd 0 19 [(0,(.pv (.sl 3 false (List.map enc l)))),(1,(.pv (.fn 162))),(7,(Zc (↑(List.length (List.map enc l)):Int))),(8,(Zc 0))] []):Ze TY 0 (Za DC G) Gd [] (Yn 19 [enc l,.fn 162]):=Ze.tp (.nil) h (by kernel_rfl)
theorem c8m{G:PV->Prop}(l:List Fact)(i:Int)(h:if (decide (i<(↑(List.length l):Int)))=true then Vt l i 3∧(Xc l i fun y0:Fact=>(Go.Pl.preT (fun(x:Fact×Unit)=>Z0 x.1.l) [(.agg [(.bool (PV.asBool (Yp y0))),(.int .i64 (PV.asInt (X9 y0))),(.sl 2 false (PV.asXs (List.getD (PV.cells (enc y0)) (0+1+1) default)))])])=true∧(Yk (fun(x:Fact×Unit)=> !Zh x.1.l) [(.agg [(.bool (PV.asBool (Yp y0))),(.int .i64 (PV.asInt (X9 y0))),(.sl 2 false (PV.asXs (List.getD (PV.cells (enc y0)) (0+1+1) default)))])] fun y1:Bool=>if (y1)=true then G ((.int .i64 i))else(At TY 0 (Za DC G) Gd 0 19 [(0,(.pv (.sl 3 false (List.map enc l)))),(1,(.pv (.fn 162))),(7,(Zc (↑(List.length l):Int))),(8,(Zc (IntKind.wrap IntKind.i64 (i+1))))] [])))else(G ((.int .i64 (-1))))):At TY 0 (Za DC G) Gd 0 19 [(0,.pv (enc l)),(1,.pv (.fn 162)),(7,.pv (.int .i64 l.length)),(8,.pv (.int .i64 i))] []:=At.tp (.lit (.ask (.req (Xa (Fact) (.lit (.req (Yj (Bool) (.ask (.nil) (.lit (.nil)))))))) (.nil))) h (by kernel_rfl)
noncomputable def Od:IC:=Wn Proofs.Tryz.f161
def a7f:List IRes:=[(.tmp 4)]
abbrev d9g:Nat:=9
def c4o:ZU:=Xe [(227,.pure (preT (fun x:List Fact×FnV 162×Unit=>Zl x.1)) (Zw (fun x:List Fact×FnV 162×Unit=>ZL (fun f:Fact=> !(Zh f.l)) x.1)))]
theorem e0w{G:PV->Prop}(l:List Fact)(h:(Go.Pl.preT (fun(x:List Fact×FnV 162×Unit)=>Zl x.1) [(.sl 3 false (List.map enc l)),(.fn 162)])=true∧(Yk (fun(x:List Fact×FnV 162×Unit)=>ZL (fun(f:Fact)=> !Zh f.l) x.1) [(.sl 3 false (List.map enc l)),(.fn 162)] fun y0:Int=>G ((.bool (decide (y0 ≥ 0)))))):Ze c4o 0 (Za a7f G) Od [] (Yn 9 [enc l,.fn 162]):=Ze.tp (.req (Yj (Int) (.lit (.nil)))) h (by kernel_rfl)
noncomputable def Ac:IC:=Wn Proofs.Tryz.f95
def BC:List IRes:=[(.tmp 2)]
abbrev b5j:Nat:=6
def RD:ZU:=Xe [(161,.pure (preT (fun x:List Fact×FnV 162×Unit=>Zl x.1)) (Zw (fun x:List Fact×FnV 162×Unit=>x.1.any fun f:Fact=> !(Zh f.l))))]
theorem b8p{G:PV->Prop}(l:List Fact)(h:(Go.Pl.preT (fun(x:List Fact×FnV 162×Unit)=>Zl x.1) [(.sl 3 false (List.map enc l)),(.fn 162)])=true∧(Yk (fun(x:List Fact×FnV 162×Unit)=>List.any x.1 fun(f:Fact)=> !Zh f.l) [(.sl 3 false (List.map enc l)),(.fn 162)] fun y0:Bool=>G ((.bool !y0)))):Ze RD 0 (Za BC G) Ac [] (Yn 6 [enc l]):=Ze.tp (.req (Yj (Bool) (.nil))) h (by kernel_rfl)
noncomputable def a4e:IC:=Wn Proofs.Tryz.f110
def a3o:List IRes:=[(.tmp 3)]
abbrev d8a:Nat:=9
def c3b:ZU:=Xe []
theorem e1y{G:AV×List AObj×List AObj->Prop}(x:Coef)(v:List UInt8)(c:Int)(h:G (((.pv (.bool (Str.s x.v==v))),([(.box [(.pv (.str v)),(Zc c)])],[])))):Ze c3b 1 (Zq 1 a3o G) a4e [] (Y5 9 [.pv (enc x),.ptr 0 0] [.box [.pv (.str v),.pv (.int .i64 c)]]):=Ze.to (.lit (.nil)) h (by kernel_rfl)
noncomputable def Hz:IC:=Wn Proofs.Tryz.f109
def DW:List IRes:=[(.tmp 4)]
abbrev d9x:Nat:=19
def TT:ZU:=Xe [(110,.own RY Og)]
theorem e2e{G:AV×List AObj×List AObj->Prop}(l:List Coef)(v:List UInt8)(c:Int)(h:At TT 1 (Zq 1 DW G) Hz 0 19 [(0,(ZM l)),(1,(.fn 110 [] [(.ptr 0 0)])),(7,(Zc (↑(List.length (List.map enc l)):Int))),(8,(Zc 0))] [(.obj (.box [(.pv (.str v)),(Zc c)]))]):Ze TT 1 (Zq 1 DW G) Hz [] (Y5 19 [.pv (enc l),.fn 110 [] [.ptr 0 0]] [.box [.pv (.str v),.pv (.int .i64 c)]]):=Ze.to (.nil) h (by kernel_rfl)
theorem b8j{G:AV×List AObj×List AObj->Prop}(l:List Coef)(v:List UInt8)(c:Int)(i:Int)(h:if (decide (i<(↑(List.length l):Int)))=true then Vt l i 2∧(Xc l i fun y0:Coef=>(RY [(.pv (.agg [(.str (PV.asStr (Yp y0))),(.int .i64 (PV.asInt (X9 y0)))])),(.ptr 0 0)] [(.box [(.pv (.str v)),(Zc c)])])=true∧(if (Str.s (Coef.v (dec (PV.agg (UA (PV.cells (enc y0)) 0 [Sh.str,Sh.int .i64]))))==v)=true then G (((Zc i),([(.box [(.pv (.str v)),(Zc c)])],[])))else(At TT 1 (Zq 1 DW G) Hz 0 19 [(0,(ZM l)),(1,(.fn 110 [] [(.ptr 0 0)])),(7,(Zc (↑(List.length l):Int))),(8,(Zc (IntKind.wrap IntKind.i64 (i+1))))] [(.obj (.box [(.pv (.str v)),(Zc c)]))])))else(G (((Zc (-1)),([(.box [(.pv (.str v)),(Zc c)])],[]))))):At TT 1 (Zq 1 DW G) Hz 0 19 [(0,.pv (enc l)),(1,.fn 110 [] [.ptr 0 0]),(7,.pv (.int .i64 l.length)),(8,.pv (.int .i64 i))] [.obj (.box [.pv (.str v),.pv (.int .i64 c)])]:=At.to (.lit (.ask (.req (Xa (Coef) (.lit (.req (.keep (.ask (.nil) (.lit (.nil)))))))) (.nil))) h (by kernel_rfl)
noncomputable def Hy:IC:=Wn Proofs.Tryz.f38
def Gi:List IRes:=[(.tmp 4),(.tmp 5)]
abbrev d6y:Nat:=51
def Sg:ZU:=Xe [(73,.pure (preT (fun x:Lin×Unit=>Z0 x.1)) (Zw (fun x:Lin×Unit=>Zh x.1))),(109,.own (JS 110) Sy)]
theorem e0x{G:PV->Prop}(l:Lin)(v:List Coef)(h:(Go.Pl.preT (fun(x:Lin×Unit)=>Z0 x.1) [(.agg [(.int .i64 l.k),(.sl 2 false (List.map enc l.t))])])=true∧(Yk (fun(x:Lin×Unit)=>Zh x.1) [(.agg [(.int .i64 l.k),(.sl 2 false (List.map enc l.t))])] fun y0:Bool=>if (!y0)=true then G ((.tup [(.int .i64 0),(.int .i64 1)]))else(At Sg 0 (Za Gi G) Hy 0 51 [(1,(ZM v)),(6,(Zc l.k)),(17,(ZM l.t)),(18,(Zc (↑(List.length (List.map enc l.t)):Int))),(19,(Zc 0))] []))):Ze Sg 0 (Za Gi G) Hy [] (Yn 51 [enc l,enc v]):=Ze.tp (.req (Yj (Bool) (.ask (.nil) (.nil)))) h (by kernel_rfl)
theorem c3f{G:PV->Prop}(l:Lin)(v:List Coef)(n i:Int)(h:if (decide (i<(↑(List.length l.t):Int)))=true then(decide (0<=i)&&decide (Int.toNat i<List.length (List.map enc l.t))&&Enc.sz Coef==2)=true∧(Xc l.t i fun y0:Coef=>(JS 110 [(ZM v),(.fn 110 [] [(.ptr 0 0)])] [(.box [(.pv (.str (PV.asStr (Yp y0)))),(Zc (PV.asInt (X9 y0)))])])=true∧(if (decide (ZL (fun(t:Coef)=>Str.s t.v==PV.asStr (Yp y0)) (dec (enc v))<0))=true then G ((.tup [(.int .i64 0),(.int .i64 7)]))else((decide (0<=ZL (fun(t:Coef)=>Str.s t.v==PV.asStr (Yp y0)) (dec (enc v)))&&decide (Int.toNat (ZL (fun(t:Coef)=>Str.s t.v==PV.asStr (Yp y0)) (dec (enc v)))<List.length (List.map enc v))&&Enc.sz Coef==2)=true∧(Xc v (ZL (fun(t:Coef)=>Str.s t.v==PV.asStr (Yp y0)) (dec (enc v))) fun y1:Coef=>if (decide (PV.asInt (WY y1)<(-1000000000:Int)))=true then G ((.tup [(.int .i64 0),(.int .i64 2)]))else(if (decide (PV.asInt (WY y1)>1000000000))=true then G ((.tup [(.int .i64 0),(.int .i64 2)]))else((decide (0<=ZL (fun(t:Coef)=>Str.s t.v==PV.asStr (Yp y0)) (dec (enc v)))&&decide (Int.toNat (ZL (fun(t:Coef)=>Str.s t.v==PV.asStr (Yp y0)) (dec (enc v)))<List.length (List.map enc v))&&Enc.sz Coef==2)=true∧(Xc v (ZL (fun(t:Coef)=>Str.s t.v==PV.asStr (Yp y0)) (dec (enc v))) fun y2:Coef=>At Sg 0 (Za Gi G) Hy 0 51 [(1,(ZM v)),(6,(Zc (IntKind.wrap IntKind.i64 (n+IntKind.wrap IntKind.i64 (PV.asInt (X9 y0)*PV.asInt (WY y2)))))),(17,(ZM l.t)),(18,(Zc (↑(List.length l.t):Int))),(19,(Zc (IntKind.wrap IntKind.i64 (i+1))))] [])))))))else(G ((.tup [(.int .i64 n),(.int .i64 0)])))):At Sg 0 (Za Gi G) Hy 0 51 [(1,.pv (enc v)),(6,.pv (.int .i64 n)),(17,.pv (enc l.t)),(18,.pv (.int .i64 l.t.length)),(19,.pv (.int .i64 i))] []:=At.tp (.lit (.ask (.req (Xa (Coef) (.lit (.req (.keep (.lit (.ask (.nil) (.req (Xa (Coef) (ZK 2 (.ask (Yo 3) (ZK 3 (.ask (.nil) (.req (Xa (Coef) (Yo 4)))))))))))))))) (.nil))) h (by kernel_rfl)
noncomputable def c2m:IC:=Wn Proofs.Tryz.f239
def c6c:List IRes:=[(.tmp 3)]
abbrev e1w:Nat:=27
def d7l:ZU:=Xe [(38,.pure (preT (fun x:Lin×List Coef×Unit=>Z0 x.1&&decide (x.2.1.length<=9223372036854775807))) (Zw (fun x:Lin×List Coef×Unit=>ZZ x.1 x.2.1)))]
theorem e3j{G:AV×List AObj×List AObj->Prop}(f:Fact)(v:List Coef)(h:(Go.Pl.preT (fun(x:Lin×List Coef×Unit)=>Z0 x.1&&decide (List.length x.2.1<=9223372036854775807)) [(.agg [(.int .i64 (Lin.k f.l)),(.sl 2 false (List.map enc (Lin.t f.l)))]),(.sl 2 false (List.map enc v))])=true∧(Yk (fun(x:Lin×List Coef×Unit)=>ZZ x.1 x.2.1) [(.agg [(.int .i64 (Lin.k f.l)),(.sl 2 false (List.map enc (Lin.t f.l)))]),(.sl 2 false (List.map enc v))] fun y0:Int×Int=>if (y0.2 != 0)=true then G (((.pv (.bool true)),([(.box [(ZM v)])],[])))else(if (decide (y0.1<0))=true then G (((.pv (.bool true)),([(.box [(ZM v)])],[])))else(if f.eq=true then G (((.pv (.bool (y0.1 != 0))),([(.box [(ZM v)])],[])))else(G (((.pv (.bool false)),([(.box [(ZM v)])],[])))))))):Ze d7l 1 (Zq 1 c6c G) c2m [] (Y5 27 [.pv (enc f),.ptr 0 0] [.box [.pv (enc v)]]):=Ze.to (.req (Yj (Int×Int) (.lit (.ask (Yo 7) (ZK 3 (.ask (Yo 4) (ZK 2 (.ask (Yo 5) (Yo 4))))))))) h (by kernel_rfl)
noncomputable def Du:IC:=Gd
def Dp:List IRes:=[(.tmp 4)]
abbrev d9v:Nat:=19
def RI:ZU:=Xe [(239,.own Cm Ab)]
theorem e1i{G:AV×List AObj×List AObj->Prop}(l:List Fact)(v:List Coef)(h:At RI 1 (Zq 1 Dp G) Du 0 19 [(0,(.pv (.sl 3 false (List.map enc l)))),(1,(.fn 239 [] [(.ptr 0 0)])),(7,(Zc (↑(List.length (List.map enc l)):Int))),(8,(Zc 0))] [(.obj (.box [(ZM v)]))]):Ze RI 1 (Zq 1 Dp G) Du [] (Y5 19 [.pv (enc l),.fn 239 [] [.ptr 0 0]] [.box [.pv (enc v)]]):=Ze.to (.nil) h (by kernel_rfl)
theorem c4p{G:AV×List AObj×List AObj->Prop}(l:List Fact)(v:List Coef)(i:Int)(h:if (decide (i<(↑(List.length l):Int)))=true then Vt l i 3∧(Xc l i fun y0:Fact=>(Cm [(.pv (.agg [(.bool (PV.asBool (Yp y0))),(.int .i64 (PV.asInt (X9 y0))),(.sl 2 false (PV.asXs (List.getD (PV.cells (enc y0)) (0+1+1) default)))])),(.ptr 0 0)] [(.box [(ZM v)])])=true∧(if (!Yx (dec (PV.agg (UA (PV.cells (enc y0)) 0 [Sh.bool,Sh.int .i64,Sh.sl 2]))) (dec (enc v)))=true then G (((Zc i),([(.box [(ZM v)])],[])))else(At RI 1 (Zq 1 Dp G) Du 0 19 [(0,(.pv (.sl 3 false (List.map enc l)))),(1,(.fn 239 [] [(.ptr 0 0)])),(7,(Zc (↑(List.length l):Int))),(8,(Zc (IntKind.wrap IntKind.i64 (i+1))))] [(.obj (.box [(ZM v)]))])))else(G (((Zc (-1)),([(.box [(ZM v)])],[]))))):At RI 1 (Zq 1 Dp G) Du 0 19 [(0,.pv (enc l)),(1,.fn 239 [] [.ptr 0 0]),(7,.pv (.int .i64 l.length)),(8,.pv (.int .i64 i))] [.obj (.box [.pv (enc v)])]:=At.to (.lit (.ask (.req (Xa (Fact) (.lit (.req (.keep (.ask (.nil) (.lit (.nil)))))))) (.nil))) h (by kernel_rfl)
noncomputable def a6x:IC:=Od
def a5f:List IRes:=[(.tmp 4)]
abbrev d6o:Nat:=9
def b9y:ZU:=Xe [(227,.own (VP 239) Tf)]
theorem e0k{G:AV×List AObj×List AObj->Prop}(l:List Fact)(v:List Coef)(h:(VP 239 [(.pv (.sl 3 false (List.map enc l))),(.fn 239 [] [(.ptr 0 0)])] [(.box [(ZM v)])])=true∧(G (((.pv (.bool (decide (ZL (fun(f:Fact)=> !Yx f (dec (enc v))) (dec (enc l)) ≥ 0)))),([(.box [(ZM v)])],[]))))):Ze b9y 1 (Zq 1 a5f G) a6x [] (Y5 9 [.pv (enc l),.fn 239 [] [.ptr 0 0]] [.box [.pv (enc v)]]):=Ze.to (.req (.keep (.lit (.nil)))) h (by kernel_rfl)
noncomputable def Aw:IC:=Wn Proofs.Tryz.f178
def BI:List IRes:=[(.tmp 4)]
abbrev b2z:Nat:=9
def Py:ZU:=Xe [(161,.own (VP 239) Td)]
theorem c5t{G:PV->Prop}(l:List Fact)(v:List Coef)(h:(VP 239 [(.pv (.sl 3 false (List.map enc l))),(.fn 239 [] [(.ptr 0 0)])] [(.box [(ZM v)])])=true∧(G ((.bool (!List.any (dec (enc l)) fun(f:Fact)=> !Yx f (dec (enc v))))))):Ze Py 0 (Za BI G) Aw [] (Yn 9 [enc l,enc v]):=Ze.tp (.req (.keep (.nil))) h (by kernel_rfl)
end Go.Pl
namespace Go.Pl
open Go.RowKit
open Enc (enc dec is)
open EncL (encL decL isL)
theorem d1k: ∀ a:Fact×Unit,Z0 a.1.l=true->Ze c3z 0 (Za a8b (Zi (!(Zh a.1.l)))) a5k [] (Yn d9y (encL a)):=by
 rintro⟨f,⟨⟩⟩ h
 exact e1g f ⟨Zk (f.l,()) rfl h,Zg (f.l,()) rfl (ZW rfl)⟩
theorem Sd{l:List Fact}(h:Zl l=true):l.length<=9223372036854775807∧ ∀ f∈l,Z0 f.l=true:=by
 simp only[Zl,Bool.and_eq_true,decide_eq_true_eq,List.all_eq_true]at h
 exact h
theorem c0m(l:List Fact)(h:Zl l=true): ∀ (m i:Nat),m+i=l.length->(∀ j (hj:j<l.length),j<i->(!(Zh l[j].l))=false) ->
  At TY 0 (Za DC (Zi (ZL (fun f:Fact=> !(Zh f.l)) l))) Gd 0 19 [(0,.pv (enc l)),(1,.pv (.fn 162)),(7,.pv (.int .i64 l.length)),(8,.pv (.int .i64 i))] []:=by
 obtain⟨hl,hs⟩:=Sd h
 intro m
 induction m with
 | zero=>
  intro i hi hno
  refine c8m l i (ZG (Yt (by omega)) (Ut ?_))
  rw[KG _ _ (fun j hj=>hno j hj (by omega))]
 | succ m ih=>
  intro i hi hno
  have hlt:i<l.length:=by omega
  refine c8m l i (ZA (Yi hlt) ⟨Zn hlt rfl,Zu hlt ⟨Zk (l[i],()) rfl (hs _ (List.getElem_mem hlt)),Zg (l[i],()) rfl (WP (fun hb=> ?_) fun hb=> ?_)⟩⟩)
  ·exact Ut (Kz (fun f:Fact=> !(Zh f.l)) l i hlt hno hb).symm
  ·rw[next (by omega)]
   refine ih (i+1) (by omega) fun j hj hji=> ?_
   by_cases e:j=i
   ·subst e;exact hb
   ·exact hno j hj (by omega)
theorem d3g: ∀ a:List Fact×FnV 162×Unit,Zl a.1=true->Ze TY 0 (Za DC (Zi (ZL (fun f:Fact=> !(Zh f.l)) a.1))) Gd [] (Yn d6g (encL a)):=by
 rintro⟨l,g,⟨⟩⟩ h
 refine e1r l ?_
 rw[List.length_map]
 exact c0m l h l.length 0 (by omega) (fun j hj h=>by omega)
theorem d0q: ∀ a:List Fact×FnV 162×Unit,Zl a.1=true->Ze c4o 0 (Za a7f (Zi (a.1.any fun f:Fact=> !(Zh f.l)))) Od [] (Yn d9g (encL a)):=by
 rintro⟨l,g,⟨⟩⟩ h
 exact e0w l ⟨Zk (l,{},()) rfl h,Zg (l,{},()) rfl (ZW (WE _ _))⟩
theorem b0t(l:List Fact)(p:Fact->Bool):(!(l.any fun f=> !(p f)))=l.all p:=by
 induction l with
 | nil=>rfl
 | cons x l ih=>simp only[List.any_cons,List.all_cons,Bool.not_or,Bool.not_not,ih]
theorem a5b: ∀ a:List Fact×Unit,Zl a.1=true->Ze RD 0 (Za BC (Zi (YU a.1))) Ac [] (Yn b5j (encL a)):=by
 rintro⟨l,⟨⟩⟩ h
 exact b8p l ⟨Zk (l,{},()) rfl h,Zg (l,{},()) rfl (ZW (b0t l _))⟩
theorem d0j: ∀ args os,RY args os=true->Ze c3b os.length (Zq os.length a3o fun r=>r=Og args os) a4e [] (Y5 d8a args os):=by
 intro args os h
 unfold RY at h
 split at h
 ·rename_i x v c
  obtain⟨x,rfl⟩:=YG h
  exact e1y x v c (by simp only[Og,Enc.dec_enc])
 ·cases h
theorem c4b(l:List Coef)(v:List UInt8)(c:Int)(hl:l.length<=9223372036854775807)(H:AV×List AObj×List AObj)(hH:H=(.pv (.int .i64 (ZL (fun t:Coef=>t.v.s==v) l)),[.box [.pv (.str v),.pv (.int .i64 c)]],[])): ∀ (m i:Nat),m+i=l.length->(∀ j (hj:j<l.length),j<i->(l[j].v.s==v)=false) ->
  At TT 1 (Zq 1 DW fun r=>r=H) Hz 0 19 [(0,.pv (enc l)),(1,.fn 110 [] [.ptr 0 0]),(7,.pv (.int .i64 l.length)),(8,.pv (.int .i64 i))] [.obj (.box [.pv (.str v),.pv (.int .i64 c)])]:=by
 subst hH
 intro m
 induction m with
 | zero=>
  intro i hi hno
  refine b8j l v c i (ZG (Yt (by omega)) ?_)
  rw[KG _ _ (fun j hj=>hno j hj (by omega))]
 | succ m ih=>
  intro i hi hno
  have hlt:i<l.length:=by omega
  refine b8j l v c i (ZA (Yi hlt) ⟨Zn hlt rfl,Zu hlt ⟨ZR l[i],WP (fun hb=> ?_) fun hb=> ?_⟩⟩)
  ·rw[Kz (fun t:Coef=>t.v.s==v) l i hlt hno hb]
  ·rw[next (by omega)]
   refine ih (i+1) (by omega) fun j hj hji=> ?_
   by_cases e:j=i
   ·subst e;exact hb
   ·exact hno j hj (by omega)
theorem d3o: ∀ args os,JS 110 args os=true->Ze TT os.length (Zq os.length DW fun r=>r=Sy args os) Hz [] (Y5 d9x args os):=by
 intro args os h
 unfold JS at h
 split at h
 ·rename_i l g v c
  simp only[Bool.and_eq_true,beq_iff_eq,decide_eq_true_eq]at h
  obtain⟨⟨rfl,hl⟩,h2⟩:=h
  obtain⟨l,rfl⟩:=YG hl
  rw[Enc.dec_enc]at h2
  refine e2e l v c ?_
  rw[List.length_map]
  exact c4b l v c h2 _ (by simp only[Sy,Enc.dec_enc]) l.length 0 (by omega) (fun j hj h=>by omega)
 ·cases h
theorem F8(v:List Coef)(s:Str):(ZL (fun t:Coef=>t.v.s==s.s) v<0∧Wj v s=none) ∨ ∃ (i:Nat) (hi:i<v.length),ZL (fun t:Coef=>t.v.s==s.s) v=i∧Wj v s=some v[i].c:=by
 unfold ZL Wj
 have hp:(fun t:Coef=>decide (t.v=s))=fun t:Coef=>t.v.s==s.s:=by
  funext t
  by_cases h:t.v=s
  ·simp[h]
  ·have : ¬ t.v.s=s.s:=fun e=>h (by cases hv:t.v;cases s;rw[hv]at e;cases e;rfl)
   simp[h,this]
 rw[hp]
 cases h:v.findIdx? (fun t:Coef=>t.v.s==s.s)with
 | none=>
  left
  refine⟨by show(-1:Int)<0;omega,?_⟩
  rw[List.findIdx?_eq_none_iff]at h
  have:v.find? (fun t:Coef=>t.v.s==s.s)=none:=List.find?_eq_none.2 fun x hx=>by simp[h x hx]
  rw[this];rfl
 | some i=>
  right
  have h':=h
  rw[List.findIdx?_eq_some_iff_getElem]at h
  obtain⟨hi,h1,h2⟩:=h
  refine⟨i,hi,rfl,?_⟩
  have:v.find? (fun t:Coef=>t.v.s==s.s)=some v[i]:=by
   rw[List.find?_eq_some_iff_getElem]
   exact⟨h1,i,hi,rfl,fun j hj=>by simpa using h2 j hj⟩
  rw[this];rfl
theorem c0l(l:Lin)(v:List Coef)(hl:l.t.length<=9223372036854775807)(hv:v.length<=9223372036854775807): ∀ (m i:Nat) (n:Int),m+i=l.t.length ->
  At Sg 0 (Za Gi (Zi (UF v n (l.t.drop i)))) Hy 0 51 [(1,.pv (enc v)),(6,.pv (.int .i64 n)),(17,.pv (enc l.t)),(18,.pv (.int .i64 l.t.length)),(19,.pv (.int .i64 i))] []:=by
 intro m
 induction m with
 | zero=>
  intro i n hi
  refine c3f l v n i (ZG (Yt (by omega)) ?_)
  rw[List.drop_of_length_le (show l.t.length<=i by omega)]
  exact⟨rfl,rfl⟩
 | succ m ih=>
  intro i n hi
  have hlt:i<l.t.length:=by omega
  refine c3f l v n i (ZA (Yi hlt) ⟨Zn hlt rfl,Zu hlt ?_⟩)
  rw[List.drop_eq_getElem_cons hlt,UF,next (by omega)]
  have e0:PV.asStr (List.getD (PV.cells (enc l.t[i])) 0 default)=l.t[i].v.s:=rfl
  simp only[e0,Enc.dec_enc]
  refine⟨by show JS _ [.pv (enc v),_] _=true;simp[JS,hv],?_⟩
  rcases F8 v l.t[i].v with ⟨h1,h2⟩|⟨k,hk,h1,h2⟩
  ·rw[h2]
   exact ZA (by simpa using h1) ⟨rfl,rfl⟩
  ·rw[h2]
   simp only[h1]
   refine ZG (by simp) ⟨Zn hk rfl,Zu hk ?_⟩
   refine XJ (fun h3=> ?_) fun h3=>XJ (fun h4=> ?_) fun h4=>⟨Zn hk rfl,Zu hk ?_⟩
   ·have h3:v[k].c < -1000000000:=h3
    rw[if_pos h3];exact⟨rfl,rfl⟩
   ·have h3 : ¬ v[k].c < -1000000000:=h3
    have h4:v[k].c>1000000000:=h4
    rw[if_neg h3,if_pos h4];exact⟨rfl,rfl⟩
   ·have h3 : ¬ v[k].c < -1000000000:=h3
    have h4 : ¬ v[k].c>1000000000:=h4
    rw[if_neg h3,if_neg h4]
    exact ih (i+1) _ (by omega)
theorem d3h: ∀ a:Lin×List Coef×Unit,(Z0 a.1&&decide (a.2.1.length<=9223372036854775807))=true->Ze Sg 0 (Za Gi (Zi (ZZ a.1 a.2.1))) Hy [] (Yn d6y (encL a)):=by
 rintro⟨l,v,⟨⟩⟩ h
 simp only[Bool.and_eq_true,decide_eq_true_eq]at h
 have hl:l.t.length<=9223372036854775807:=by
  have:=h.1
  simp only[Z0,Z9,Bool.and_eq_true,decide_eq_true_eq]at this
  exact this.1
 refine e0x l v ⟨Zk (l,()) rfl h.1,Zg (l,()) rfl ?_⟩
 show if (!Zh l)=true then Zi (ZZ l v) _ else At Sg 0 (Za Gi (Zi (ZZ l v))) Hy 0 51 _ _
 unfold ZZ
 refine Xt (fun hv=> ?_) fun hv=> ?_
 ·rw[if_neg (by rw[hv];simp)]
  exact⟨rfl,rfl⟩
 ·rw[if_pos hv,List.length_map]
  exact c0l l v hl h.2 l.t.length 0 l.k (by omega)
theorem d5z: ∀ args os,Cm args os=true->Ze d7l os.length (Zq os.length c6c fun r=>r=Ab args os) c2m [] (Y5 e1w args os):=by
 intro args os h
 unfold Cm at h
 split at h
 ·rename_i f v
  simp only[Bool.and_eq_true,decide_eq_true_eq]at h
  obtain⟨⟨⟨hf,hv⟩,h1⟩,h2⟩:=h
  obtain⟨f,rfl⟩:=YG hf
  obtain⟨v,rfl⟩:=YG hv
  rw[Enc.dec_enc]at h1 h2
  refine e3j f v ⟨Zk (f.l,v,()) rfl (by simp only[h1,Bool.true_and];exact decide_eq_true h2),Zg (f.l,v,()) rfl ?_⟩
  show if ((ZZ f.l v).2 != 0)=true then(_:AV×List AObj×List AObj)=Ab _ _ else _
  have hval:Ab [.pv (enc f),.ptr 0 0] [.box [.pv (enc v)]]=(.pv (.bool (!Yx f v)),[.box [.pv (enc v)]],[]):=by simp only[Ab,Enc.dec_enc]
  rw[hval]
  unfold Yx
  by_cases a1:(ZZ f.l v).2=0
  ·refine ZG (by simp[a1]) (XJ (fun a2=> ?_) fun a2=>WP (fun a3=> ?_) fun a3=> ?_)
   ·have a2:(ZZ f.l v).1<0:=a2
    simp[a2];rfl
   ·have a2 : ¬ (ZZ f.l v).1<0:=a2
    rw[decide_eq_true a1,decide_eq_false a2,a3]
    simp only[Bool.not_false,Bool.true_and,Bool.not_true,Bool.false_or]
    rfl
   ·have a2 : ¬ (ZZ f.l v).1<0:=a2
    rw[decide_eq_true a1,decide_eq_false a2,a3]
    rfl
  ·refine ZA (by simpa using a1) ?_
   rw[decide_eq_false a1]
   rfl
 ·cases h
theorem b9v(l:List Fact)(v:List Coef)(hl:Zl l=true)(hv:v.length<=9223372036854775807)(H:AV×List AObj×List AObj)(hH:H=(.pv (.int .i64 (ZL (fun f=> !Yx f v) l)),[.box [.pv (enc v)]],[])): ∀ (m i:Nat),m+i=l.length->(∀ j (hj:j<l.length),j<i->(!Yx l[j] v)=false) ->
  At RI 1 (Zq 1 Dp fun r=>r=H) Du 0 19 [(0,.pv (enc l)),(1,.fn 239 [] [.ptr 0 0]),(7,.pv (.int .i64 l.length)),(8,.pv (.int .i64 i))] [.obj (.box [.pv (enc v)])]:=by
 subst hH
 obtain⟨hl,hs⟩:=Sd hl
 intro m
 induction m with
 | zero=>
  intro i hi hno
  refine c4p l v i (ZG (Yt (by omega)) ?_)
  rw[KG _ _ (fun j hj=>hno j hj (by omega))]
  rfl
 | succ m ih=>
  intro i hi hno
  have hlt:i<l.length:=by omega
  have hsi:=hs _ (List.getElem_mem hlt)
  refine c4p l v i (ZA (Yi hlt) ⟨Zn hlt rfl,Zu hlt ⟨?_,?_⟩⟩)
  ·show Cm [.pv (enc l[i]),.ptr 0 0] [.box [.pv (enc v)]]=true
   simp[Cm,hsi,hv]
  ·have e:Yx (dec (enc l[i]:PV)) (dec (enc v:PV))=Yx l[i] v:=by rw[Enc.dec_enc,Enc.dec_enc]
   show if (!Yx (dec (enc l[i]:PV)) (dec (enc v:PV)))=true then _ else _
   rw[e]
   refine WP (fun hb=> ?_) fun hb=> ?_
   ·rw[Kz (fun f=> !Yx f v) l i hlt hno hb]
    rfl
   ·rw[next (by omega)]
    refine ih (i+1) (by omega) fun j hj hji=> ?_
    by_cases e:j=i
    ·subst e;exact hb
    ·exact hno j hj (by omega)
theorem d4f: ∀ args os,VP 239 args os=true->Ze RI os.length (Zq os.length Dp fun r=>r=Tf args os) Du [] (Y5 d9v args os):=by
 intro args os h
 unfold VP at h
 split at h
 ·rename_i l g v
  simp only[Bool.and_eq_true,beq_iff_eq,decide_eq_true_eq]at h
  obtain⟨⟨⟨⟨rfl,hl⟩,hv⟩,h1⟩,h2⟩:=h
  obtain⟨l,rfl⟩:=YG hl
  obtain⟨v,rfl⟩:=YG hv
  rw[Enc.dec_enc]at h1 h2
  refine e1i l v ?_
  rw[List.length_map]
  exact b9v l v h1 h2 _ (by simp only[Tf,Enc.dec_enc]) l.length 0 (by omega) (fun j hj h=>by omega)
 ·cases h
theorem d4i: ∀ args os,VP 239 args os=true->Ze b9y os.length (Zq os.length a5f fun r=>r=Td args os) a6x [] (Y5 d6o args os):=by
 intro args os h
 have h':=h
 unfold VP at h
 split at h
 ·rename_i l g v
  simp only[Bool.and_eq_true,beq_iff_eq,decide_eq_true_eq]at h
  obtain⟨⟨⟨⟨rfl,hl⟩,hv⟩,h1⟩,h2⟩:=h
  obtain⟨l,rfl⟩:=YG hl
  obtain⟨v,rfl⟩:=YG hv
  refine e0k l v ⟨h',?_⟩
  simp only[Td,Enc.dec_enc,WE]
  rfl
 ·cases h
theorem a5v: ∀ a:List Fact×List Coef×Unit,(Zl a.1&&decide (a.2.1.length<=9223372036854775807))=true->Ze Py 0 (Za BI (Zi (a.1.all fun f=>Yx f a.2.1))) Aw [] (Yn b2z (encL a)):=by
 rintro⟨l,v,⟨⟩⟩ h
 refine c5t l v ⟨?_,?_⟩
 ·show VP _ [.pv (enc l),_] [.box [.pv (enc v)]]=true
  simpa [VP]using h
 ·rw[Enc.dec_enc,Enc.dec_enc]
  exact ZW (b0t l _)
end Go.Pl
namespace Go.Pl
open Go.RowKit
open Enc (enc dec is)
open EncL (encL decL isL)
set_option maxRecDepth 100000
end Go.Pl
namespace Go.Pl
open Go.RowKit
open Enc (enc dec is)
open EncL (encL decL isL)
end Go.Pl
namespace Go.Pl
open Go.RowKit
open Enc (enc dec is)
open EncL (encL decL isL)
mutual
def a5n:Cert->Int->Bool
 | .mk _ m l ks,n=> !decide ((m.length:Int)>60)&&(JK l 8&&(!decide (n<1)&&(!decide ((ks.length:Int)>n)&&SS ks n)))
def SS:List Cert->Int->Bool
 | [],_=>true
 | c::cs,n=>a5n c (XI (n - 1))&&SS cs (XI (n - R7 c))
end
end Go.Pl
namespace Go.Pl
open Go.RowKit
open Enc (enc dec is)
open EncL (encL decL isL)
set_option maxRecDepth 100000
noncomputable def Ka:IC:=Wn Proofs.Tryz.f35
def QW:List IRes:=[(.tmp 2)]
abbrev c5g:Nat:=17
def JM:ZU:=Xe [(20,.pure (preT (fun x:Lin×Unit=>Z9 x.1)) (Zw (fun x:Lin×Unit=>Zh x.1)))]
theorem d3d{G:PV->Prop}(l:List Fact)(h:At JM 0 (Za QW G) Ka 0 17 [(0,(.pv (.sl 3 false (List.map enc l)))),(3,(Zc 0))] []):Ze JM 0 (Za QW G) Ka [] (Yn 17 [enc l]):=Ze.tp (.nil) h (by kernel_rfl)
theorem a1a{G:PV->Prop}(l:List Fact)(i:Int)(h:if (Rx l i)=true then Vt l i 3∧(Xc l i fun y0:Fact=>(Go.Pl.preT (fun(x:Lin×Unit)=>Z9 x.1) [(.agg [(.int .i64 (PV.asInt (WY y0))),(.sl 2 false (PV.asXs (List.getD (List.drop 1 (PV.cells (enc y0))) (0+1) default)))])])=true∧(Yk (fun(x:Lin×Unit)=>Zh x.1) [(.agg [(.int .i64 (PV.asInt (WY y0))),(.sl 2 false (PV.asXs (List.getD (List.drop 1 (PV.cells (enc y0))) (0+1) default)))])] fun y1:Bool=>if (!y1)=true then G ((.bool false))else(At JM 0 (Za QW G) Ka 0 17 [(0,(.pv (.sl 3 false (List.map enc l)))),(3,(Zc (IntKind.wrap IntKind.i64 (i+1))))] [])))else(G ((.bool true)))):At JM 0 (Za QW G) Ka 0 17 [(0,.pv (enc l)),(3,.pv (.int .i64 i))] []:=At.tp (.lit (.ask (.req (Xa (Fact) (.lit (.req (Yj (Bool) (.ask (.nil) (.lit (.nil)))))))) (.nil))) h (by kernel_rfl)
end Go.Pl
namespace Go.Pl
open Go.RowKit
open Enc (enc dec is)
open EncL (encL decL isL)
set_option maxRecDepth 100000
noncomputable def Lr:IC:=Wn Proofs.Tryz.f155
def Lh:List IRes:=[(.tmp 2)]
abbrev d3f:Nat:=9
def a8e:ZU:=Xe []
theorem d8n{G:PV->Prop}(c:UInt8)(h:if (decide ((↑(UInt8.toNat c):Int) ≥ 48))=true then G ((.bool (decide ((↑(UInt8.toNat c):Int)<=57))))else(G ((.bool false)))):Ze a8e 0 (Za Lh G) Lr [] (Yn 9 [enc c]):=Ze.tp (.lit (.ask (Yo 3) (Yo 2))) h (by kernel_rfl)
noncomputable def Fw:IC:=Wn Proofs.Tryz.f156
def LF:List IRes:=[(.tmp 2)]
abbrev d0b:Nat:=9
def a5a:ZU:=Xe []
theorem d7p{G:PV->Prop}(c:UInt8)(h:if (decide ((↑(UInt8.toNat c):Int) ≥ 97))=true then G ((.bool (decide ((↑(UInt8.toNat c):Int)<=122))))else(G ((.bool false)))):Ze a5a 0 (Za LF G) Fw [] (Yn 9 [enc c]):=Ze.tp (.lit (.ask (Yo 3) (Yo 2))) h (by kernel_rfl)
noncomputable def GK:IC:=Wn Proofs.Tryz.f83
def Af:List IRes:=[(.tmp 2)]
abbrev b3f:Nat:=9
def Ph:ZU:=Xe []
theorem c6t{G:PV->Prop}(n:Int)(h:if (decide (n ≥ (-1000000:Int)))=true then G ((.bool (decide (n<=1000000))))else(G ((.bool false)))):Ze Ph 0 (Za Af G) GK [] (Yn 9 [enc n]):=Ze.tp (.lit (.ask (Yo 3) (Yo 2))) h (by kernel_rfl)
noncomputable def a3g:IC:=GK
def a5h:List IRes:=[(.tmp 2)]
abbrev d6s:Nat:=9
def c5w:ZU:=Xe []
theorem e2d{G:PV->Prop}(n:Int)(h:if (decide (n ≥ (-1000000:Int)))=true then G ((.bool (decide (n<=1000000))))else(G ((.bool false)))):Ze c5w 0 (Za a5h G) a3g [] (Yn 9 [enc n]):=Ze.tp (.lit (.ask (Yo 3) (Yo 2))) h (by kernel_rfl)
noncomputable def Wx:IC:=Wn Proofs.Tryz.f84
def Wv:List IRes:=[(.tmp 2)]
abbrev c8g:Nat:=62
def VK:ZU:=Xe [(155,.pure (preT (fun _:UInt8×Unit=>true)) (Zw (fun x:UInt8×Unit=>digB x.1))),(156,.pure (preT (fun _:UInt8×Unit=>true)) (Zw (fun x:UInt8×Unit=>VF x.1)))]
theorem c8t{G:PV->Prop}(s:List UInt8)(h:if ((↑(List.length s):Int)==0)=true then G ((.bool false))else(if (decide ((↑(List.length s):Int)>30))=true then G ((.bool false))else((decide (0<=0)&&decide (Int.toNat 0<List.length s))=true∧(if ((↑(UInt8.toNat (List.getD s (Int.toNat 0) (0:UInt8))):Int)==95)=true then if (decide ((↑(List.length s):Int)<2))=true then G ((.bool false))else(if (decide ((↑(List.length s):Int)>10))=true then G ((.bool false))else((decide (0<=1)&&decide (Int.toNat 1<List.length s))=true∧(if ((↑(UInt8.toNat (List.getD s (Int.toNat 1) (0:UInt8))):Int)==48)=true then G ((.bool false))else(At VK 0 (Za Wv G) Wx 0 62 [(0,(.pv (.str s))),(3,(Zc 1))] []))))else(At VK 0 (Za Wv G) Wx 1 62 [(0,(.pv (.str s))),(4,(Zc 0))] []))))):Ze VK 0 (Za Wv G) Wx [] (Yn 62 [.str s]):=Ze.tp (.lit (.ask (Yo 4) (ZK 4 (.ask (.nil) (.req (.lit (.ask (.lit (.ask (Yo 8) (ZK 4 (.ask (Yo 4) (.lit (.req (ZK 3 (.ask (.nil) (.nil))))))))) (.nil)))))))) h (by kernel_rfl)
theorem a2h{G:PV->Prop}(s:List UInt8)(i:Int)(h:if (decide (i<(↑(List.length s):Int)))=true then(decide (0<=i)&&decide (Int.toNat i<List.length s))=true∧((Go.Pl.preT (fun(x:UInt8×Unit)=>true) [(.int IntKind.u8 (↑(UInt8.toNat (List.getD s (Int.toNat i) (0:UInt8))):Int))])=true∧(Yk (fun(x:UInt8×Unit)=>digB x.1) [(.int IntKind.u8 (↑(UInt8.toNat (List.getD s (Int.toNat i) (0:UInt8))):Int))] fun y0:Bool=>if (!y0)=true then G ((.bool false))else(At VK 0 (Za Wv G) Wx 0 62 [(0,(.pv (.str s))),(3,(Zc (IntKind.wrap IntKind.i64 (i+1))))] [])))else(G ((.bool true)))):At VK 0 (Za Wv G) Wx 0 62 [(0,.pv (.str s)),(3,.pv (.int .i64 i))] []:=At.tp (.lit (.ask (.req (.req (Yj (Bool) (.ask (.nil) (.lit (.nil)))))) (.nil))) h (by kernel_rfl)
theorem Pt{G:PV->Prop}(s:List UInt8)(i:Int)(h:if (decide (i<(↑(List.length s):Int)))=true then(decide (0<=i)&&decide (Int.toNat i<List.length s))=true∧((Go.Pl.preT (fun(x:UInt8×Unit)=>true) [(.int IntKind.u8 (↑(UInt8.toNat (List.getD s (Int.toNat i) (0:UInt8))):Int))])=true∧(Yk (fun(x:UInt8×Unit)=>VF x.1) [(.int IntKind.u8 (↑(UInt8.toNat (List.getD s (Int.toNat i) (0:UInt8))):Int))] fun y0:Bool=>if (!y0)=true then if (i==0)=true then G ((.bool false))else((decide (0<=i)&&decide (Int.toNat i<List.length s))=true∧((Go.Pl.preT (fun(x:UInt8×Unit)=>true) [(.int IntKind.u8 (↑(UInt8.toNat (List.getD s (Int.toNat i) (0:UInt8))):Int))])=true∧(Yk (fun(x:UInt8×Unit)=>digB x.1) [(.int IntKind.u8 (↑(UInt8.toNat (List.getD s (Int.toNat i) (0:UInt8))):Int))] fun y1:Bool=>if (!y1)=true then G ((.bool false))else(At VK 0 (Za Wv G) Wx 1 62 [(0,(.pv (.str s))),(4,(Zc (IntKind.wrap IntKind.i64 (i+1))))] []))))else(At VK 0 (Za Wv G) Wx 1 62 [(0,(.pv (.str s))),(4,(Zc (IntKind.wrap IntKind.i64 (i+1))))] [])))else(G ((.bool true)))):At VK 0 (Za Wv G) Wx 1 62 [(0,.pv (.str s)),(4,.pv (.int .i64 i))] []:=At.tp (.lit (.ask (.req (.req (Yj (Bool) (.ask (ZK 3 (.ask (Yo 8) (ZK 2 (.req (.lit (.req (Yj (Bool) (ZK 4 (.ask (.nil) (.lit (.nil))))))))))) (Yo 6))))) (.nil))) h (by kernel_rfl)
noncomputable def Vr:IC:=Wn Proofs.Tryz.f20
def Vl:List IRes:=[(.tmp 2)]
abbrev b4a:Nat:=58
def Ux:ZU:=Xe [(83,.pure (preT (fun _:Int×Unit=>true)) (Zw (fun x:Int×Unit=>YT x.1))),(84,.pure (preT (fun _:Str×Unit=>true)) (Zw (fun x:Str×Unit=>ZH x.1)))]
theorem b9k{G:PV->Prop}(l:Lin)(h:Yk (fun(x:Int×Unit)=>YT x.1) [(.int .i64 l.k)] fun y0:Bool=>if (!y0)=true then G ((.bool false))else(if (decide ((↑(List.length (List.map enc l.t)):Int)>12))=true then G ((.bool false))else(At Ux 0 (Za Vl G) Vr 0 58 [(1,(.ptr 0 0)),(3,(Zc 0))] [(.obj (.box [(Zc l.k),(ZM l.t)]))]))):Ze Ux 0 (Za Vl G) Vr [] (Yn 58 [enc l]):=Ze.tp (.lit (Yj (Bool) (.ask (Yo 5) (ZK 5 (.ask (.nil) (.nil)))))) h (by kernel_rfl)
theorem Ml{G:PV->Prop}(l:Lin)(i:Int)(h:if (decide (i<(↑(List.length (List.map enc l.t)):Int)))=true then(decide (0<=i)&&decide (Int.toNat i<List.length (List.map enc l.t))&&Enc.sz Coef==2)=true∧(Xc l.t i fun y0:Coef=>Yk (fun(x:Str×Unit)=>ZH x.1) [(.str (PV.asStr (Yp y0)))] fun y1:Bool=>if (!y1)=true then G ((.bool false))else(if (PV.asInt (X9 y0)==0)=true then G ((.bool false))else(Yk (fun(x:Int×Unit)=>YT x.1) [(.int .i64 (PV.asInt (X9 y0)))] fun y2:Bool=>if (!y2)=true then G ((.bool false))else(if (decide (i>0))=true then(decide (0<=IntKind.wrap IntKind.i64 (i - 1))&&decide (Int.toNat (IntKind.wrap IntKind.i64 (i - 1))<List.length (List.map enc l.t))&&Enc.sz Coef==2)=true∧(Xc l.t (IntKind.wrap IntKind.i64 (i - 1)) fun y3:Coef=>if (!Op.bytesLess (PV.asStr (List.getD (List.drop 0 (PV.cells (enc y3))) 0 default)) (PV.asStr (Yp y0)))=true then G ((.bool false))else(At Ux 0 (Za Vl G) Vr 0 58 [(1,(.ptr 0 0)),(3,(Zc (IntKind.wrap IntKind.i64 (i+1))))] [(.obj (.box [(Zc l.k),(ZM l.t)]))]))else(At Ux 0 (Za Vl G) Vr 0 58 [(1,(.ptr 0 0)),(3,(Zc (IntKind.wrap IntKind.i64 (i+1))))] [(.obj (.box [(Zc l.k),(ZM l.t)]))])))))else(G ((.bool true)))):At Ux 0 (Za Vl G) Vr 0 58 [(1,.ptr 0 0),(3,.pv (.int .i64 i))] [.obj (.box [.pv (.int .i64 l.k),.pv (enc l.t)])]:=At.tp (.lit (.ask (.req (Xa (Coef) (ZK 2 (Yj (Bool) (.ask (Yo 14) (ZK 4 (.ask (Yo 10) (ZK 3 (Yj (Bool) (ZK 2 (.ask (Yo 5) (ZK 3 (.ask (ZK 5 (.req (Xa (Coef) (ZK 10 (.ask (.nil) (.lit (.nil))))))) (Yo 14)))))))))))))) (.nil))) h (by kernel_rfl)
noncomputable def JH:IC:=Wn Proofs.Tryz.f16
def JF:List IRes:=[(.tmp 4)]
abbrev d2k:Nat:=26
def Cc:ZU:=Xe []
theorem d7m{G:PV->Prop}(l:Lin)(n:Int)(h:At Cc 0 (Za JF G) JH 0 26 [(1,(Zc n)),(2,(.ptr 0 0)),(5,(Zc 0))] [(.obj (.box [(Zc l.k),(ZM l.t)]))]):Ze Cc 0 (Za JF G) JH [] (Yn 26 [enc l,enc n]):=Ze.tp (.nil) h (by kernel_rfl)
theorem a9o{G:PV->Prop}(l:Lin)(n:Int)(i:Int)(h:if (decide (i<(↑(List.length (List.map enc l.t)):Int)))=true then(decide (0<=i)&&decide (Int.toNat i<List.length (List.map enc l.t))&&Enc.sz Coef==2)=true∧(Xc l.t i fun y0:Coef=>if (decide ((↑(List.length (PV.asStr (List.getD (List.drop 0 (PV.cells (enc y0))) 0 default))):Int)>40))=true then G ((.bool false))else(At Cc 0 (Za JF G) JH 0 26 [(1,(Zc n)),(2,(.ptr 0 0)),(5,(Zc (IntKind.wrap IntKind.i64 (i+1))))] [(.obj (.box [(Zc l.k),(ZM l.t)]))]))else(G ((.bool (decide ((↑(List.length (List.map enc l.t)):Int)<=n)))))):At Cc 0 (Za JF G) JH 0 26 [(1,.pv (.int .i64 n)),(2,.ptr 0 0),(5,.pv (.int .i64 i))] [.obj (.box [.pv (.int .i64 l.k),.pv (enc l.t)])]:=At.tp (.lit (.ask (.req (Xa (Coef) (ZK 2 (.ask (.nil) (.lit (.nil)))))) (.lit (.nil)))) h (by kernel_rfl)
noncomputable def Q5:IC:=Wn Proofs.Tryz.f31
def Q7:List IRes:=[(.tmp 4)]
abbrev c0o:Nat:=23
def JL:ZU:=Xe [(16,.pure (preT (fun x:Lin×Int×Unit=>Z9 x.1)) (Zw (fun x:Lin×Int×Unit=>JK x.1 x.2.1)))]
theorem d1s{G:PV->Prop}(l:List Fact)(n:Int)(h:At JL 0 (Za Q7 G) Q5 0 23 [(0,(.pv (.sl 3 false (List.map enc l)))),(1,(Zc n)),(5,(Zc 0))] []):Ze JL 0 (Za Q7 G) Q5 [] (Yn 23 [enc l,enc n]):=Ze.tp (.nil) h (by kernel_rfl)
theorem a1y{G:PV->Prop}(l:List Fact)(n:Int)(i:Int)(h:if (Rx l i)=true then Vt l i 3∧(Xc l i fun y0:Fact=>(Go.Pl.preT (fun(x:Lin×Int×Unit)=>Z9 x.1) [(.agg [(.int .i64 (PV.asInt (WY y0))),(.sl 2 false (PV.asXs (List.getD (List.drop 1 (PV.cells (enc y0))) (0+1) default)))]),(.int .i64 8)])=true∧(Yk (fun(x:Lin×Int×Unit)=>JK x.1 x.2.1) [(.agg [(.int .i64 (PV.asInt (WY y0))),(.sl 2 false (PV.asXs (List.getD (List.drop 1 (PV.cells (enc y0))) (0+1) default)))]),(.int .i64 8)] fun y1:Bool=>if (!y1)=true then G ((.bool false))else(At JL 0 (Za Q7 G) Q5 0 23 [(0,(.pv (.sl 3 false (List.map enc l)))),(1,(Zc n)),(5,(Zc (IntKind.wrap IntKind.i64 (i+1))))] [])))else(G ((.bool (decide ((↑(List.length (List.map enc l)):Int)<=n)))))):At JL 0 (Za Q7 G) Q5 0 23 [(0,.pv (enc l)),(1,.pv (.int .i64 n)),(5,.pv (.int .i64 i))] []:=At.tp (.lit (.ask (.req (Xa (Fact) (.lit (.req (Yj (Bool) (.ask (.nil) (.lit (.nil)))))))) (.lit (.nil)))) h (by kernel_rfl)
-- IMPOSSIBLE
noncomputable def a5d:IC:=Wn Proofs.Tryz.f91
def a4l:List IRes:=[(.cell true 2 2)]
abbrev d9h:Nat:=5
def c1g:ZU:=Xe []
theorem e0d{G:PV->Prop}(n:Int)(h:G ((.agg [(.int .i64 n),(.sl 0 true [])]))):Ze c1g 0 (Za a4l G) a5d [] (Yn 5 [enc n]):=Ze.tp (.nil) h (by kernel_rfl)
noncomputable def XP:IC:=Wn Proofs.Tryz.f65
def XR:List IRes:=[(.tmp 4),(.tmp 5)]
abbrev c2i:Nat:=68
def WO:ZU:=Xe [(20,.pure (preT (fun x:Lin×Unit=>Z9 x.1)) (Zw (fun x:Lin×Unit=>Zh x.1)))]
theorem d2v{G:PV->Prop}(l:Lin)(v:List Coef)(h:(Go.Pl.preT (fun(x:Lin×Unit)=>Z9 x.1) [(.agg [(.int .i64 l.k),(.sl 2 false (List.map enc l.t))])])=true∧(Yk (fun(x:Lin×Unit)=>Zh x.1) [(.agg [(.int .i64 l.k),(.sl 2 false (List.map enc l.t))])] fun y0:Bool=>if (!y0)=true then G ((.tup [(.int .i64 0),(.int .i64 1)]))else(At WO 0 (Za XR G) XP 0 68 [(1,(ZM v)),(2,(.ptr 0 0)),(6,(Zc l.k)),(7,(Zc 0))] [(.obj (.box [(Zc l.k),(ZM l.t)]))]))):Ze WO 0 (Za XR G) XP [] (Yn 68 [enc l,enc v]):=Ze.tp (.req (Yj (Bool) (.ask (.nil) (.nil)))) h (by kernel_rfl)
theorem a1p{G:PV->Prop}(l:Lin)(v:List Coef)(n i:Int)(h:if (decide (i<(↑(List.length (List.map enc l.t)):Int)))=true then At WO 0 (Za XR G) XP 1 68 [(1,(ZM v)),(2,(.ptr 0 0)),(6,(Zc n)),(7,(Zc i)),(8,(Zc 0))] [(.obj (.box [(Zc l.k),(ZM l.t)]))]else(G ((.tup [(.int .i64 n),(.int .i64 0)])))):At WO 0 (Za XR G) XP 0 68 [(1,.pv (enc v)),(2,.ptr 0 0),(6,.pv (.int .i64 n)),(7,.pv (.int .i64 i))] [.obj (.box [.pv (.int .i64 l.k),.pv (enc l.t)])]:=At.tp (.lit (.ask (.nil) (.nil))) h (by kernel_rfl)
theorem OM{G:PV->Prop}(l:Lin)(v:List Coef)(n i j:Int)(h:if (Rx v j)=true then Vt v j 2∧(Xc v j fun y0:Coef=>(decide (0<=i)&&decide (Int.toNat i<List.length (List.map enc l.t))&&Enc.sz Coef==2)=true∧(Xc l.t i fun y1:Coef=>if (!PV.asStr (List.getD (List.drop 0 (PV.cells (enc y0))) 0 default)==PV.asStr (List.getD (List.drop 0 (PV.cells (enc y1))) 0 default))=true then At WO 0 (Za XR G) XP 1 68 [(1,(ZM v)),(2,(.ptr 0 0)),(6,(Zc n)),(7,(Zc i)),(8,(Zc (IntKind.wrap IntKind.i64 (j+1))))] [(.obj (.box [(Zc l.k),(ZM l.t)]))]else(if (j==(↑(List.length (List.map enc v)):Int))=true then G ((.tup [(.int .i64 0),(.int .i64 7)]))else(Vt v j 2∧(Xc v j fun y2:Coef=>if (decide (PV.asInt (WY y2)<(-1000000000:Int)))=true then G ((.tup [(.int .i64 0),(.int .i64 2)]))else(if (decide (PV.asInt (WY y2)>1000000000))=true then G ((.tup [(.int .i64 0),(.int .i64 2)]))else((decide (0<=i)&&decide (Int.toNat i<List.length (List.map enc l.t))&&Enc.sz Coef==2)=true∧(Xc l.t i fun y3:Coef=>At WO 0 (Za XR G) XP 0 68 [(1,(ZM v)),(2,(.ptr 0 0)),(6,(Zc (IntKind.wrap IntKind.i64 (n+IntKind.wrap IntKind.i64 (PV.asInt (WY y3)*PV.asInt (WY y2)))))),(7,(Zc (IntKind.wrap IntKind.i64 (i+1))))] [(.obj (.box [(Zc l.k),(ZM l.t)]))]))))))))else(if (j==(↑(List.length (List.map enc v)):Int))=true then G ((.tup [(.int .i64 0),(.int .i64 7)]))else(Vt v j 2∧(Xc v j fun y4:Coef=>if (decide (PV.asInt (WY y4)<(-1000000000:Int)))=true then G ((.tup [(.int .i64 0),(.int .i64 2)]))else(if (decide (PV.asInt (WY y4)>1000000000))=true then G ((.tup [(.int .i64 0),(.int .i64 2)]))else((decide (0<=i)&&decide (Int.toNat i<List.length (List.map enc l.t))&&Enc.sz Coef==2)=true∧(Xc l.t i fun y5:Coef=>At WO 0 (Za XR G) XP 0 68 [(1,(ZM v)),(2,(.ptr 0 0)),(6,(Zc (IntKind.wrap IntKind.i64 (n+IntKind.wrap IntKind.i64 (PV.asInt (WY y5)*PV.asInt (WY y4)))))),(7,(Zc (IntKind.wrap IntKind.i64 (i+1))))] [(.obj (.box [(Zc l.k),(ZM l.t)]))]))))))):At WO 0 (Za XR G) XP 1 68 [(1,.pv (enc v)),(2,.ptr 0 0),(6,.pv (.int .i64 n)),(7,.pv (.int .i64 i)),(8,.pv (.int .i64 j))] [.obj (.box [.pv (.int .i64 l.k),.pv (enc l.t)])]:=At.tp (.lit (.ask (ZK 2 (.req (Xa (Coef) (ZK 7 (.req (Xa (Coef) (ZK 6 (.ask (.lit (.nil)) (.lit (.ask (.nil) (.req (Xa (Coef) (ZK 2 (.ask (Yo 3) (ZK 3 (.ask (.nil) (.req (Xa (Coef) (Yo 4))))))))))))))))))) (ZK 14 (.ask (.nil) (.req (Xa (Coef) (ZK 2 (.ask (Yo 3) (ZK 3 (.ask (.nil) (.req (Xa (Coef) (Yo 4))))))))))))) h (by kernel_rfl)
end Go.Pl
namespace Go.Pl
open Go.RowKit
open Enc (enc dec is)
open EncL (encL decL isL)
theorem d8r(c:UInt8):digB c=(decide ((c.toNat:Int) ≥ 48)&&decide ((c.toNat:Int)<=57)):=by
 simp only[digB,UInt8.le_iff_toNat_le,ge_iff_le]
 have e1:(48:UInt8).toNat=48:=rfl
 have e2:(57:UInt8).toNat=57:=rfl
 rw[e1,e2]
 congr 1 <;> exact decide_eq_decide.2 (by omega)
theorem d5n(c:UInt8):VF c=(decide ((c.toNat:Int) ≥ 97)&&decide ((c.toNat:Int)<=122)):=by
 simp only[VF,UInt8.le_iff_toNat_le,ge_iff_le]
 have e1:(97:UInt8).toNat=97:=rfl
 have e2:(122:UInt8).toNat=122:=rfl
 rw[e1,e2]
 congr 1 <;> exact decide_eq_decide.2 (by omega)
theorem Fh{a b:Bool}{G:PV->Prop}(h:G (.bool (a&&b))):if a=true then G (.bool b)else G (.bool false):=by cases a <;> simpa using h
theorem b7t: ∀ a:UInt8×Unit,true=true->Ze a8e 0 (Za Lh (Zi (digB a.1))) Lr [] (Yn d3f (encL a)):=by
 rintro⟨c,⟨⟩⟩ -
 exact d8n c (Fh (ZW (d8r c).symm))
theorem c8p: ∀ a:UInt8×Unit,true=true->Ze a5a 0 (Za LF (Zi (VF a.1))) Fw [] (Yn d0b (encL a)):=by
 rintro⟨c,⟨⟩⟩ -
 exact d7p c (Fh (ZW (d5n c).symm))
theorem a7j: ∀ a:Int×Unit,true=true->Ze Ph 0 (Za Af (Zi (YT a.1))) GK [] (Yn b3f (encL a)):=by
 rintro⟨n,⟨⟩⟩ -
 exact c6t n (Fh (ZW rfl))
theorem c8y: ∀ a:Int×Unit,true=true->Ze c5w 0 (Za a5h (Zi (YT a.1))) a3g [] (Yn d6s (encL a)):=by
 rintro⟨n,⟨⟩⟩ -
 exact e2d n (Fh (ZW rfl))
theorem c6w(s:List UInt8)(hs:s.length<=30): ∀ (j i:Nat),j+i=s.length->At VK 0 (Za Wv (Zi ((s.drop i).all digB))) Wx 0 62 [(0,.pv (.str s)),(3,.pv (.int .i64 i))] []:=by
 intro j
 induction j with
 | zero=>
  intro i hi
  refine a2h s i ?_
  rw[if_neg (Yt (by omega))]
  exact ZW (by rw[List.drop_of_length_le (by omega)];rfl)
 | succ j ih=>
  intro i hi
  have hlt:i<s.length:=by omega
  refine a2h s i ?_
  rw[if_pos (Yi hlt)]
  have eg:List.getD s (Int.toNat (i:Int)) 0=s[i]:=by simp[List.getD,hlt]
  rw[eg,next (by omega)]
  refine⟨by simp[hlt],Zk (s[i],()) rfl rfl,Zg (s[i],()) rfl ?_⟩
  rw[List.drop_eq_getElem_cons hlt,List.all_cons]
  show if (!digB s[i])=true then _ else _
  cases hd:digB s[i]
  ·exact ZW rfl
  ·rw[if_neg (by simp)]
   simpa using ih (i+1) (by omega)
theorem c3e(s:List UInt8)(hs:s.length<=30): ∀ (j i:Nat),j+i=s.length->0<i->At VK 0 (Za Wv (Zi ((s.drop i).all fun c=>VF c||digB c))) Wx 1 62 [(0,.pv (.str s)),(4,.pv (.int .i64 i))] []:=by
 intro j
 induction j with
 | zero=>
  intro i hi _
  refine Pt s i ?_
  rw[if_neg (Yt (by omega))]
  exact ZW (by rw[List.drop_of_length_le (by omega)];rfl)
 | succ j ih=>
  intro i hi h0
  have hlt:i<s.length:=by omega
  refine Pt s i ?_
  rw[if_pos (Yi hlt)]
  have eg:List.getD s (Int.toNat (i:Int)) 0=s[i]:=by simp[List.getD,hlt]
  rw[eg,next (by omega)]
  refine⟨by simp[hlt],Zk (s[i],()) rfl rfl,Zg (s[i],()) rfl ?_⟩
  rw[List.drop_eq_getElem_cons hlt,List.all_cons]
  show if (!VF s[i])=true then _ else _
  cases hd:VF s[i]
  ·rw[d4z,if_neg (by simp;omega)]
   refine⟨by simp[hlt],Zk (s[i],()) rfl rfl,Zg (s[i],()) rfl ?_⟩
   show if (!digB s[i])=true then _ else _
   cases hd:digB s[i]
   ·exact ZW rfl
   ·rw[if_neg (by simp)]
    simpa using ih (i+1) (by omega) (by omega)
  ·rw[if_neg (by simp)]
   simpa using ih (i+1) (by omega) (by omega)
theorem b2u: ∀ a:Str×Unit,true=true->Ze VK 0 (Za Wv (Zi (ZH a.1))) Wx [] (Yn c8g (encL a)):=by
 rintro⟨⟨s⟩,⟨⟩⟩ -
 refine c8t s ?_
 cases s with
 | nil=>exact ZW rfl
 | cons c r=>
  rw[if_neg (by simp;omega)]
  by_cases h30:((c::r).length:Int)>30
  ·rw[if_pos (by simpa using h30)]
   refine ZW ?_
   have : ¬ r.length<=29:=by simp at h30;omega
   have h9 : ¬ r.length<=9:=by omega
   simp[ZH,this,h9]
  ·rw[if_neg (by simpa using h30)]
   have hl:(c::r).length<=30:=by omega
   refine⟨by simp,?_⟩
   show if ((c.toNat:Int)==95)=true then _ else _
   by_cases hc:c=95
   ·subst hc
    rw[if_pos (by rfl)]
    simp only[ZH,if_true]
    cases r with
    | nil=>exact ZW rfl
    | cons d r=>
     rw[if_neg (by simp;omega)]
     by_cases h10:((95::d::r:List UInt8).length:Int)>10
     ·rw[if_pos (by simpa using h10)]
      refine ZW ?_
      have:decide ((d::r).length<=9)=false:=decide_eq_false (by simp at h10 ⊢;omega)
      rw[this,Bool.and_false]
     ·rw[if_neg (by simpa using h10)]
      refine⟨by simp,?_⟩
      show if ((d.toNat:Int)==48)=true then _ else _
      by_cases hd:d=48
      ·subst hd
       rw[if_pos (by rfl)]
       exact ZW (by simp)
      ·rw[if_neg (by exact d4p 48 hd (by omega))]
       have h:=c6w (95::d::r) hl (d::r).length 1 (by simp)
       have e:(d::r).length<=9:=by simp at h10 ⊢;omega
       have e2:((d::r).all digB&& !(d::r).isEmpty&&decide ((d::r).head? ≠ some 48)&&decide ((d::r).length<=9))=(d::r).all digB:=by rw[decide_eq_true e,show decide ((d::r).head? ≠ some (48:UInt8))=true by simpa using hd];simp
       rw[e2]
       exact h
   ·rw[if_neg (by exact d4p 95 hc (by omega))]
    refine Pt (c::r) 0 ?_
    rw[if_pos (by simp)]
    refine⟨by simp,Zk (c,()) rfl rfl,Zg (c,()) rfl ?_⟩
    show if (!VF c)=true then _ else _
    have en:ZH ⟨c::r⟩=(VF c&&r.all (fun c=>VF c||digB c)):=by
     have:r.length<=29:=by simp at hl;omega
     simp[ZH,hc,this]
    rw[en]
    cases hlow:VF c
    ·rw[d4z,if_pos (by rfl)]
     exact ZW rfl
    ·rw[if_neg (by simp)]
     exact c3e (c::r) hl r.length 1 (by simp) (by omega)
def Tv(prev:Option (List UInt8)):List Coef->Bool
 | []=>true
 | t::r=>ZH t.v&&decide (t.c≠0)&&YT t.c&&(match prev with|none=>true|some p=>decide (p<t.v.s))&&Tv (some t.v.s) r
theorem CW(p:Option (List UInt8))(t:Coef)(r:List Coef):Tv p (t::r)=(ZH t.v&&decide (t.c≠0)&&YT t.c&&(match p with|none=>true|some p=>decide (p<t.v.s))&&Tv (some t.v.s) r):=by cases p <;> rfl
theorem EQ: ∀ (l:List Coef) (p:List UInt8),Tv (some p) l=(l.all (fun t=>ZH t.v&&decide (t.c≠0)&&YT t.c)&&(match l with|[]=>true|t::_=>decide (p<t.v.s))&&G5 l)
 | [],p=>by simp[Tv,G5]
 | t::r,p=>by
  rw[CW,EQ r]
  cases r with
  | nil=>simp[G5]
  | cons u r=>
   simp only[List.all_cons,G5]
   ac_rfl
theorem c1e(l:List Coef):Tv none l=(l.all (fun t=>ZH t.v&&decide (t.c≠0)&&YT t.c)&&G5 l):=by
 cases l with
 | nil=>simp[Tv,G5]
 | cons t r=>
  rw[CW,EQ r]
  cases r with
  | nil=>simp[G5]
  | cons u r=>
   simp only[List.all_cons,G5,Bool.and_true]
   ac_rfl
theorem a2j(l:Lin):Zh l=(YT l.k&&decide (l.t.length<=12)&&Tv none l.t):=by
 rw[c1e,Zh]
 ac_rfl
def pvS(ts:List Coef):Nat->Option (List UInt8)
 | 0=>none
 | i+1=>(ts[i]?).map (·.v.s)
theorem b0d{k:Nat}(h:k<9223372036854775807):IntKind.i64.wrap (((k+1:Nat):Int) - 1)=(k:Int):=by rw[WX (by omega) (by omega)];omega
theorem EN(l:Lin)(hl:l.t.length<=9223372036854775807): ∀ (j i:Nat),j+i=l.t.length->At Ux 0 (Za Vl (Zi (Tv (pvS l.t i) (l.t.drop i)))) Vr 0 58 [(1,.ptr 0 0),(3,.pv (.int .i64 i))] [.obj (.box [.pv (.int .i64 l.k),.pv (enc l.t)])]:=by
 intro j
 induction j with
 | zero=>
  intro i hi
  refine Ml l i ?_
  rw[if_neg (YY (by omega))]
  exact ZW (by rw[List.drop_of_length_le (by omega)];rfl)
 | succ j ih=>
  intro i hi
  have hlt:i<l.t.length:=by omega
  have h:=ih (i+1) (by omega)
  refine Ml l i ?_
  simp only[co1,co2,co3,co4]
  refine ZA (Yy hlt) ⟨Zn hlt rfl,Zu hlt (Zg (l.t[i].v,()) rfl (Xt (fun hn=> ?_) fun hn=>Ko (fun hc=> ?_) fun hc=>Zg (l.t[i].c,()) rfl (Xt (fun hk=> ?_) fun hk=> ?_)))⟩
  all_goals rw[List.drop_eq_getElem_cons hlt,CW]
  ·have hn:ZH l.t[i].v=false:=hn
   exact ZW (by simp[hn])
  ·exact ZW (by simp[hc])
  ·have hk:YT l.t[i].c=false:=hk
   exact ZW (by simp[hk])
  have hn:ZH l.t[i].v=true:=hn
  have hk:YT l.t[i].c=true:=hk
  rw[next (by omega),hn,hk,decide_eq_true hc]
  have ep:pvS l.t (i+1)=some l.t[i].v.s:=by simp[pvS,hlt]
  rw[ep]at h
  cases i with
  | zero=>exact ZG (by simp) h
  | succ i=>
   refine ZA (by simp) ?_
   rw[b0d (by omega)]
   refine⟨Zn (by omega) rfl,Zu (by omega) ?_⟩
   have e2:pvS l.t (i+1)=some l.t[i].v.s:=by simp[pvS,show i<l.t.length by omega]
   rw[e2]
   refine Xt (fun hb=> ?_) fun hb=> ?_
   all_goals
    have hb':=(YH l.t[i].v.s l.t[i+1].v.s).symm.trans hb
    simp only[hb',Bool.and_true,Bool.true_and,Bool.and_false,Bool.false_and]
   ·exact ZW rfl
   ·exact h
theorem a6n: ∀ a:Lin×Unit,Z9 a.1=true->Ze Ux 0 (Za Vl (Zi (Zh a.1))) Vr [] (Yn b4a (encL a)):=by
 rintro⟨l,⟨⟩⟩ hl
 have hl:l.t.length<=9223372036854775807:=by simpa [Z9]using hl
 refine b9k l (Zg (l.k,()) rfl ?_)
 show if (!YT l.k)=true then _ else _
 show if (!YT l.k)=true then Zi (Zh l) _ else if _ then Zi (Zh l) _ else At Ux 0 (Za Vl (Zi (Zh l))) Vr 0 58 _ _
 rw[a2j]
 cases hk:YT l.k
 ·exact ZW rfl
 rw[e1u]
 by_cases h12:l.t.length<=12
 ·rw[if_neg (by simp;omega)]
  have h:=EN l hl l.t.length 0 (by omega)
  simp only[h12,decide_true,Bool.true_and]
  exact h
 ·rw[if_pos (by simp;omega)]
  exact ZW (by simp[h12])
theorem b6f(l:Lin)(n:Int)(hl:l.t.length<=9223372036854775807): ∀ (j i:Nat),j+i=l.t.length->At Cc 0 (Za JF (Zi ((l.t.drop i).all (fun t=>decide (t.v.s.length<=40))&&decide ((l.t.length:Int)<=n)))) JH 0 26 [(1,.pv (.int .i64 n)),(2,.ptr 0 0),(5,.pv (.int .i64 i))] [.obj (.box [.pv (.int .i64 l.k),.pv (enc l.t)])]:=by
 intro j
 induction j with
 | zero=>
  intro i hi
  exact a9o l n i (ZG (YY (by omega)) (ZW (by rw[List.drop_of_length_le (by omega),List.length_map];rfl)))
 | succ j ih=>
  intro i hi
  have hlt:i<l.t.length:=by omega
  have h:=ih (i+1) (by omega)
  refine a9o l n i (ZA (Yy hlt) ⟨Zn hlt rfl,Zu hlt ?_⟩)
  rw[List.drop_eq_getElem_cons hlt,List.all_cons,next (by omega)]
  refine XJ (fun h40=> ?_) fun h40=> ?_
  ·have h40:(l.t[i].v.s.length:Int)>40:=h40
   exact ZW (by rw[decide_eq_false (show ¬ l.t[i].v.s.length<=40 by omega)];rfl)
  ·have h40 : ¬ (l.t[i].v.s.length:Int)>40:=h40
   rw[decide_eq_true (show l.t[i].v.s.length<=40 by omega),Bool.true_and]
   exact h
theorem b9f: ∀ a:Lin×Int×Unit,Z9 a.1=true->Ze Cc 0 (Za JF (Zi (JK a.1 a.2.1))) JH [] (Yn d2k (encL a)):=by
 rintro⟨l,n,⟨⟩⟩ hl
 exact d7m l n (b6f l n (by simpa [Z9]using hl) l.t.length 0 (by omega))
theorem a7q(l:List Fact)(n:Int)(hl:l.length<=9223372036854775807)(hk:l.all (fun f=>Z9 f.l)=true): ∀ (j i:Nat),j+i=l.length->At JL 0 (Za Q7 (Zi ((l.drop i).all (fun f=>JK f.l 8)&&decide ((l.length:Int)<=n)))) Q5 0 23 [(0,.pv (enc l)),(1,.pv (.int .i64 n)),(5,.pv (.int .i64 i))] []:=by
 intro j
 induction j with
 | zero=>
  intro i hi
  exact a1y l n i (ZG (YY (by omega)) (ZW (by rw[List.drop_of_length_le (by omega),List.length_map];rfl)))
 | succ j ih=>
  intro i hi
  have hlt:i<l.length:=by omega
  have h:=ih (i+1) (by omega)
  have ho:Z9 l[i].l=true:=by rw[List.all_eq_true]at hk;exact hk _ (List.getElem_mem hlt)
  refine a1y l n i (ZA (Yy hlt) ⟨Zn hlt rfl,Zu hlt ⟨Zk (l[i].l,8,()) rfl ho,Zg (l[i].l,8,()) rfl ?_⟩⟩)
  rw[List.drop_eq_getElem_cons hlt,List.all_cons,next (by omega)]
  refine Xt (fun hf=> ?_) fun hf=> ?_
  ·have hf:JK l[i].l 8=false:=hf
   exact ZW (by rw[hf];rfl)
  ·have hf:JK l[i].l 8=true:=hf
   rw[hf,Bool.true_and]
   exact h
def Sn(l:List Fact)(n:Int):Bool:=l.all (fun f=>JK f.l 8)&&decide ((l.length:Int)<=n)
def Xu(l:List Fact):Bool:=decide (l.length<=9223372036854775807)&&l.all fun f=>Z9 f.l
theorem b6l: ∀ a:List Fact×Int×Unit,Xu a.1=true->Ze JL 0 (Za Q7 (Zi (Sn a.1 a.2.1))) Q5 [] (Yn c0o (encL a)):=by
 rintro⟨l,n,⟨⟩⟩ hl
 simp only[Xu,Bool.and_eq_true,decide_eq_true_eq]at hl
 exact d1s l n (a7q l n hl.1 hl.2 l.length 0 (by omega))
theorem a5w(l:List Fact)(hl:Zl l=true): ∀ (j i:Nat),j+i=l.length->At JM 0 (Za QW (Zi (YU (l.drop i)))) Ka 0 17 [(0,.pv (enc l)),(3,.pv (.int .i64 i))] []:=by
 intro j
 induction j with
 | zero=>
  intro i hi
  exact a1a l i (ZG (YY (by omega)) (ZW (by rw[List.drop_of_length_le (by omega)];rfl)))
 | succ j ih=>
  intro i hi
  have hl':=hl
  simp only[Zl,Bool.and_eq_true,decide_eq_true_eq,List.all_eq_true]at hl'
  have hlt:i<l.length:=by omega
  have h:=ih (i+1) (by omega)
  have ho:Z9 l[i].l=true:=by
   have:=hl'.2 _ (List.getElem_mem hlt)
   simp only[Z0,Bool.and_eq_true]at this
   exact this.1
  refine a1a l i (ZA (Yy hlt) ⟨Zn hlt rfl,Zu hlt ⟨Zk (l[i].l,()) rfl ho,Zg (l[i].l,()) rfl ?_⟩⟩)
  rw[List.drop_eq_getElem_cons hlt,YU,List.all_cons,next (by omega)]
  refine Xt (fun hf=> ?_) fun hf=> ?_
  ·have hf:Zh l[i].l=false:=hf
   exact ZW (by rw[hf];rfl)
  ·have hf:Zh l[i].l=true:=hf
   rw[hf,Bool.true_and]
   exact h
theorem b3h: ∀ a:List Fact×Unit,Zl a.1=true->Ze JM 0 (Za QW (Zi (YU a.1))) Ka [] (Yn c5g (encL a)):=by
 rintro⟨l,⟨⟩⟩ h
 exact d3d l (a5w l h l.length 0 rfl)
theorem b9u(l:Lin)(v:List Coef)(hv:v.length<=9223372036854775807)(hl:l.t.length<=9223372036854775807)(i:Nat)(hi:i<l.t.length)(n:Int)
  (hK : ∀ n,At WO 0 (Za XR (Zi (UF v n (l.t.drop (i+1))))) XP 0 68 [(1,.pv (enc v)),(2,.ptr 0 0),(6,.pv (.int .i64 n)),(7,.pv (.int .i64 ((i+1:Nat):Int)))] [.obj (.box [.pv (.int .i64 l.k),.pv (enc l.t)])]) :
  ∀ (m j:Nat),m+j=v.length->Wj (v.drop j) l.t[i].v=Wj v l.t[i].v ->
  At WO 0 (Za XR (Zi (UF v n (l.t.drop i)))) XP 1 68 [(1,.pv (enc v)),(2,.ptr 0 0),(6,.pv (.int .i64 n)),(7,.pv (.int .i64 i)),(8,.pv (.int .i64 j))] [.obj (.box [.pv (.int .i64 l.k),.pv (enc l.t)])]:=by
 have ed:l.t.drop i=l.t[i]::l.t.drop (i+1):=List.drop_eq_getElem_cons hi
 intro m
 induction m with
 | zero=>
  intro j hj hlook
  refine OM l v n i j (ZG (YY (by omega)) (ZA (by simp;omega) ?_))
  rw[List.drop_of_length_le (by omega)]at hlook
  rw[ed,UF,<- hlook]
  exact⟨rfl,rfl⟩
 | succ m ih=>
  intro j hj hlook
  have hlt:j<v.length:=by omega
  refine OM l v n i j (ZA (Yy hlt) ⟨Zn hlt rfl,Zu hlt ⟨Zn hi rfl,Zu hi ?_⟩⟩)
  refine Xt (fun h1=> ?_) fun h1=> ?_
  ·have h1:(v[j].v.s==l.t[i].v.s)=false:=h1
   have hne : ¬ v[j].v=l.t[i].v:=by intro e;rw[e]at h1;simp at h1
   rw[next (by omega)]
   refine ih (j+1) (by omega) ?_
   rw[<- hlook,List.drop_eq_getElem_cons hlt]
   rw[Wj,Wj,List.find?_cons_of_neg (by simpa using hne)]
  ·have h1:(v[j].v.s==l.t[i].v.s)=true:=h1
   have heq:v[j].v=l.t[i].v:=by
    have h1:v[j].v.s=l.t[i].v.s:=by simpa using h1
    generalize v[j].v=a at h1 ⊢
    generalize l.t[i].v=b at h1 ⊢
    cases a;cases b;cases h1;rfl
   have hlk:Wj v l.t[i].v=some v[j].c:=by rw[<- hlook,List.drop_eq_getElem_cons hlt,Wj,List.find?_cons_of_pos (by simpa using heq)];rfl
   refine Ko (fun h2=>by simp only[List.length_map]at h2;omega) fun _=>⟨Zn hlt rfl,Zu hlt ?_⟩
   rw[ed,UF,hlk]
   refine XJ (fun h3=> ?_) fun h3=> ?_
   ·have h3:v[j].c < -1000000000:=h3
    simp only[if_pos h3]
    exact⟨rfl,rfl⟩
   have h3 : ¬ v[j].c < -1000000000:=h3
   refine XJ (fun h4=> ?_) fun h4=> ?_
   ·have h4:v[j].c>1000000000:=h4
    simp only[if_neg h3,if_pos h4]
    exact⟨rfl,rfl⟩
   have h4 : ¬ v[j].c>1000000000:=h4
   refine⟨Zn hi rfl,Zu hi ?_⟩
   rw[next (by omega)]
   simp only[if_neg h3,if_neg h4]
   exact hK _
theorem a4o(l:Lin)(v:List Coef)(hv:v.length<=9223372036854775807)(hl:l.t.length<=9223372036854775807): ∀ (m i:Nat) (n:Int),m+i=l.t.length ->
  At WO 0 (Za XR (Zi (UF v n (l.t.drop i)))) XP 0 68 [(1,.pv (enc v)),(2,.ptr 0 0),(6,.pv (.int .i64 n)),(7,.pv (.int .i64 i))] [.obj (.box [.pv (.int .i64 l.k),.pv (enc l.t)])]:=by
 intro m
 induction m with
 | zero=>
  intro i n hi
  refine a1p l v n i (ZG (YY (by omega)) ?_)
  rw[List.drop_of_length_le (by omega)]
  exact⟨rfl,rfl⟩
 | succ m ih=>
  intro i n hi
  have hlt:i<l.t.length:=by omega
  exact a1p l v n i (ZA (Yy hlt) (b9u l v hv hl i hlt n (fun n=>ih (i+1) n (by omega)) v.length 0 (by omega) rfl))
theorem b6b: ∀ a:Lin×List Coef×Unit,(Z9 a.1&&decide (a.2.1.length<=9223372036854775807))=true->Ze WO 0 (Za XR (Zi (ZZ a.1 a.2.1))) XP [] (Yn c2i (encL a)):=by
 rintro⟨l,v,⟨⟩⟩ h
 simp only[Bool.and_eq_true,decide_eq_true_eq]at h
 refine d2v l v ⟨Zk (l,()) rfl h.1,Zg (l,()) rfl ?_⟩
 show if (!Zh l)=true then Zi (ZZ l v) _ else At WO 0 (Za XR (Zi (ZZ l v))) XP 0 68 _ _
 unfold ZZ
 refine Xt (fun hv=> ?_) fun hv=> ?_
 ·rw[if_neg (by rw[hv];simp)]
  exact⟨rfl,rfl⟩
 ·rw[if_pos hv]
  exact a4o l v h.2 (by simpa [Z9]using h.1) l.t.length 0 l.k (by omega)
theorem b8i(ts:List Coef)(j:Nat)(x y:Coef):List.set (List.map enc ts) j (PV.withCells (enc y) (splice (PV.cells (enc y)) 0 (PV.cells (PV.agg (UA (PV.cells (enc x)) 0 [Sh.str,Sh.int .i64])))))=List.map enc (ts.set j x):=by
 rw[List.map_set]
 rfl
theorem Bl{α:Type}(f:α->PV){l:List α}{k:Nat}(h:k<l.length):(l.map f).getD (0+(k:Int).toNat) default=f l[k]:=by rw[Nat.zero_add];exact HV f h
theorem tri{x y:List UInt8}(h1 : ¬ x<y)(h2:x≠y):y<x:=Decidable.byContradiction fun h=>h2 (List.le_antisymm (List.not_lt.1 h) (List.not_lt.1 h1))
theorem b0g(s:Str)(c:Int)(t:Coef)(r:List Coef):We s c true (t::r)=(if t.v=s then⟨t.v,XI (t.c+c)⟩else t)::We s c true r:=by
 rw[We];simp only[Bool.not_true,Bool.false_and,Bool.false_eq_true,if_false,Bool.true_or,List.nil_append];split <;> rfl
theorem Dc(s:Str)(c:Int)(t:Coef)(r:List Coef):We s c false (t::r)=if s.s<t.v.s then⟨s,c⟩::t::We s c true r else if t.v=s then⟨t.v,XI (t.c+c)⟩::We s c true r else t::We s c false r:=by
 rw[We]
 by_cases h:s.s<t.v.s
 ·have : ¬ t.v=s:=fun e=>by rw[e]at h;exact List.lt_irrefl _ h
  simp[h,this]
 ·simp[h]
theorem ML(s:Str)(c:Int): ∀ (l:List Coef),(We s c true l).length=l.length
 | []=>by simp[We]
 | t::l=>by rw[b0g];simp[ML s c l]
theorem Bt(s:Str)(c:Int): ∀ (l:List Coef),(We s c false l).length<=l.length+1
 | []=>by simp[We]
 | t::l=>by
  have h1:=ML s c l
  have h2:=Bt s c l
  rw[Dc]
  split
  ·simp[h1]
  ·split <;> simp[h1] <;> omega
theorem Ro(l:Lin)(s:Str)(c:Int):(Wu l s c).t.length<=l.t.length+1:=Nat.le_trans (List.length_filter_le _ _) (Bt s c l.t)
theorem GN{a b:Str}:a=b ↔ a.s=b.s:=⟨fun h=>by rw[h],fun h=>by cases a;cases b;cases h;rfl⟩
theorem d2s: ∀ a:Int×Unit,true=true->Ze c1g 0 (Za a4l (Zi (⟨a.1,[]⟩:Lin))) a5d [] (Yn d9h (encL a)):=by
 rintro⟨n,⟨⟩⟩ -
 exact e0d n ⟨by simp,by simp⟩
end Go.Pl
namespace Go.Pl
open Go.RowKit
open Enc (enc dec is)
open EncL (encL decL isL)
set_option maxRecDepth 100000
noncomputable def a3v:IC:=Wn Proofs.Tryz.f196
def a4j:List IRes:=[(.tmp 2)]
abbrev d9n:Nat:=9
def c3h:ZU:=Xe []
theorem e0n{G:PV->Prop}(a:Int)(h:if (decide (a ≥ (-4611686018427387904:Int)))=true then G ((.bool (decide (a<=4611686018427387904))))else(G ((.bool false)))):Ze c3h 0 (Za a4j G) a3v [] (Yn 9 [enc a]):=Ze.tp (.lit (.ask (Yo 3) (Yo 2))) h (by kernel_rfl)
noncomputable def F9:IC:=Wn Proofs.Tryz.f199
def Li:List IRes:=[(.tmp 4),(.tmp 5)]
abbrev d0h:Nat:=34
def a7c:ZU:=Xe [(196,.pure (preT (fun _:Int×Unit=>true)) (Zw (fun x:Int×Unit=>YR x.1)))]
theorem d5l{G:PV->Prop}(a b:Int)(h:Yk (fun(x:Int×Unit)=>YR x.1) [(.int .i64 a)] fun y0:Bool=>if (!y0)=true then G ((.tup [(.int .i64 0),(.int .i64 2)]))else(Yk (fun(x:Int×Unit)=>YR x.1) [(.int .i64 b)] fun y1:Bool=>if (!y1)=true then G ((.tup [(.int .i64 0),(.int .i64 2)]))else(if (b==0)=true then G ((.tup [(.int .i64 0),(.int .i64 1)]))else((b != 0)=true∧((b != 0)=true∧(if (Int.tmod a b != 0)=true then if (!decide (a<0)==decide (b<0))=true then G ((.tup [(.int .i64 (IntKind.wrap IntKind.i64 (IntKind.wrap IntKind.i64 (Int.tdiv a b) - 1))),(.int .i64 0)]))else(G ((.tup [(.int .i64 (IntKind.wrap IntKind.i64 (Int.tdiv a b))),(.int .i64 0)])))else(G ((.tup [(.int .i64 (IntKind.wrap IntKind.i64 (Int.tdiv a b))),(.int .i64 0)]))))))))):Ze a7c 0 (Za Li G) F9 [] (Yn 34 [enc a,enc b]):=Ze.tp (.lit (Yj (Bool) (.ask (Yo 4) (ZK 2 (Yj (Bool) (ZK 2 (.ask (.nil) (.lit (.ask (.nil) (.req (.req (.lit (.ask (ZK 8 (.ask (.lit (.nil)) (.nil))) (Yo 6)))))))))))))) h (by kernel_rfl)
end Go.Pl
namespace Go.Pl
open Go.RowKit
open Enc (enc dec is)
open EncL (encL decL isL)
theorem d4e: ∀ a:Int×Unit,true=true->Ze c3h 0 (Za a4j (Zi (YR a.1))) a3v [] (Yn d9n (encL a)):=by
 rintro⟨n,⟨⟩⟩ -
 refine e0n n (XJ (fun h=>ZW ?_) fun h=>ZW ?_)
 ·simp[YR];omega
 ·simp[YR];omega
theorem BV{a b:Int}(h:a.tmod b≠0):decide (a.tmod b<0)=decide (a<0):=by
 rcases Int.lt_or_le a 0 with h1|h1
 ·have:=Int.tmod_nonneg b (show 0 <= -a by omega)
  rw[Int.neg_tmod]at this
  rw[decide_eq_true h1,decide_eq_true (show a.tmod b<0 by omega)]
 ·have:=Int.tmod_nonneg b h1
  rw[decide_eq_false (show ¬ a<0 by omega),decide_eq_false (show ¬ a.tmod b<0 by omega)]
theorem b8w: ∀ a:Int×Int×Unit,true=true->Ze a7c 0 (Za Li (Zi (DN a.1 a.2.1))) F9 [] (Yn d0h (encL a)):=by
 rintro⟨a,b,⟨⟩⟩ -
 refine d5l a b (Zg (a,()) rfl (Xt (fun e=> ?_) fun e=>Zg (b,()) rfl (Xt (fun f=> ?_) fun f=>Ko (fun h=> ?_) fun h=> ?_)))
 ·have e:YR a=false:=e
  have:DN a b=(0,2):=by simp[DN,Et,e]
  rw[this];exact⟨rfl,rfl⟩
 ·have f:YR b=false:=f
  have:DN a b=(0,2):=by simp[DN,Et,f]
  rw[this];exact⟨rfl,rfl⟩
 ·have e:YR a=true:=e
  have f:YR b=true:=f
  have:DN a b=(0,1):=by simp only[DN,Et,e,f,h,Bool.and_self,if_true];rfl
  rw[this];exact⟨rfl,rfl⟩
 ·have e:YR a=true:=e
  have f:YR b=true:=f
  have:DN a b=(b3r a b,0):=by simp[DN,Et,e,f,h]
  rw[this]
  have hb:(b != 0)=true:=by simpa using h
  refine⟨hb,hb,?_⟩
  unfold b3r
  by_cases h1:a.tmod b=0
  ·refine ZG (by simp[h1]) ?_
   rw[if_neg (by simp[h1])]
   exact⟨rfl,rfl⟩
  ·refine ZA (by simpa using h1) (Xt (fun h2=> ?_) fun h2=> ?_)
   ·rw[if_pos ⟨h1,by simpa using h2⟩]
    exact⟨rfl,rfl⟩
   ·rw[if_neg (fun e=>e.2 (by simpa using h2))]
    exact⟨rfl,rfl⟩
end Go.Pl
namespace Go.Pl
open Go.RowKit
open Enc (enc dec is)
open EncL (encL decL isL)
set_option maxRecDepth 100000
noncomputable def X5:IC:=Wn Proofs.Tryz.f119
def Wy:List IRes:=[(.tmp 2)]
abbrev c6o:Nat:=67
def VQ:ZU:=Xe [(152,.pure (preT (fun _:Str×Str×Unit=>true)) (Zw (fun x:Str×Str×Unit=>x.2.1.s.isPrefixOf x.1.s))),(182,.pure (preT (fun x:Str×Unit=>decide (x.1.s.length<=1000000))) (Zw (fun x:Str×Unit=>YW x.1))),(76,.pure (preT (fun x:Int×Unit=>decide (-9223372036854775808<=x.1)&&decide (x.1<=9223372036854775807))) (Zw (fun x:Int×Unit=>a2a x.1)))]
theorem d4d{G:PV->Prop}(s:List UInt8)(h:Yk (fun(x:Str×Str×Unit)=>List.isPrefixOf (Str.s x.2.1) (Str.s x.1)) [(.str s),(.str [(95:UInt8)])] fun y0:Bool=>if (y0)=true then(decide (0<=1)&&true&&decide (Int.toNat 1<=List.length s)&&decide (List.length s<=List.length s))=true∧((Go.Pl.preT (fun(x:Str×Unit)=>decide (List.length (Str.s x.1)<=1000000)) [(.str (List.drop (Int.toNat 1) (List.take (List.length s) s)))])=true∧(Yk (fun(x:Str×Unit)=>YW x.1) [(.str (List.drop (Int.toNat 1) (List.take (List.length s) s)))] fun y1:Int×Er=>(PG (enc y1.2)&&Prod.fst (true,PV.bool (Kt (enc y1.2))))=true∧(if (Kt (enc y1.2))=true then if (decide (y1.1>0))=true then if (decide ((↑(List.length s):Int)<=10))=true then(Go.Pl.preT (fun(x:Int×Unit)=>decide ((-9223372036854775808:Int)<=x.1)&&decide (x.1<=9223372036854775807)) [(.int .i64 y1.1)])=true∧(Yk (fun(x:Int×Unit)=>a2a x.1) [(.int .i64 y1.1)] fun y2:Str=>(decide (0<=1)&&true&&decide (Int.toNat 1<=List.length s)&&decide (List.length s<=List.length s))=true∧(G ((.bool (Str.s y2==List.drop (Int.toNat 1) (List.take (List.length s) s))))))else(G ((.bool false)))else(G ((.bool false)))else(G ((.bool false))))))else(At VQ 0 (Za Wy G) X5 0 67 [(0,(.pv (.str s))),(34,(.pv (.sl 1 false (ZI s)))),(35,(Zc (↑(List.length (ZI s)):Int))),(36,(Zc 0))] [])):Ze VQ 0 (Za Wy G) X5 [] (Yn 67 [.str s]):=Ze.tp (.lit (Yj (Bool) (.ask (.req (.req (Yj (Int×Er) (.req (.ask (ZK 3 (.ask (ZK 4 (.ask (.lit (.req (Yj (Str) (ZK 2 (.req (Yo 3)))))) (Yo 5))) (Yo 9))) (Yo 12)))))) (.nil)))) h (by kernel_rfl)
theorem OY{G:PV->Prop}(s:List UInt8)(i:Int)(h:if (decide (i<(↑(List.length (ZI s)):Int)))=true then(decide (0<=i)&&decide (Int.toNat i<List.length (ZI s))&&1==1)=true∧((Jz [Sh.int IntKind.u8] (PV.cells (List.getD (ZI s) (Int.toNat i) default)))=true∧(if (decide (PV.asInt (List.getD (PV.cells (List.getD (ZI s) (Int.toNat i) default)) 0 default)<97))=true then if (i==0)=true then G ((.bool false))else(if (decide (PV.asInt (List.getD (PV.cells (List.getD (ZI s) (Int.toNat i) default)) 0 default)<48))=true then G ((.bool false))else(if (decide (PV.asInt (List.getD (PV.cells (List.getD (ZI s) (Int.toNat i) default)) 0 default)>57))=true then G ((.bool false))else(At VQ 0 (Za Wy G) X5 0 67 [(0,(.pv (.str s))),(34,(.pv (.sl 1 false (ZI s)))),(35,(Zc (↑(List.length (ZI s)):Int))),(36,(Zc (IntKind.wrap IntKind.i64 (i+1))))] [])))else(if (decide (PV.asInt (List.getD (PV.cells (List.getD (ZI s) (Int.toNat i) default)) 0 default)>122))=true then if (i==0)=true then G ((.bool false))else(if (decide (PV.asInt (List.getD (PV.cells (List.getD (ZI s) (Int.toNat i) default)) 0 default)<48))=true then G ((.bool false))else(if (decide (PV.asInt (List.getD (PV.cells (List.getD (ZI s) (Int.toNat i) default)) 0 default)>57))=true then G ((.bool false))else(At VQ 0 (Za Wy G) X5 0 67 [(0,(.pv (.str s))),(34,(.pv (.sl 1 false (ZI s)))),(35,(Zc (↑(List.length (ZI s)):Int))),(36,(Zc (IntKind.wrap IntKind.i64 (i+1))))] [])))else(At VQ 0 (Za Wy G) X5 0 67 [(0,(.pv (.str s))),(34,(.pv (.sl 1 false (ZI s)))),(35,(Zc (↑(List.length (ZI s)):Int))),(36,(Zc (IntKind.wrap IntKind.i64 (i+1))))] []))))else(if (!s==[])=true then G ((.bool (decide ((↑(List.length s):Int)<=30))))else(G ((.bool false))))):At VQ 0 (Za Wy G) X5 0 67 [(0,.pv (.str s)),(34,.pv (.sl 1 false (ZI s))),(35,.pv (.int .i64 (ZI s).length)),(36,.pv (.int .i64 i))] []:=At.tp (.lit (.ask (.req (.keep (.req (.lit (.ask (ZK 6 (.ask (Yo 10) (ZK 5 (.ask (Yo 5) (ZK 5 (.ask (.nil) (.lit (.nil)))))))) (ZK 3 (.ask (ZK 3 (.ask (Yo 10) (ZK 5 (.ask (Yo 5) (ZK 5 (.ask (.nil) (.lit (.nil)))))))) (Yo 8)))))))) (.lit (.ask (Yo 4) (Yo 3))))) h (by kernel_rfl)
noncomputable def Vd:IC:=Wn Proofs.Tryz.f73
def Vj:List IRes:=[(.tmp 2)]
abbrev b6g:Nat:=54
def Ul:ZU:=Xe [(144,.pure (preT (fun _:Int×Unit=>true)) (Zw (fun x:Int×Unit=>YT x.1))),(119,.pure (preT (fun x:Str×Unit=>decide (x.1.s.length<=1000000))) (Zw (fun x:Str×Unit=>ZH x.1)))]
theorem c5e{G:PV->Prop}(l:Lin)(h:At Ul 0 (Za Vj G) Vd 0 54 [(1,(.ptr 0 0)),(6,(ZM l.t)),(7,(Zc (↑(List.length (List.map enc l.t)):Int))),(8,(Zc 0))] [(.obj (.box [(Zc l.k),(ZM l.t)]))]):Ze Ul 0 (Za Vj G) Vd [] (Yn 54 [enc l]):=Ze.tp (.nil) h (by kernel_rfl)
theorem NE{G:PV->Prop}(l:Lin)(i:Int)(h:if (decide (i<(↑(List.length l.t):Int)))=true then(decide (0<=i)&&decide (Int.toNat i<List.length (List.map enc l.t))&&Enc.sz Coef==2)=true∧(Xc l.t i fun y0:Coef=>(Go.Pl.preT (fun(x:Str×Unit)=>decide (List.length (Str.s x.1)<=1000000)) [(.str (PV.asStr (Yp y0)))])=true∧(Yk (fun(x:Str×Unit)=>ZH x.1) [(.str (PV.asStr (Yp y0)))] fun y1:Bool=>if (!y1)=true then G ((.bool false))else(if (PV.asInt (X9 y0)==0)=true then G ((.bool false))else(Yk (fun(x:Int×Unit)=>YT x.1) [(.int .i64 (PV.asInt (X9 y0)))] fun y2:Bool=>if (!y2)=true then G ((.bool false))else(if (decide (i>0))=true then(decide (0<=IntKind.wrap IntKind.i64 (i - 1))&&decide (Int.toNat (IntKind.wrap IntKind.i64 (i - 1))<List.length (List.map enc l.t))&&Enc.sz Coef==2)=true∧(Xc l.t (IntKind.wrap IntKind.i64 (i - 1)) fun y3:Coef=>if (!Op.bytesLess (PV.asStr (List.getD (List.drop 0 (PV.cells (enc y3))) 0 default)) (PV.asStr (Yp y0)))=true then G ((.bool false))else(At Ul 0 (Za Vj G) Vd 0 54 [(1,(.ptr 0 0)),(6,(ZM l.t)),(7,(Zc (↑(List.length l.t):Int))),(8,(Zc (IntKind.wrap IntKind.i64 (i+1))))] [(.obj (.box [(Zc l.k),(ZM l.t)]))]))else(At Ul 0 (Za Vj G) Vd 0 54 [(1,(.ptr 0 0)),(6,(ZM l.t)),(7,(Zc (↑(List.length l.t):Int))),(8,(Zc (IntKind.wrap IntKind.i64 (i+1))))] [(.obj (.box [(Zc l.k),(ZM l.t)]))]))))))else(Yk (fun(x:Int×Unit)=>YT x.1) [(.int .i64 l.k)] fun y4:Bool=>if (y4)=true then G ((.bool (decide ((↑(List.length (List.map enc l.t)):Int)<=12))))else(G ((.bool false))))):At Ul 0 (Za Vj G) Vd 0 54 [(1,.ptr 0 0),(6,.pv (enc l.t)),(7,.pv (.int .i64 l.t.length)),(8,.pv (.int .i64 i))] [.obj (.box [.pv (.int .i64 l.k),.pv (enc l.t)])]:=At.tp (.lit (.ask (.req (Xa (Coef) (.lit (.req (Yj (Bool) (.ask (Yo 14) (ZK 4 (.ask (Yo 10) (ZK 3 (Yj (Bool) (ZK 2 (.ask (Yo 5) (ZK 3 (.ask (ZK 5 (.req (Xa (Coef) (ZK 10 (.ask (.nil) (.lit (.nil))))))) (Yo 14))))))))))))))) (.lit (Yj (Bool) (.ask (Yo 5) (Yo 4)))))) h (by kernel_rfl)
end Go.Pl
namespace Go.Pl
open Go.RowKit
open Enc (enc dec is)
open EncL (encL decL isL)
theorem a1z{s:List UInt8}{i:Nat}(h:i<s.length):List.getD (ZI s) (Int.toNat (i:Int)) default = .int .u8 (s[i].toNat:Int):=by
 simp[ZI,List.getD,h]
theorem QV(s:List UInt8):(ZI s).length=s.length:=by simp[ZI]
def a0f(c:UInt8):Bool:=VF c||digB c
theorem Lt{c:UInt8}:VF c=true ↔ 97<=c.toNat∧c.toNat<=122:=by
 simp only[VF,Bool.and_eq_true,decide_eq_true_eq,UInt8.le_iff_toNat_le]
 have e1:(97:UInt8).toNat=97:=rfl
 have e2:(122:UInt8).toNat=122:=rfl
 rw[e1,e2]
theorem GV{c:UInt8}(h : ¬ (97<=c.toNat∧c.toNat<=122)):VF c=false:=by
 cases e:VF c
 ·rfl
 ·exact absurd (Lt.1 e) h
theorem GX{c:UInt8}(h : ¬ (48<=c.toNat∧c.toNat<=57)):digB c=false:=by
 cases e:digB c
 ·rfl
 ·exact absurd (Un.1 e) h
def X6(s:List UInt8)(i:Nat):Bool:=(match i with|0=>(match s with|[]=>true|c::r=>VF c&&r.all a0f)|i+1=>(s.drop (i+1)).all a0f)&&(!(s==[]))&&decide (s.length<=30)
theorem NZ{s:List UInt8}{i:Nat}(h:i<s.length)(hb:VF s[i]=true∨(i≠0∧digB s[i]=true)):X6 s i=X6 s (i+1):=by
 cases i with
 | zero=>
  cases s with
  | nil=>simp at h
  | cons c r=>
   rcases hb with hb|hb
   ·have hb:VF c=true:=hb
    simp[X6,hb]
   ·exact absurd rfl hb.1
 | succ i=>
  unfold X6
  simp only
  rw[List.drop_eq_getElem_cons h,List.all_cons]
  have:a0f s[i+1]=true:=by
   rcases hb with hb|hb
   ·simp[a0f,hb]
   ·simp[a0f,hb.2]
  rw[this,Bool.true_and]
theorem MK{s:List UInt8}{i:Nat}(h:i<s.length)(hb:VF s[i]=false∧(i=0∨digB s[i]=false)):X6 s i=false:=by
 cases i with
 | zero=>
  cases s with
  | nil=>simp at h
  | cons c r=>
   have hb:VF c=false:=hb.1
   simp[X6,hb]
 | succ i=>
  unfold X6
  simp only
  rw[List.drop_eq_getElem_cons h,List.all_cons]
  have:a0f s[i+1]=false:=by
   rcases hb.2 with h0|h0
   ·cases h0
   ·simp[a0f,hb.1,h0]
  rw[this];simp
theorem a3n(s:List UInt8)(hs:s.length<=1000000): ∀ (m i:Nat),m+i=s.length->At VQ 0 (Za Wy (Zi (X6 s i))) X5 0 67 [(0,.pv (.str s)),(34,.pv (.sl 1 false (ZI s))),(35,.pv (.int .i64 (ZI s).length)),(36,.pv (.int .i64 i))] []:=by
 intro m
 induction m with
 | zero=>
  intro i hi
  have e:X6 s i=(!(s==[])&&decide (s.length<=30)):=by
   unfold X6
   cases i with
   | zero=>cases s with
    | nil=>rfl
    | cons c r=>simp at hi
   | succ i=>simp only;rw[List.drop_of_length_le (show s.length<=i+1 by omega)];simp
  rw[e]
  refine OY s i (ZG (Yt (by rw[QV];omega)) (WP (fun h=>ZW ?_) fun h=>ZW ?_))
  ·rw[h,Bool.true_and];exact decide_eq_decide.2 (by omega)
  ·rw[h,Bool.false_and]
 | succ m ih=>
  intro i hi
  have hlt:i<s.length:=by omega
  have h:=ih (i+1) (by omega)
  refine OY s i ?_
  rw[a1z hlt,next (by omega)]
  have stop:(VF s[i]=false∧(i=0∨digB s[i]=false))->Zi (X6 s i) (.bool false):=fun hb=>ZW (MK hlt hb).symm
  have go:(VF s[i]=true∨(i≠0∧digB s[i]=true))->At VQ 0 (Za Wy (Zi (X6 s i))) X5 0 67 [(0,.pv (.str s)),(34,.pv (.sl 1 false (ZI s))),(35,.pv (.int .i64 (ZI s).length)),(36,.pv (.int .i64 ((i+1:Nat):Int)))] []:=fun hb=>by rw[NZ hlt hb];exact h
  have rest:VF s[i]=false->(if ((i:Int)==0)=true then Zi (X6 s i) (.bool false)else if decide ((s[i].toNat:Int)<48)=true then Zi (X6 s i) (.bool false)else if decide ((s[i].toNat:Int)>57)=true then Zi (X6 s i) (.bool false)else At VQ 0 (Za Wy (Zi (X6 s i))) X5 0 67 [(0,.pv (.str s)),(34,.pv (.sl 1 false (ZI s))),(35,.pv (.int .i64 (ZI s).length)),(36,.pv (.int .i64 ((i+1:Nat):Int)))] []):=by
   intro hl
   refine Ko (fun h0=>stop ⟨hl,.inl (by omega)⟩) fun h0=>XJ (fun h1=>stop ⟨hl,.inr (GX (by omega))⟩) fun h1=>XJ (fun h2=>stop ⟨hl,.inr (GX (by omega))⟩) fun h2=>go (.inr ⟨by omega,Un.2 (by omega)⟩)
  refine ZA (Yi (by rw[QV];exact hlt)) ⟨by rw[QV];simp[hlt],by rfl,?_⟩
  refine XJ (fun h1=>rest (GV ?_)) fun h1=>XJ (fun h2=>rest (GV ?_)) fun h2=>go (.inl (Lt.2 ?_))
  ·have h1:(s[i].toNat:Int)<97:=h1
   omega
  ·have h2:(s[i].toNat:Int)>122:=h2
   omega
  ·have h1 : ¬ (s[i].toNat:Int)<97:=h1
   have h2 : ¬ (s[i].toNat:Int)>122:=h2
   omega
theorem NT{s:List UInt8}(h:[95].isPrefixOf s=false):ZH ⟨s⟩=X6 s 0:=by
 cases s with
 | nil=>rfl
 | cons c r=>
  have hc : ¬ c=95:=by intro e;subst e;simp at h
  have e:decide ((c::r).length<=30)=decide (r.length<=29):=decide_eq_decide.2 (by simp)
  unfold X6
  rw[e]
  simp only[ZH,if_neg hc]
  show _=(VF c&&r.all a0f&& !((c::r)==[])&&_)
  have e2:((c::r)==[])=false:=rfl
  rw[e2]
  simp only[Bool.not_false,Bool.and_true]
  rfl
theorem TG(s:Str): -9223372036854775808<=(YW s).1∧((YW s).1<=9223372036854775807):=by
 unfold YW
 split
 ·rename_i v hv;exact Lib.atoiAll_bounds hv
 ·have:=Lib.atoiSat_bounds s.s
  exact⟨by show _<=Lib.atoiSat s.s;omega,by show Lib.atoiSat s.s<=_;omega⟩
 ·exact⟨by show(-9223372036854775808:Int)<=0;omega,by show(0:Int)<=_;omega⟩
theorem b3m: ∀ a:Str×Unit,decide (a.1.s.length<=1000000)=true->Ze VQ 0 (Za Wy (Zi (ZH a.1))) X5 [] (Yn c6o (encL a)):=by
 rintro⟨⟨s⟩,⟨⟩⟩ hl
 have hl:s.length<=1000000:=by simpa using hl
 refine d4d s (Zg (⟨s⟩,⟨[95]⟩,()) rfl (WP (fun h=> ?_) fun h=> ?_))
 ·have h:[95].isPrefixOf s=true:=h
  obtain⟨r,rfl⟩ : ∃ r,s=95::r:=by
   cases s with
   | nil=>simp at h
   | cons c r=>
    have:95=c:=by simpa using h
    exact⟨r,by rw[this]⟩
  have e1:List.drop (Int.toNat 1) (List.take (List.length (95::r)) (95::r))=r:=by rw[List.take_of_length_le (Nat.le_refl _)];rfl
  simp only[e1]
  refine⟨by simp,Zk (⟨r⟩,()) rfl (by simp at hl ⊢;omega),Zg (⟨r⟩,()) rfl ⟨by show(PG (enc (YW ⟨r⟩).2)&&true)=true;rw[d4w];rfl,?_⟩⟩
  show if Kt (enc (YW ⟨r⟩).2)=true then(if decide ((YW ⟨r⟩).1>0)=true then(if _ then _ else Zi (ZH ⟨95::r⟩) _)else Zi (ZH ⟨95::r⟩) _)else Zi (ZH ⟨95::r⟩) _
  rw[a1x]
  by_cases h9:r.length<=9
  ·rw[<- a8w r h9,decide_eq_true h9,Bool.and_true]
   refine WP (fun h1=>WP (fun h2=>ZA (by simp;omega) ⟨Zk ((YW ⟨r⟩).1,()) rfl (by have:=TG ⟨r⟩;simp;omega),Zg ((YW ⟨r⟩).1,()) rfl ⟨by simp,ZW ?_⟩⟩) fun h2=>ZW ?_) fun h1=>ZW ?_
   ·rw[h1,h2];simp only[Bool.true_and,Bool.and_true];rfl
   ·rw[h2];simp
   ·rw[h1];simp
  ·rw[decide_eq_false h9,Bool.and_false]
   refine WP (fun h1=>WP (fun h2=>ZG (by simp;omega) (ZW rfl)) fun h2=>ZW rfl) fun h1=>ZW rfl
 ·have h:[95].isPrefixOf s=false:=h
  show At VQ 0 (Za Wy (Zi (ZH ⟨s⟩))) X5 0 67 _ _
  rw[NT h]
  exact a3n s hl s.length 0 (by omega)
theorem a2g(l:Lin)(hl:l.t.length<=9223372036854775807)(hs:l.t.all (fun t=>decide (t.v.s.length<=1000000))=true): ∀ (j i:Nat),j+i=l.t.length->At Ul 0 (Za Vj (Zi (Tv (pvS l.t i) (l.t.drop i)&&(YT l.k&&decide (l.t.length<=12))))) Vd 0 54 [(1,.ptr 0 0),(6,.pv (enc l.t)),(7,.pv (.int .i64 l.t.length)),(8,.pv (.int .i64 i))] [.obj (.box [.pv (.int .i64 l.k),.pv (enc l.t)])]:=by
 intro j
 induction j with
 | zero=>
  intro i hi
  refine NE l i (ZG (Yt (by omega)) (Zg (l.k,()) rfl ?_))
  rw[List.drop_of_length_le (show l.t.length<=i by omega)]
  refine WP (fun h=>ZW ?_) fun h=>ZW ?_
  ·have h:YT l.k=true:=h
   rw[h]
   show _=(true&&(true&&_))
   rw[Bool.true_and,Bool.true_and]
   exact decide_eq_decide.2 (by simp;omega)
  ·have h:YT l.k=false:=h
   rw[h];simp
 | succ j ih=>
  intro i hi
  have hlt:i<l.t.length:=by omega
  have h:=ih (i+1) (by omega)
  have hsi:l.t[i].v.s.length<=1000000:=by rw[List.all_eq_true]at hs;simpa using hs _ (List.getElem_mem hlt)
  refine NE l i ?_
  refine ZA (Yi hlt) ⟨Zn hlt rfl,Zu hlt ⟨Zk (l.t[i].v,()) rfl (by simpa using hsi),Zg (l.t[i].v,()) rfl (Xt (fun hn=> ?_) fun hn=>Ko (fun hc=> ?_) fun hc=>Zg (l.t[i].c,()) rfl (Xt (fun hk=> ?_) fun hk=> ?_))⟩⟩
  all_goals rw[List.drop_eq_getElem_cons hlt,CW]
  ·have hn:ZH l.t[i].v=false:=hn
   exact ZW (by simp[hn])
  ·have hc:l.t[i].c=0:=hc
   exact ZW (by simp[hc])
  ·have hk:YT l.t[i].c=false:=hk
   exact ZW (by simp[hk])
  have hn:ZH l.t[i].v=true:=hn
  have hk:YT l.t[i].c=true:=hk
  have hc:l.t[i].c≠0:=hc
  rw[next (by omega),hn,hk,decide_eq_true hc]
  have ep:pvS l.t (i+1)=some l.t[i].v.s:=by simp[pvS,hlt]
  rw[ep]at h
  cases i with
  | zero=>exact ZG (by simp) h
  | succ i=>
   refine ZA (by simp) ?_
   rw[b0d (by omega)]
   refine⟨Zn (by omega) rfl,Zu (by omega) ?_⟩
   have e2:pvS l.t (i+1)=some l.t[i].v.s:=by simp[pvS,show i<l.t.length by omega]
   rw[e2]
   refine Xt (fun hb=> ?_) fun hb=> ?_
   all_goals
    have hb':=(YH l.t[i].v.s l.t[i+1].v.s).symm.trans hb
    simp only[hb',Bool.and_true,Bool.true_and,Bool.and_false,Bool.false_and]
   ·exact ZW rfl
   ·exact h
theorem a6q: ∀ a:Lin×Unit,Z0 a.1=true->Ze Ul 0 (Za Vj (Zi (Zh a.1))) Vd [] (Yn b6g (encL a)):=by
 rintro⟨l,⟨⟩⟩ hl
 simp only[Z0,Z9,Bool.and_eq_true,decide_eq_true_eq]at hl
 refine c5e l ?_
 show At Ul 0 (Za Vj (Zi (Zh l))) Vd 0 54 _ _
 have e:Zh l=(Tv (pvS l.t 0) (l.t.drop 0)&&(YT l.k&&decide (l.t.length<=12))):=by rw[a2j,Bool.and_comm];rfl
 rw[e,List.length_map]
 exact a2g l hl.1 hl.2 l.t.length 0 (by omega)
structure LR where
 k:Int
 w:Nat
 ts:List Coef
def LR.view(r:LR):Lin:=⟨r.k,r.ts.take r.w⟩
def LR.av(r:LR)(l:Nat):AV:=.agg [.pv (.int .i64 r.k),.row l r.ts.length 0 r.w]
def LR.ob(r:LR):AObj:=.row false 61 2 (r.ts.map enc)
def QD:Nat->Nat->Nat->List Coef->List Coef×Nat
 | 0,_,j,ts=>(ts,j)
 | m+1,i,j,ts=>if (ts.getD i ⟨⟨[]⟩,0⟩).c=0 then QD m (i+1) j ts else QD m (i+1) (j+1) (ts.set j (ts.getD i ⟨⟨[]⟩,0⟩))
def Gb(k:Int)(o:List Coef):LR:=⟨k,(QD o.length 0 0 o).2,(QD o.length 0 0 o).1⟩
def Ws(l:Lin)(s:Str)(c:Int):LR:=Gb l.k (We s c false l.t)
def JA(l x:Lin)(k:Int):LR:=x.t.foldl (fun o t=>Ws o.view t.v (XI (k*t.c))) ⟨XI (l.k+XI (k*x.k)),l.t.length,l.t⟩
theorem TJ: ∀ (m i j:Nat) (ts:List Coef),(QD m i j ts).1.length=ts.length
 | 0,_,_,_=>rfl
 | m+1,i,j,ts=>by
  rw[QD]
  split
  ·exact TJ m _ _ _
  ·rw[TJ m];simp
theorem a4n: ∀ (m i j:Nat) (ts:List Coef),m+i=ts.length->j<=i->(QD m i j ts).2<=ts.length
 | 0,i,j,ts,h,hj=>by rw[QD];show j<=_;omega
 | m+1,i,j,ts,h,hj=>by
  rw[QD]
  split
  ·exact a4n m _ _ _ (by omega) (by omega)
  ·have:=a4n m (i+1) (j+1) (ts.set j (ts.getD i ⟨⟨[]⟩,0⟩)) (by simp;omega) (by omega)
   simpa using this
theorem c8r(k:Int)(o:List Coef):(Gb k o).ts.length=o.length:=TJ _ _ _ _
theorem d9o(k:Int)(o:List Coef):(Gb k o).w<=o.length:=a4n _ _ _ _ (by omega) (by omega)
theorem Bw(o:List Coef): ∀ (m i j:Nat) (ts:List Coef),m+i=o.length->ts.length=o.length->j<=i->ts.take j=(o.take i).filter (fun t=>decide (t.c≠0))->ts.drop i=o.drop i->(QD m i j ts).1.take (QD m i j ts).2=o.filter fun t=>decide (t.c≠0)
 | 0,i,j,ts,hm,hts,hji,h1,h2=>by
  rw[QD]
  show ts.take j=_
  rw[h1,List.take_of_length_le (by omega)]
 | m+1,i,j,ts,hm,hts,hji,h1,h2=>by
  have hlt:i<o.length:=by omega
  have hi':i<ts.length:=by omega
  have hj':j<ts.length:=by omega
  have ei:ts[i]=o[i]:=by
   have:(ts.drop i)[0]? = (o.drop i)[0]? :=by rw[h2]
   simpa [hi',hlt]using this
  have htk:(o.take (i+1))=o.take i++[o[i]]:=by rw[List.take_add_one,List.getElem?_eq_getElem hlt];rfl
  have eg:ts.getD i ⟨⟨[]⟩,0⟩=ts[i]:=by simp[List.getD,hi']
  rw[QD,eg]
  split
  ·rename_i hz
   refine Bw o m (i+1) j ts (by omega) hts (by omega) ?_ ?_
   ·rw[h1,htk,List.filter_append]
    have:o[i].c=0:=by rw[<- ei];exact hz
    simp[this]
   ·have:=congrArg (List.drop 1) h2
    simpa [List.drop_drop,Nat.add_comm]using this
  ·rename_i hz
   refine Bw o m (i+1) (j+1) (ts.set j ts[i]) (by omega) (by simp[hts]) (by omega) ?_ ?_
   ·rw[htk,List.filter_append,<- h1]
    have:decide (o[i].c≠0)=true:=by rw[<- ei];exact decide_eq_true hz
    simp only[List.filter_cons,this,if_true,List.filter_nil]
    rw[List.take_add_one,List.getElem?_set_self hj',List.take_set_of_le (Nat.le_refl j),ei]
    rfl
   ·rw[List.drop_set_of_lt (by omega)]
    have:=congrArg (List.drop 1) h2
    simpa [List.drop_drop,Nat.add_comm]using this
theorem RX(l:Lin)(s:Str)(c:Int):(Ws l s c).view=Wu l s c:=by
 show(⟨_,_⟩:Lin)=⟨_,_⟩
 congr 1
 exact Bw _ _ 0 0 _ (by omega) rfl (by omega) (by simp) rfl
theorem TL(k:Int): ∀ (x:List Coef) (r:LR),(x.foldl (fun o t=>Ws o.view t.v (XI (k*t.c))) r).view=x.foldl (fun o t=>Wu o t.v (XI (k*t.c))) r.view
 | [],r=>rfl
 | t::x,r=>by rw[List.foldl_cons,List.foldl_cons,TL k x,RX]
theorem O7(l x:Lin)(k:Int):(JA l x k).view=Uy l x k:=by
 have:=TL k x.t ⟨XI (l.k+XI (k*x.k)),l.t.length,l.t⟩
 have e:LR.view ⟨XI (l.k+XI (k*x.k)),l.t.length,l.t⟩=⟨XI (l.k+XI (k*x.k)),l.t⟩:=by
  show(⟨_,l.t.take l.t.length⟩:Lin)=_
  rw[List.take_length]
 rw[e]at this
 exact this
def QQ:List AV->List AObj->Bool
 | [.pv l,.pv (.str s),.pv (.int .i64 c)],[]=>WN Lin l&&decide ((dec l:Lin).t.length<=1000000)
 | _,_=>false
def Qz(r:LR)(l:Nat)(os:List AObj):AV×List AObj×List AObj:=(r.av l,os,[r.ob])
def QS:List AV->List AObj->AV×List AObj×List AObj
 | [.pv l,.pv (.str s),.pv (.int .i64 c)],_=>Qz (Ws (dec l) ⟨s⟩ c) 0 []
 | _,_=>VH
def OP(k:Int)(w:Nat)(xs:List PV):Lin:=⟨k,((dec (PV.sl 2 false xs):List Coef)).take w⟩
def KY:List AV->List AObj->Bool
 | [.agg [.pv (.int .i64 k),.row 0 q 0 w],.pv (.str s),.pv (.int .i64 c)],[.row fz ty 2 xs]=>WN (List Coef) (.sl 2 false xs)&&xs.length==q&&decide (w<=q)&&decide (w<=1000000)
 | _,_=>false
def GG:List AV->List AObj->AV×List AObj×List AObj
 | [.agg [.pv (.int .i64 k),.row 0 q 0 w],.pv (.str s),.pv (.int .i64 c)],[.row fz ty 2 xs]=>Qz (Ws (OP k w xs) ⟨s⟩ c) 1 [.row true ty 2 xs]
 | _,_=>VH
def J5:List AV->List AObj->Bool
 | [.pv l,.pv x,.pv (.int .i64 k)],[]=>WN Lin l&&WN Lin x&&decide ((dec l:Lin).t.length<=500000)&&decide ((dec x:Lin).t.length<=500000)
 | _,_=>false
def GU:List AV->List AObj->AV×List AObj×List AObj
 | [.pv l,.pv x,.pv (.int .i64 k)],[]=>Qz (JA (dec l) (dec x) k) 0 []
 | [.agg [.pv (.int .i64 c),.row 0 q 0 w],.pv x,.pv (.int .i64 k)],[.row fz ty 2 xs]=>Qz (JA (OP c w xs) (dec x) k) 1 [.row true ty 2 xs]
 | _,_=>VH
def e0g:PV:=.agg [.int .i64 0,.sl 0 true []]
end Go.Pl
namespace Go.Pl
open Go.RowKit
open Enc (enc dec is)
open EncL (encL decL isL)
set_option maxRecDepth 100000
noncomputable def Z6:IC:=Wn Proofs.Tryz.f89
def Z5:List IRes:=[(.cell true 2 6)]
abbrev a0x:Nat:=100
def Yg:ZU:=Xe []
theorem d2l{G:AV×List AObj×List AObj->Prop}(l:Lin)(s:List UInt8)(c:Int)(h:At Yg 0 (Zq 0 Z5 G) Z6 0 100 [(1,(.pv (.str s))),(2,(Zc c)),(3,(.ptr 0 0)),(6,(.ptr 1 0)),(7,(.ptr 2 0)),(8,(.pv (.bool false))),(9,(Zc 0))] [(.obj (.box [(Zc l.k),(ZM l.t)])),(.obj (.box [(Zc 0),(.pv (.sl 0 true []))])),(.obj (.box [(Zc l.k),(.pv (.sl 0 true []))]))]):Ze Yg 0 (Zq 0 Z5 G) Z6 [] (Y5 100 [.pv (enc l),.pv (.str s),.pv (enc c)] []):=Ze.to (.nil) h (by kernel_rfl)
theorem b3e{G:AV×List AObj×List AObj->Prop}(l:Lin)(s:List UInt8)(c:Int)(p:Bool)(i:Int)(h:if (decide (i<(↑(List.length (List.map enc l.t)):Int)))=true then(decide (0<=i)&&decide (Int.toNat i<List.length (List.map enc l.t))&&Enc.sz Coef==2)=true∧(Xc l.t i fun y0:Coef=>if (!p)=true then if (!(Op.bytesLess (PV.asStr (Yp y0)) s||PV.asStr (Yp y0)==s))=true then if (PV.asStr (Yp y0)==s)=true then At Yg 0 (Zq 0 Z5 G) Z6 0 100 [(1,(.pv (.str s))),(2,(Zc c)),(3,(.ptr 0 0)),(6,(.ptr 1 0)),(7,(.ptr 2 0)),(8,(.pv (.bool true))),(9,(Zc (IntKind.wrap IntKind.i64 (i+1))))] [(.obj (.box [(Zc l.k),(ZM l.t)])),(.obj (.box [(Zc 0),(.pv (.sl 0 true []))])),(.obj (.box [(Zc l.k),(.row 3 2 0 2)])),(.obj (.row false 61 2 [(.agg [(.str s),(.int .i64 c)]),(.agg [(.str (PV.asStr (Yp y0))),(.int .i64 (IntKind.wrap IntKind.i64 (PV.asInt (X9 y0)+c)))])]))]else(At Yg 0 (Zq 0 Z5 G) Z6 0 100 [(1,(.pv (.str s))),(2,(Zc c)),(3,(.ptr 0 0)),(6,(.ptr 1 0)),(7,(.ptr 2 0)),(8,(.pv (.bool true))),(9,(Zc (IntKind.wrap IntKind.i64 (i+1))))] [(.obj (.box [(Zc l.k),(ZM l.t)])),(.obj (.box [(Zc 0),(.pv (.sl 0 true []))])),(.obj (.box [(Zc l.k),(.row 3 2 0 2)])),(.obj (.row false 61 2 [(.agg [(.str s),(.int .i64 c)]),(.agg [(.str (PV.asStr (Yp y0))),(.int .i64 (PV.asInt (X9 y0)))])]))])else(if (PV.asStr (Yp y0)==s)=true then At Yg 0 (Zq 0 Z5 G) Z6 0 100 [(1,(.pv (.str s))),(2,(Zc c)),(3,(.ptr 0 0)),(6,(.ptr 1 0)),(7,(.ptr 2 0)),(8,(.pv (.bool true))),(9,(Zc (IntKind.wrap IntKind.i64 (i+1))))] [(.obj (.box [(Zc l.k),(ZM l.t)])),(.obj (.box [(Zc 0),(.pv (.sl 0 true []))])),(.obj (.box [(Zc l.k),(.row 3 1 0 1)])),(.obj (.row false 61 2 [(.agg [(.str (PV.asStr (Yp y0))),(.int .i64 (IntKind.wrap IntKind.i64 (PV.asInt (X9 y0)+c)))])]))]else(At Yg 0 (Zq 0 Z5 G) Z6 0 100 [(1,(.pv (.str s))),(2,(Zc c)),(3,(.ptr 0 0)),(6,(.ptr 1 0)),(7,(.ptr 2 0)),(8,(.pv (.bool p))),(9,(Zc (IntKind.wrap IntKind.i64 (i+1))))] [(.obj (.box [(Zc l.k),(ZM l.t)])),(.obj (.box [(Zc 0),(.pv (.sl 0 true []))])),(.obj (.box [(Zc l.k),(.row 3 1 0 1)])),(.obj (.row false 61 2 [(.agg [(.str (PV.asStr (Yp y0))),(.int .i64 (PV.asInt (X9 y0)))])]))]))else(if (PV.asStr (Yp y0)==s)=true then At Yg 0 (Zq 0 Z5 G) Z6 0 100 [(1,(.pv (.str s))),(2,(Zc c)),(3,(.ptr 0 0)),(6,(.ptr 1 0)),(7,(.ptr 2 0)),(8,(.pv (.bool true))),(9,(Zc (IntKind.wrap IntKind.i64 (i+1))))] [(.obj (.box [(Zc l.k),(ZM l.t)])),(.obj (.box [(Zc 0),(.pv (.sl 0 true []))])),(.obj (.box [(Zc l.k),(.row 3 1 0 1)])),(.obj (.row false 61 2 [(.agg [(.str (PV.asStr (Yp y0))),(.int .i64 (IntKind.wrap IntKind.i64 (PV.asInt (X9 y0)+c)))])]))]else(At Yg 0 (Zq 0 Z5 G) Z6 0 100 [(1,(.pv (.str s))),(2,(Zc c)),(3,(.ptr 0 0)),(6,(.ptr 1 0)),(7,(.ptr 2 0)),(8,(.pv (.bool p))),(9,(Zc (IntKind.wrap IntKind.i64 (i+1))))] [(.obj (.box [(Zc l.k),(ZM l.t)])),(.obj (.box [(Zc 0),(.pv (.sl 0 true []))])),(.obj (.box [(Zc l.k),(.row 3 1 0 1)])),(.obj (.row false 61 2 [(.agg [(.str (PV.asStr (Yp y0))),(.int .i64 (PV.asInt (X9 y0)))])]))])))else(if (!p)=true then At Yg 0 (Zq 0 Z5 G) Z6 1 100 [(6,(.ptr 0 0)),(7,(.ptr 1 0)),(11,(Zc 0)),(12,(Zc 0))] [(.obj (.box [(Zc 0),(.pv (.sl 0 true []))])),(.obj (.box [(Zc l.k),(.row 2 1 0 1)])),(.obj (.row false 61 2 [(.agg [(.str s),(.int .i64 c)])]))]else(At Yg 0 (Zq 0 Z5 G) Z6 1 100 [(6,(.ptr 0 0)),(7,(.ptr 1 0)),(11,(Zc 0)),(12,(Zc 0))] [(.obj (.box [(Zc 0),(.pv (.sl 0 true []))])),(.obj (.box [(Zc l.k),(.pv (.sl 0 true []))]))]))):At Yg 0 (Zq 0 Z5 G) Z6 0 100 [(1,.pv (.str s)),(2,.pv (.int .i64 c)),(3,.ptr 0 0),(6,.ptr 1 0),(7,.ptr 2 0),(8,.pv (.bool p)),(9,.pv (.int .i64 i))] [.obj (.box [.pv (.int .i64 l.k),.pv (enc l.t)]),.obj (.box [.pv (.int .i64 0),.pv (.sl 0 true [])]),.obj (.box [.pv (.int .i64 l.k),.pv (.sl 0 true [])])]:=At.to (.lit (.ask (.req (Xa (Coef) (.lit (.ask (ZK 5 (.ask (ZK 6 (.ask (Yo 5) (Yo 4))) (.lit (.ask (Yo 7) (Yo 6))))) (ZK 6 (.ask (Yo 7) (Yo 6))))))) (.ask (Yo 5) (.nil)))) h (by kernel_rfl)
theorem Mr{G:AV×List AObj×List AObj->Prop}(l:Lin)(s:List UInt8)(c:Int)(j i:Int)(q:Nat)(ts:List Coef)(h:if (decide (i<(↑(q - 0):Int)))=true then(decide (0<=i)&&decide (0+Int.toNat i<q)&&List.length (List.map enc ts)==q)=true∧((List.length (List.map enc ts)==q&&decide (0+Int.toNat i<List.length (List.map enc ts)))=true∧((decide (0+1+List.length [Sh.int .i64]<=List.length (PV.cells (List.getD (List.map enc ts) (0+Int.toNat i) default)))&&Ga (PV.cells (List.getD (List.map enc ts) (0+Int.toNat i) default)) (0+1) [Sh.int .i64])=true∧(if (PV.asInt (List.getD (PV.cells (List.getD (List.map enc ts) (0+Int.toNat i) default)) (0+1) default) != 0)=true then(decide (0<=i)&&decide (0+Int.toNat i<q)&&List.length (List.map enc ts)==q)=true∧((List.length (List.map enc ts)==q&&decide (0+Int.toNat i<List.length (List.map enc ts)))=true∧((Jz [Sh.str,Sh.int .i64] (PV.cells (List.getD (List.map enc ts) (0+Int.toNat i) default)))=true∧((decide (0<=j)&&decide (0+Int.toNat j<q)&&List.length (List.map enc ts)==q)=true∧((List.length (List.map enc ts)==q&&decide (0+Int.toNat j<List.length (List.map enc ts))&&List.length (PV.cells (PV.agg (UA (PV.cells (List.getD (List.map enc ts) (0+Int.toNat i) default)) 0 [Sh.str,Sh.int .i64])))==2&&decide (0+2<=List.length (PV.cells (List.getD (List.map enc ts) (0+Int.toNat j) default)))&&PV.cellsOk (PV.agg (UA (PV.cells (List.getD (List.map enc ts) (0+Int.toNat i) default)) 0 [Sh.str,Sh.int .i64])))=true∧(At Yg 0 (Zq 0 Z5 G) Z6 1 100 [(6,(.ptr 0 0)),(7,(.ptr 1 0)),(11,(Zc (IntKind.wrap IntKind.i64 (j+1)))),(12,(Zc (IntKind.wrap IntKind.i64 (i+1))))] [(.obj (.box [(Zc 0),(.pv (.sl 0 true []))])),(.obj (.box [(Zc l.k),(.row 2 q 0 q)])),(.obj (.row false 61 2 (List.set (List.map enc ts) (0+Int.toNat j) (PV.withCells (List.getD (List.map enc ts) (0+Int.toNat j) default) (splice (PV.cells (List.getD (List.map enc ts) (0+Int.toNat j) default)) 0 (PV.cells (PV.agg (UA (PV.cells (List.getD (List.map enc ts) (0+Int.toNat i) default)) 0 [Sh.str,Sh.int .i64]))))))))])))))else(At Yg 0 (Zq 0 Z5 G) Z6 1 100 [(6,(.ptr 0 0)),(7,(.ptr 1 0)),(11,(Zc j)),(12,(Zc (IntKind.wrap IntKind.i64 (i+1))))] [(.obj (.box [(Zc 0),(.pv (.sl 0 true []))])),(.obj (.box [(Zc l.k),(.row 2 q 0 q)])),(.obj (.row false 61 2 (List.map enc ts)))]))))else((true&&decide (0<=j)&&decide (0<=Int.toNat j)&&decide (0+Int.toNat j<=q)&&List.length (List.map enc ts)==q)=true∧(G (((.agg [(Zc l.k),(.row 0 q 0 (0+Int.toNat j))]),([],[(.row false 61 2 (List.map enc ts))])))))):At Yg 0 (Zq 0 Z5 G) Z6 1 100 [(6,.ptr 0 0),(7,.ptr 1 0),(11,.pv (.int .i64 j)),(12,.pv (.int .i64 i))] [.obj (.box [.pv (.int .i64 0),.pv (.sl 0 true [])]),.obj (.box [.pv (.int .i64 l.k),.row 2 q 0 q]),.obj (.row false 61 2 (ts.map enc))]:=At.to (.lit (.ask (.req (.keep (.req (.req (.lit (.ask (.req (.keep (.req (.req (.req (.keep (.req (Yo 2)))))))) (.lit (.nil)))))))) (.req (.nil)))) h (by kernel_rfl)
theorem Ni{G:AV×List AObj×List AObj->Prop}(l:Lin)(s:List UInt8)(c:Int)(p:Bool)(i:Int)(q:Nat)(ts:List Coef)(h:if (decide (i<(↑(List.length (List.map enc l.t)):Int)))=true then(decide (0<=i)&&decide (Int.toNat i<List.length (List.map enc l.t))&&Enc.sz Coef==2)=true∧(Xc l.t i fun y0:Coef=>if (!p)=true then if (!(Op.bytesLess (PV.asStr (Yp y0)) s||PV.asStr (Yp y0)==s))=true then(List.length (List.map enc ts)==q&&q==q&&decide ((q+List.length (List.drop 0 (List.take 1 [PV.agg [PV.str s,PV.int .i64 c]])))*24<=1099511627776)&&decide (q+List.length (List.drop 0 (List.take 1 [PV.agg [PV.str s,PV.int .i64 c]]))<=1099511627776))=true∧(if (PV.asStr (Yp y0)==s)=true then(List.length (List.map enc ts++List.drop 0 (List.take 1 [PV.agg [PV.str s,PV.int .i64 c]]))==q+List.length (List.drop 0 (List.take 1 [PV.agg [PV.str s,PV.int .i64 c]]))&&q+List.length (List.drop 0 (List.take 1 [PV.agg [PV.str s,PV.int .i64 c]]))==q+List.length (List.drop 0 (List.take 1 [PV.agg [PV.str s,PV.int .i64 c]]))&&decide ((q+List.length (List.drop 0 (List.take 1 [PV.agg [PV.str s,PV.int .i64 c]]))+List.length (List.drop 0 (List.take 1 [PV.agg [Sh.co Sh.str (Yp y0),PV.int .i64 (IntKind.wrap IntKind.i64 (PV.asInt (X9 y0)+c))]])))*24<=1099511627776)&&decide (q+List.length (List.drop 0 (List.take 1 [PV.agg [PV.str s,PV.int .i64 c]]))+List.length (List.drop 0 (List.take 1 [PV.agg [Sh.co Sh.str (Yp y0),PV.int .i64 (IntKind.wrap IntKind.i64 (PV.asInt (X9 y0)+c))]]))<=1099511627776))=true∧(At Yg 0 (Zq 0 Z5 G) Z6 0 100 [(1,(.pv (.str s))),(2,(Zc c)),(3,(.ptr 0 0)),(6,(.ptr 1 0)),(7,(.ptr 2 0)),(8,(.pv (.bool true))),(9,(Zc (IntKind.wrap IntKind.i64 (i+1))))] [(.obj (.box [(Zc l.k),(ZM l.t)])),(.obj (.box [(Zc 0),(.pv (.sl 0 true []))])),(.obj (.box [(Zc l.k),(.row 3 (q+List.length (List.drop 0 (List.take 1 [PV.agg [PV.str s,PV.int .i64 c]]))+List.length (List.drop 0 (List.take 1 [PV.agg [Sh.co Sh.str (Yp y0),PV.int .i64 (IntKind.wrap IntKind.i64 (PV.asInt (X9 y0)+c))]]))) 0 (q+List.length (List.drop 0 (List.take 1 [PV.agg [PV.str s,PV.int .i64 c]]))+List.length (List.drop 0 (List.take 1 [PV.agg [Sh.co Sh.str (Yp y0),PV.int .i64 (IntKind.wrap IntKind.i64 (PV.asInt (X9 y0)+c))]]))))])),(.obj (.row false 61 2 (List.map enc ts++List.drop 0 (List.take 1 [PV.agg [PV.str s,PV.int .i64 c]])++List.drop 0 (List.take 1 [PV.agg [Sh.co Sh.str (Yp y0),PV.int .i64 (IntKind.wrap IntKind.i64 (PV.asInt (X9 y0)+c))]]))))])else((List.length (List.map enc ts++List.drop 0 (List.take 1 [PV.agg [PV.str s,PV.int .i64 c]]))==q+List.length (List.drop 0 (List.take 1 [PV.agg [PV.str s,PV.int .i64 c]]))&&q+List.length (List.drop 0 (List.take 1 [PV.agg [PV.str s,PV.int .i64 c]]))==q+List.length (List.drop 0 (List.take 1 [PV.agg [PV.str s,PV.int .i64 c]]))&&decide ((q+List.length (List.drop 0 (List.take 1 [PV.agg [PV.str s,PV.int .i64 c]]))+List.length (List.drop 0 (List.take 1 [PV.agg [Sh.co Sh.str (Yp y0),Sh.co (Sh.int .i64) (X9 y0)]])))*24<=1099511627776)&&decide (q+List.length (List.drop 0 (List.take 1 [PV.agg [PV.str s,PV.int .i64 c]]))+List.length (List.drop 0 (List.take 1 [PV.agg [Sh.co Sh.str (Yp y0),Sh.co (Sh.int .i64) (X9 y0)]]))<=1099511627776))=true∧(At Yg 0 (Zq 0 Z5 G) Z6 0 100 [(1,(.pv (.str s))),(2,(Zc c)),(3,(.ptr 0 0)),(6,(.ptr 1 0)),(7,(.ptr 2 0)),(8,(.pv (.bool true))),(9,(Zc (IntKind.wrap IntKind.i64 (i+1))))] [(.obj (.box [(Zc l.k),(ZM l.t)])),(.obj (.box [(Zc 0),(.pv (.sl 0 true []))])),(.obj (.box [(Zc l.k),(.row 3 (q+List.length (List.drop 0 (List.take 1 [PV.agg [PV.str s,PV.int .i64 c]]))+List.length (List.drop 0 (List.take 1 [PV.agg [Sh.co Sh.str (Yp y0),Sh.co (Sh.int .i64) (X9 y0)]]))) 0 (q+List.length (List.drop 0 (List.take 1 [PV.agg [PV.str s,PV.int .i64 c]]))+List.length (List.drop 0 (List.take 1 [PV.agg [Sh.co Sh.str (Yp y0),Sh.co (Sh.int .i64) (X9 y0)]]))))])),(.obj (.row false 61 2 (List.map enc ts++List.drop 0 (List.take 1 [PV.agg [PV.str s,PV.int .i64 c]])++List.drop 0 (List.take 1 [PV.agg [Sh.co Sh.str (Yp y0),Sh.co (Sh.int .i64) (X9 y0)]]))))])))else(if (PV.asStr (Yp y0)==s)=true then(List.length (List.map enc ts)==q&&q==q&&decide ((q+List.length (List.drop 0 (List.take 1 [PV.agg [Sh.co Sh.str (Yp y0),PV.int .i64 (IntKind.wrap IntKind.i64 (PV.asInt (X9 y0)+c))]])))*24<=1099511627776)&&decide (q+List.length (List.drop 0 (List.take 1 [PV.agg [Sh.co Sh.str (Yp y0),PV.int .i64 (IntKind.wrap IntKind.i64 (PV.asInt (X9 y0)+c))]]))<=1099511627776))=true∧(At Yg 0 (Zq 0 Z5 G) Z6 0 100 [(1,(.pv (.str s))),(2,(Zc c)),(3,(.ptr 0 0)),(6,(.ptr 1 0)),(7,(.ptr 2 0)),(8,(.pv (.bool true))),(9,(Zc (IntKind.wrap IntKind.i64 (i+1))))] [(.obj (.box [(Zc l.k),(ZM l.t)])),(.obj (.box [(Zc 0),(.pv (.sl 0 true []))])),(.obj (.box [(Zc l.k),(.row 3 (q+List.length (List.drop 0 (List.take 1 [PV.agg [Sh.co Sh.str (Yp y0),PV.int .i64 (IntKind.wrap IntKind.i64 (PV.asInt (X9 y0)+c))]]))) 0 (q+List.length (List.drop 0 (List.take 1 [PV.agg [Sh.co Sh.str (Yp y0),PV.int .i64 (IntKind.wrap IntKind.i64 (PV.asInt (X9 y0)+c))]]))))])),(.obj (.row false 61 2 (List.map enc ts++List.drop 0 (List.take 1 [PV.agg [Sh.co Sh.str (Yp y0),PV.int .i64 (IntKind.wrap IntKind.i64 (PV.asInt (X9 y0)+c))]]))))])else((List.length (List.map enc ts)==q&&q==q&&decide ((q+List.length (List.drop 0 (List.take 1 [PV.agg [Sh.co Sh.str (Yp y0),Sh.co (Sh.int .i64) (X9 y0)]])))*24<=1099511627776)&&decide (q+List.length (List.drop 0 (List.take 1 [PV.agg [Sh.co Sh.str (Yp y0),Sh.co (Sh.int .i64) (X9 y0)]]))<=1099511627776))=true∧(At Yg 0 (Zq 0 Z5 G) Z6 0 100 [(1,(.pv (.str s))),(2,(Zc c)),(3,(.ptr 0 0)),(6,(.ptr 1 0)),(7,(.ptr 2 0)),(8,(.pv (.bool p))),(9,(Zc (IntKind.wrap IntKind.i64 (i+1))))] [(.obj (.box [(Zc l.k),(ZM l.t)])),(.obj (.box [(Zc 0),(.pv (.sl 0 true []))])),(.obj (.box [(Zc l.k),(.row 3 (q+List.length (List.drop 0 (List.take 1 [PV.agg [Sh.co Sh.str (Yp y0),Sh.co (Sh.int .i64) (X9 y0)]]))) 0 (q+List.length (List.drop 0 (List.take 1 [PV.agg [Sh.co Sh.str (Yp y0),Sh.co (Sh.int .i64) (X9 y0)]]))))])),(.obj (.row false 61 2 (List.map enc ts++List.drop 0 (List.take 1 [PV.agg [Sh.co Sh.str (Yp y0),Sh.co (Sh.int .i64) (X9 y0)]]))))])))else(if (PV.asStr (Yp y0)==s)=true then(List.length (List.map enc ts)==q&&q==q&&decide ((q+List.length (List.drop 0 (List.take 1 [PV.agg [Sh.co Sh.str (Yp y0),PV.int .i64 (IntKind.wrap IntKind.i64 (PV.asInt (X9 y0)+c))]])))*24<=1099511627776)&&decide (q+List.length (List.drop 0 (List.take 1 [PV.agg [Sh.co Sh.str (Yp y0),PV.int .i64 (IntKind.wrap IntKind.i64 (PV.asInt (X9 y0)+c))]]))<=1099511627776))=true∧(At Yg 0 (Zq 0 Z5 G) Z6 0 100 [(1,(.pv (.str s))),(2,(Zc c)),(3,(.ptr 0 0)),(6,(.ptr 1 0)),(7,(.ptr 2 0)),(8,(.pv (.bool true))),(9,(Zc (IntKind.wrap IntKind.i64 (i+1))))] [(.obj (.box [(Zc l.k),(ZM l.t)])),(.obj (.box [(Zc 0),(.pv (.sl 0 true []))])),(.obj (.box [(Zc l.k),(.row 3 (q+List.length (List.drop 0 (List.take 1 [PV.agg [Sh.co Sh.str (Yp y0),PV.int .i64 (IntKind.wrap IntKind.i64 (PV.asInt (X9 y0)+c))]]))) 0 (q+List.length (List.drop 0 (List.take 1 [PV.agg [Sh.co Sh.str (Yp y0),PV.int .i64 (IntKind.wrap IntKind.i64 (PV.asInt (X9 y0)+c))]]))))])),(.obj (.row false 61 2 (List.map enc ts++List.drop 0 (List.take 1 [PV.agg [Sh.co Sh.str (Yp y0),PV.int .i64 (IntKind.wrap IntKind.i64 (PV.asInt (X9 y0)+c))]]))))])else((List.length (List.map enc ts)==q&&q==q&&decide ((q+List.length (List.drop 0 (List.take 1 [PV.agg [Sh.co Sh.str (Yp y0),Sh.co (Sh.int .i64) (X9 y0)]])))*24<=1099511627776)&&decide (q+List.length (List.drop 0 (List.take 1 [PV.agg [Sh.co Sh.str (Yp y0),Sh.co (Sh.int .i64) (X9 y0)]]))<=1099511627776))=true∧(At Yg 0 (Zq 0 Z5 G) Z6 0 100 [(1,(.pv (.str s))),(2,(Zc c)),(3,(.ptr 0 0)),(6,(.ptr 1 0)),(7,(.ptr 2 0)),(8,(.pv (.bool p))),(9,(Zc (IntKind.wrap IntKind.i64 (i+1))))] [(.obj (.box [(Zc l.k),(ZM l.t)])),(.obj (.box [(Zc 0),(.pv (.sl 0 true []))])),(.obj (.box [(Zc l.k),(.row 3 (q+List.length (List.drop 0 (List.take 1 [PV.agg [Sh.co Sh.str (Yp y0),Sh.co (Sh.int .i64) (X9 y0)]]))) 0 (q+List.length (List.drop 0 (List.take 1 [PV.agg [Sh.co Sh.str (Yp y0),Sh.co (Sh.int .i64) (X9 y0)]]))))])),(.obj (.row false 61 2 (List.map enc ts++List.drop 0 (List.take 1 [PV.agg [Sh.co Sh.str (Yp y0),Sh.co (Sh.int .i64) (X9 y0)]]))))]))))else(if (!p)=true then(List.length (List.map enc ts)==q&&q==q&&decide ((q+List.length (List.drop 0 (List.take 1 [PV.agg [PV.str s,PV.int .i64 c]])))*24<=1099511627776)&&decide (q+List.length (List.drop 0 (List.take 1 [PV.agg [PV.str s,PV.int .i64 c]]))<=1099511627776))=true∧(At Yg 0 (Zq 0 Z5 G) Z6 1 100 [(6,(.ptr 0 0)),(7,(.ptr 1 0)),(11,(Zc 0)),(12,(Zc 0))] [(.obj (.box [(Zc 0),(.pv (.sl 0 true []))])),(.obj (.box [(Zc l.k),(.row 2 (q+List.length (List.drop 0 (List.take 1 [PV.agg [PV.str s,PV.int .i64 c]]))) 0 (q+List.length (List.drop 0 (List.take 1 [PV.agg [PV.str s,PV.int .i64 c]]))))])),(.obj (.row false 61 2 (List.map enc ts++List.drop 0 (List.take 1 [PV.agg [PV.str s,PV.int .i64 c]]))))])else(At Yg 0 (Zq 0 Z5 G) Z6 1 100 [(6,(.ptr 0 0)),(7,(.ptr 1 0)),(11,(Zc 0)),(12,(Zc 0))] [(.obj (.box [(Zc 0),(.pv (.sl 0 true []))])),(.obj (.box [(Zc l.k),(.row 2 q 0 q)])),(.obj (.row false 61 2 (List.map enc ts)))]))):At Yg 0 (Zq 0 Z5 G) Z6 0 100 [(1,.pv (.str s)),(2,.pv (.int .i64 c)),(3,.ptr 0 0),(6,.ptr 1 0),(7,.ptr 2 0),(8,.pv (.bool p)),(9,.pv (.int .i64 i))] [.obj (.box [.pv (.int .i64 l.k),.pv (enc l.t)]),.obj (.box [.pv (.int .i64 0),.pv (.sl 0 true [])]),.obj (.box [.pv (.int .i64 l.k),.row 3 q 0 q]),.obj (.row false 61 2 (ts.map enc))]:=At.to (.lit (.ask (.req (Xa (Coef) (.lit (.ask (ZK 5 (.ask (ZK 2 (.req (.lit (.ask (ZK 3 (.req (.lit (.nil)))) (ZK 2 (.req (.lit (.nil)))))))) (.lit (.ask (ZK 3 (.req (.lit (.nil)))) (ZK 2 (.req (.lit (.nil)))))))) (ZK 6 (.ask (ZK 3 (.req (.lit (.nil)))) (ZK 2 (.req (.lit (.nil)))))))))) (.ask (ZK 2 (.req (.nil))) (.nil)))) h (by kernel_rfl)
noncomputable def Ub:IC:=Wn Proofs.Tryz.f66
def Ud:List IRes:=[(.cell true 2 6)]
abbrev NW:Nat:=45
def Qn:ZU:=Xe [(89,.own KY GG)]
theorem b9z{G:AV×List AObj×List AObj->Prop}(l x:Lin)(k:Int)(h:(List.isEmpty (List.map enc l.t)||Enc.sz Coef==2)=true∧((List.length ([]:List PV)==0&&0==0&&decide ((0+List.length (List.map enc l.t))*24<=1099511627776)&&decide (0+List.length (List.map enc l.t)<=1099511627776))=true∧(At Qn 0 (Zq 0 Ud G) Ub 0 45 [(2,(Zc k)),(4,(.ptr 0 0)),(6,(.ptr 1 0)),(7,(.ptr 2 0)),(8,(Zc 0))] [(.obj (.box [(Zc x.k),(ZM x.t)])),(.obj (.box [(Zc 0),(.pv (.sl 0 true []))])),(.obj (.box [(Zc (IntKind.wrap IntKind.i64 (l.k+IntKind.wrap IntKind.i64 (k*x.k)))),(.row 3 (0+List.length (List.map enc l.t)) 0 (0+List.length (List.map enc l.t)))])),(.obj (.row false 61 2 (([]:List PV)++List.map enc l.t)))]))):Ze Qn 0 (Zq 0 Ud G) Ub [] (Y5 45 [.pv (enc l),.pv (enc x),.pv (enc k)] []):=Ze.to (ZK 3 (.req (.req (.nil)))) h (by kernel_rfl)
theorem TS{G:AV×List AObj×List AObj->Prop}(l x:Lin)(k:Int)(c:Int)(q w:Nat)(ts:List Coef)(i:Int)(h:if (decide (i<(↑(List.length (List.map enc x.t)):Int)))=true then(decide (0<=i)&&decide (Int.toNat i<List.length (List.map enc x.t))&&Enc.sz Coef==2)=true∧(Xc x.t i fun y0:Coef=>(decide (0<=i)&&decide (Int.toNat i<List.length (List.map enc x.t))&&Enc.sz Coef==2)=true∧(Xc x.t i fun y1:Coef=>(KY [(.agg [(Zc c),(.row 0 q 0 w)]),(.pv (.str (PV.asStr (List.getD (List.drop 0 (PV.cells (enc y0))) 0 default)))),(Zc (IntKind.wrap IntKind.i64 (k*PV.asInt (WY y1))))] [(.row false 61 2 (List.map enc ts))])=true∧(At Qn 0 (Zq 0 Ud G) Ub 0 45 [(2,(Zc k)),(4,(.ptr 0 0)),(6,(.ptr 1 0)),(7,(.ptr 2 0)),(8,(Zc (IntKind.wrap IntKind.i64 (i+1))))] [(.obj (.box [(Zc x.k),(ZM x.t)])),(.obj (.box [(Zc 0),(.pv (.sl 0 true []))])),(.obj (.box [(Zc (LR.k (Ws (OP c w (List.map enc ts)) (Str.mk (PV.asStr (List.getD (List.drop 0 (PV.cells (enc y0))) 0 default))) (IntKind.wrap IntKind.i64 (k*PV.asInt (WY y1)))))),(.row 3 (List.length (LR.ts (Ws (OP c w (List.map enc ts)) (Str.mk (PV.asStr (List.getD (List.drop 0 (PV.cells (enc y0))) 0 default))) (IntKind.wrap IntKind.i64 (k*PV.asInt (WY y1)))))) 0 (LR.w (Ws (OP c w (List.map enc ts)) (Str.mk (PV.asStr (List.getD (List.drop 0 (PV.cells (enc y0))) 0 default))) (IntKind.wrap IntKind.i64 (k*PV.asInt (WY y1))))))])),(.obj (.row false 61 2 (List.map enc (LR.ts (Ws (OP c w (List.map enc ts)) (Str.mk (PV.asStr (List.getD (List.drop 0 (PV.cells (enc y0))) 0 default))) (IntKind.wrap IntKind.i64 (k*PV.asInt (WY y1))))))))])))else(G (((.agg [(Zc c),(.row 0 q 0 w)]),([],[(.row false 61 2 (List.map enc ts))]))))):At Qn 0 (Zq 0 Ud G) Ub 0 45 [(2,.pv (.int .i64 k)),(4,.ptr 0 0),(6,.ptr 1 0),(7,.ptr 2 0),(8,.pv (.int .i64 i))] [.obj (.box [.pv (.int .i64 x.k),.pv (enc x.t)]),.obj (.box [.pv (.int .i64 0),.pv (.sl 0 true [])]),.obj (.box [.pv (.int .i64 c),.row 3 q 0 w]),.obj (.row false 61 2 (ts.map enc))]:=At.to (.lit (.ask (.req (Xa (Coef) (.lit (.req (Xa (Coef) (ZK 2 (.req (.keep (.lit (.nil)))))))))) (.nil))) h (by kernel_rfl)
end Go.Pl
namespace Go.Pl
open Go.RowKit
open Enc (enc dec is)
open EncL (encL decL isL)
theorem d0v{ts:List Coef}{i:Nat}(h:i<ts.length):ts.getD i ⟨⟨[]⟩,0⟩=ts[i]:=by simp[List.getD,h]
theorem b9r(l:Lin)(s:List UInt8)(c:Int)(q:Nat)(ho:q<=2000000): ∀ (m i j:Nat) (ts:List Coef),m+i=q->ts.length=q->j<=i ->
  At Yg 0 (Zq 0 Z5 (fun r=>r=Qz ⟨l.k,(QD m i j ts).2,(QD m i j ts).1⟩ 0 [])) Z6 1 100 [(6,.ptr 0 0),(7,.ptr 1 0),(11,.pv (.int .i64 j)),(12,.pv (.int .i64 i))] [.obj (.box [.pv (.int .i64 0),.pv (.sl 0 true [])]),.obj (.box [.pv (.int .i64 l.k),.row 2 q 0 q]),.obj (.row false 61 2 (ts.map enc))]:=by
 intro m
 induction m with
 | zero=>
  intro i j ts hm hts hji
  refine Mr l s c j i q ts (ZG (by simp;omega) ?_)
  refine⟨by simp[hts];omega,?_⟩
  subst hts
  simp only[Int.toNat_natCast,Nat.zero_add]
  rfl
 | succ m ih=>
  intro i j ts hm hts hji
  have hi':i<ts.length:=by omega
  have hj':j<ts.length:=by omega
  refine Mr l s c j i q ts ?_
  simp only[Bl enc hi',Bl enc hj']
  refine ZA (by simp;omega) ⟨by simp;omega,by simp;omega,rfl,?_⟩
  rw[QD,d0v hi']
  by_cases hz:ts[i].c=0
  ·refine ZG (by show ¬ (ts[i].c != 0)=true;simp[hz]) ?_
   rw[next (by omega),if_pos hz]
   exact ih (i+1) j ts (by omega) hts (by omega)
  ·refine ZA (by show(ts[i].c != 0)=true;simp[hz]) ⟨by simp;omega,by simp;omega,rfl,by simp;omega,?_,?_⟩
   ·simp only[List.length_map,hts,beq_self_eq_true,Bool.true_and,Nat.zero_add,Int.toNat_natCast,decide_eq_true (show j<q by omega)]
    rfl
   ·rw[Nat.zero_add,Int.toNat_natCast,b8i,next (by omega),next (by omega),if_neg hz]
    exact ih (i+1) (j+1) (ts.set j ts[i]) (by omega) (by simp[hts]) (by omega)
theorem BO(l:Lin)(s:List UInt8)(c:Int)(o:List Coef)(ho:o.length<=2000000):
  At Yg 0 (Zq 0 Z5 (fun r=>r=Qz (Gb l.k o) 0 [])) Z6 1 100 [(6,.ptr 0 0),(7,.ptr 1 0),(11,.pv (.int .i64 0)),(12,.pv (.int .i64 0))] [.obj (.box [.pv (.int .i64 0),.pv (.sl 0 true [])]),.obj (.box [.pv (.int .i64 l.k),.row 2 o.length 0 o.length]),.obj (.row false 61 2 (o.map enc))]:=
 b9r l s c o.length ho o.length 0 0 o (by omega) rfl (by omega)
theorem c0n(l:Lin)(s:List UInt8)(c:Int)(hl:l.t.length<=1000000): ∀ (m i:Nat) (p:Bool) (q:Nat) (ts:List Coef),m+i=l.t.length->q=ts.length->(p=false->ts.length<=i)->ts.length<=i+1 ->
  At Yg 0 (Zq 0 Z5 (fun r=>r=Qz (Gb l.k (ts++We ⟨s⟩ c p (l.t.drop i))) 0 [])) Z6 0 100 [(1,.pv (.str s)),(2,.pv (.int .i64 c)),(3,.ptr 0 0),(6,.ptr 1 0),(7,.ptr 2 0),(8,.pv (.bool p)),(9,.pv (.int .i64 i))]
   [.obj (.box [.pv (.int .i64 l.k),.pv (enc l.t)]),.obj (.box [.pv (.int .i64 0),.pv (.sl 0 true [])]),.obj (.box [.pv (.int .i64 l.k),.row 3 q 0 q]),.obj (.row false 61 2 (ts.map enc))]:=by
 intro m
 induction m with
 | zero=>
  intro i p q ts hm hq h1 h2
  refine Ni l s c p i q ts (ZG (YY (by omega)) ?_)
  rw[List.drop_of_length_le (show l.t.length<=i by omega)]
  refine Xt (fun hp=> ?_) fun hp=> ?_
  ·subst hp
   refine⟨by simp[hq];omega,?_⟩
   have h:=BO l s c (ts++[⟨⟨s⟩,c⟩]) (by simp;omega)
   rw[List.map_append,List.length_append,<- hq]at h
   rw[We]
   exact h
  ·subst hp
   have h:=BO l s c ts (by omega)
   rw[<- hq]at h
   rw[We,if_pos rfl,List.append_nil]
   exact h
 | succ m ih=>
  intro i p q ts hm hq h1 h2
  have hlt:i<l.t.length:=by omega
  refine Ni l s c p i q ts (ZA (Yy hlt) ⟨Zn hlt rfl,Zu hlt ?_⟩)
  rw[List.drop_eq_getElem_cons hlt,next (by omega)]
  have key : ∀ (p':Bool) (add:List Coef),add.length<=2->(p'=false->(ts++add).length<=i+1)->(ts++add).length<=i+2->ts++We ⟨s⟩ c p (l.t[i]::l.t.drop (i+1))=(ts++add)++We ⟨s⟩ c p' (l.t.drop (i+1)) ->
    At Yg 0 (Zq 0 Z5 (fun r=>r=Qz (Gb l.k (ts++We ⟨s⟩ c p (l.t[i]::l.t.drop (i+1)))) 0 [])) Z6 0 100 [(1,.pv (.str s)),(2,.pv (.int .i64 c)),(3,.ptr 0 0),(6,.ptr 1 0),(7,.ptr 2 0),(8,.pv (.bool p')),(9,.pv (.int .i64 ((i+1:Nat):Int)))]
     [.obj (.box [.pv (.int .i64 l.k),.pv (enc l.t)]),.obj (.box [.pv (.int .i64 0),.pv (.sl 0 true [])]),.obj (.box [.pv (.int .i64 l.k),.row 3 (q+add.length) 0 (q+add.length)]),.obj (.row false 61 2 (ts.map enc++add.map enc))]:=by
   intro p' add h3 h4 h5 h6
   rw[h6,<- List.map_append]
   exact ih (i+1) p' (q+add.length) (ts++add) (by omega) (by simp[hq]) h4 h5
  generalize l.t[i]=y at key ⊢
  obtain⟨⟨yv⟩,yc⟩:=y
  subst hq
  refine Xt (fun hp=> ?_) fun hp=> ?_
  ·subst hp
   have hle:=h1 rfl
   refine Xt (fun hb=> ?_) fun hb=> ?_
   ·have hb:(Op.bytesLess yv s||yv==s)=false:=hb
    have hlt2:s<yv:=by
     simp only[YH,Bool.or_eq_false_iff,decide_eq_false_iff_not,beq_eq_false_iff_ne]at hb
     exact tri hb.1 hb.2
    have hne : ¬ yv=s:=fun e=>by rw[e]at hlt2;exact List.lt_irrefl _ hlt2
    refine⟨by simp;omega,Ko (fun h=>absurd h hne) fun _=>⟨by simp;omega,?_⟩⟩
    have:=key true [⟨⟨s⟩,c⟩,⟨⟨yv⟩,yc⟩] (by simp) (fun h=>by cases h) (by simp;omega) (by rw[Dc,if_pos hlt2];simp)
    rw[List.append_assoc]
    exact this
   ·have hb:(Op.bytesLess yv s||yv==s)=true:=hb
    have hnl : ¬ s<yv:=by
     simp only[YH,Bool.or_eq_true,decide_eq_true_eq,beq_iff_eq]at hb
     rcases hb with h|h
     ·exact List.lt_asymm h
     ·rw[h];exact List.lt_irrefl _
    refine Ko (fun h=> ?_) fun h=> ?_
    ·have h:yv=s:=h
     subst h
     refine⟨by simp;omega,?_⟩
     exact key true [⟨⟨yv⟩,XI (yc+c)⟩] (by simp) (fun h=>by cases h) (by simp;omega) (by rw[Dc,if_neg hnl,if_pos rfl];simp)
    ·have h:yv≠s:=h
     refine⟨by simp;omega,?_⟩
     exact key false [⟨⟨yv⟩,yc⟩] (by simp) (fun _=>by simp;omega) (by simp;omega) (by rw[Dc,if_neg hnl,if_neg (by rw[GN];exact h)];simp)
  ·subst hp
   refine Ko (fun h=> ?_) fun h=> ?_
   ·have h:yv=s:=h
    subst h
    refine⟨by simp;omega,?_⟩
    exact key true [⟨⟨yv⟩,XI (yc+c)⟩] (by simp) (fun h=>by cases h) (by simp;omega) (by rw[b0g,if_pos rfl];simp)
   ·have h:yv≠s:=h
    refine⟨by simp;omega,?_⟩
    exact key true [⟨⟨yv⟩,yc⟩] (by simp) (fun h=>by cases h) (by simp;omega) (by rw[b0g,if_neg (by rw[GN];exact h)];simp)
theorem b3a(l:Lin)(s:List UInt8)(c:Int)(hl:l.t.length<=1000000):Ze Yg 0 (Zq 0 Z5 (fun r=>r=Qz (Ws l ⟨s⟩ c) 0 [])) Z6 [] (Y5 a0x [.pv (enc l),.pv (.str s),.pv (enc c)] []):=by
 refine d2l l s c (b3e l s c false 0 ?_)
 show if _ then _ else(if _ then At Yg 0 (Zq 0 Z5 (fun r=>r=Qz (Gb l.k (We ⟨s⟩ c false l.t)) 0 [])) _ _ _ _ _ else _)
 by_cases h0:l.t=[]
 ·refine ZG (by simp[h0]) (ZA rfl ?_)
  have h:=BO l s c [⟨⟨s⟩,c⟩] (by simp)
  rw[h0,We]
  exact h
 ·have hlt:0<l.t.length:=List.length_pos_iff.2 h0
  refine ZA (by simp;omega) ⟨by simp[Enc.sz];omega,Zu hlt ?_⟩
  have ed:l.t=l.t[0]::l.t.drop 1:=by
   have:=List.drop_eq_getElem_cons hlt
   rwa [List.drop_zero]at this
  have key : ∀ (p':Bool) (add:List Coef),add.length<=2->(p'=false->add.length<=1)->We ⟨s⟩ c false (l.t[0]::l.t.drop 1)=add++We ⟨s⟩ c p' (l.t.drop 1) ->
    At Yg 0 (Zq 0 Z5 (fun r=>r=Qz (Gb l.k (We ⟨s⟩ c false l.t)) 0 [])) Z6 0 100 [(1,.pv (.str s)),(2,.pv (.int .i64 c)),(3,.ptr 0 0),(6,.ptr 1 0),(7,.ptr 2 0),(8,.pv (.bool p')),(9,.pv (.int .i64 ((0+1:Nat):Int)))]
     [.obj (.box [.pv (.int .i64 l.k),.pv (enc l.t)]),.obj (.box [.pv (.int .i64 0),.pv (.sl 0 true [])]),.obj (.box [.pv (.int .i64 l.k),.row 3 add.length 0 add.length]),.obj (.row false 61 2 (add.map enc))]:=by
   intro p' add h3 h4 h6
   have h7:We ⟨s⟩ c false l.t=add++We ⟨s⟩ c p' (l.t.drop 1):=by rw[<- h6,<- ed]
   rw[h7]
   exact c0n l s c hl (l.t.length - 1) (0+1) p' add.length add (by omega) rfl (fun h=>h4 h) (by omega)
  rw[show IntKind.wrap IntKind.i64 (0+1)=((0+1:Nat):Int)from rfl]
  generalize l.t[0]=y at key ⊢
  obtain⟨⟨yv⟩,yc⟩:=y
  refine ZA rfl ?_
  refine Xt (fun hb=> ?_) fun hb=> ?_
  ·have hb:(Op.bytesLess yv s||yv==s)=false:=hb
   have hlt2:s<yv:=by
    simp only[YH,Bool.or_eq_false_iff,decide_eq_false_iff_not,beq_eq_false_iff_ne]at hb
    exact tri hb.1 hb.2
   have hne : ¬ yv=s:=fun e=>by rw[e]at hlt2;exact List.lt_irrefl _ hlt2
   refine Ko (fun h=>absurd h hne) fun _=> ?_
   exact key true [⟨⟨s⟩,c⟩,⟨⟨yv⟩,yc⟩] (by simp) (fun h=>by cases h) (by rw[Dc,if_pos hlt2];simp)
  ·have hb:(Op.bytesLess yv s||yv==s)=true:=hb
   have hnl : ¬ s<yv:=by
    simp only[YH,Bool.or_eq_true,decide_eq_true_eq,beq_iff_eq]at hb
    rcases hb with h|h
    ·exact List.lt_asymm h
    ·rw[h];exact List.lt_irrefl _
   refine Ko (fun h=> ?_) fun h=> ?_
   ·have h:yv=s:=h
    subst h
    exact key true [⟨⟨yv⟩,XI (yc+c)⟩] (by simp) (fun h=>by cases h) (by rw[Dc,if_neg hnl,if_pos rfl];simp)
   ·have h:yv≠s:=h
    exact key false [⟨⟨yv⟩,yc⟩] (by simp) (fun _=>by simp) (by rw[Dc,if_neg hnl,if_neg (by rw[GN];exact h)];simp)
theorem b4z: ∀ args os,QQ args os=true->Ze Yg os.length (Zq os.length Z5 fun r=>r=QS args os) Z6 [] (Y5 a0x args os):=by
 intro args os h
 unfold QQ at h
 split at h
 ·rename_i l s c
  simp only[Bool.and_eq_true,decide_eq_true_eq]at h
  obtain⟨hl,h1⟩:=h
  obtain⟨l,rfl⟩:=YG hl
  rw[Enc.dec_enc]at h1
  have ev:QS [.pv (enc l),.pv (.str s),.pv (.int .i64 c)] []=Qz (Ws l ⟨s⟩ c) 0 []:=by
   show Qz (Ws (dec (enc l:PV)) ⟨s⟩ c) 0 []=_
   rw[Enc.dec_enc]
  rw[ev]
  exact b3a l s c h1
 ·cases h
theorem d1v(r:LR):OP r.k r.w (r.ts.map enc)=r.view:=by
 unfold OP
 rw[show(dec (PV.sl 2 false (r.ts.map enc)):List Coef)=r.ts from Enc.dec_enc r.ts]
 rfl
theorem d2y(ts:List Coef):WN (List Coef) (.sl 2 false (ts.map enc))=true:=ZR (α:=List Coef) ts
def b7j(k:Int)(o:LR)(t:Coef):LR:=Ws o.view t.v (XI (k*t.c))
theorem d2c(l:Lin)(s:Str)(c:Int):(Ws l s c).w<=(Ws l s c).ts.length∧(Ws l s c).w<=l.t.length+1:=by
 have h1:=d9o l.k (We s c false l.t)
 have h2:=c8r l.k (We s c false l.t)
 have h3:=Bt s c l.t
 exact⟨by show(Gb _ _).w<=(Gb _ _).ts.length;omega,by show(Gb _ _).w<=_;omega⟩
theorem EK(l x:Lin)(k:Int)(hx:x.t.length<=500000): ∀ (m i:Nat) (r:LR),m+i=x.t.length->r.w<=r.ts.length->r.w<=500000+i ->
  At Qn 0 (Zq 0 Ud (fun z=>z=Qz ((x.t.drop i).foldl (b7j k) r) 0 [])) Ub 0 45 [(2,.pv (.int .i64 k)),(4,.ptr 0 0),(6,.ptr 1 0),(7,.ptr 2 0),(8,.pv (.int .i64 i))] [.obj (.box [.pv (.int .i64 x.k),.pv (enc x.t)]),.obj (.box [.pv (.int .i64 0),.pv (.sl 0 true [])]),.obj (.box [.pv (.int .i64 r.k),.row 3 r.ts.length 0 r.w]),.obj (.row false 61 2 (r.ts.map enc))]:=by
 intro m
 induction m with
 | zero=>
  intro i r hi hw ho
  refine TS l x k r.k r.ts.length r.w r.ts i (ZG (YY (by omega)) ?_)
  rw[List.drop_of_length_le (show x.t.length<=i by omega)]
  rfl
 | succ m ih=>
  intro i r hi hw ho
  have hlt:i<x.t.length:=by omega
  refine TS l x k r.k r.ts.length r.w r.ts i (ZA (Yy hlt) ⟨Zn hlt rfl,Zu hlt ⟨Zn hlt rfl,Zu hlt ⟨?_,?_⟩⟩⟩)
  ·show(WN (List Coef) (.sl 2 false (r.ts.map enc))&&(r.ts.map (enc:Coef->PV)).length==r.ts.length&&decide (r.w<=r.ts.length)&&decide (r.w<=1000000))=true
   rw[d2y,List.length_map,decide_eq_true hw,decide_eq_true (show r.w<=1000000 by omega)]
   simp
  ·rw[d1v,List.drop_eq_getElem_cons hlt,List.foldl_cons,next (by omega)]
   have hp:=d2c r.view x.t[i].v (XI (k*x.t[i].c))
   have hv:r.view.t.length<=r.w:=by show(r.ts.take r.w).length<=_;simp;omega
   exact ih (i+1) (b7j k r x.t[i]) (by omega) hp.1 (by have:=hp.2;show(Ws r.view x.t[i].v (XI (k*x.t[i].c))).w<=_;omega)
theorem a3r(l x:Lin)(k:Int)(hl:l.t.length<=500000)(hx:x.t.length<=500000):Ze Qn 0 (Zq 0 Ud (fun z=>z=Qz (JA l x k) 0 [])) Ub [] (Y5 NW [.pv (enc l),.pv (enc x),.pv (enc k)] []):=by
 refine b9z l x k ⟨by simp[Enc.sz],by simp;omega,?_⟩
 have hq:(0+List.length (List.map (enc:Coef->PV) l.t))=l.t.length:=by simp
 rw[hq,List.nil_append]
 have h:=EK l x k hx x.t.length 0 ⟨XI (l.k+XI (k*x.k)),l.t.length,l.t⟩ (by omega) (Nat.le_refl _) (by show l.t.length<=_;omega)
 exact h
theorem a5e: ∀ args os,J5 args os=true->Ze Qn os.length (Zq os.length Ud fun r=>r=GU args os) Ub [] (Y5 NW args os):=by
 intro args os h
 unfold J5 at h
 split at h
 ·rename_i l x k
  simp only[Bool.and_eq_true,decide_eq_true_eq]at h
  obtain⟨⟨⟨hl,hx⟩,h1⟩,h2⟩:=h
  obtain⟨l,rfl⟩:=YG hl
  obtain⟨x,rfl⟩:=YG hx
  rw[Enc.dec_enc]at h1 h2
  have ev:GU [.pv (enc l),.pv (enc x),.pv (.int .i64 k)] []=Qz (JA l x k) 0 []:=by
   show Qz (JA (dec (enc l:PV)) (dec (enc x:PV)) k) 0 []=_
   rw[Enc.dec_enc,Enc.dec_enc]
  rw[ev]
  exact a3r l x k h1 h2
 ·cases h
theorem Q0.rfl(ps:List PV):Q0 ps ps:=⟨Eq.refl _,fun j x y hx hy Φ v h=>by rw[hx]at hy;cases hy;exact h⟩
theorem c8u{pre:List AV->List AObj->Bool}{val:List AV->List AObj->AV×List AObj×List AObj}{a b c:PV}{r:LR}{o:AObj}(h1:pre [.pv a,.pv b,.pv c] []=true)(h2:val [.pv a,.pv b,.pv c] []=Qz r 0 []):
  (Bg 1 pre val [.pv a,.pv b,.pv c]).run [.obj o,.fresh]=some (r.av 1,[.obj o,.obj r.ob]):=by
 have H : ∀ (t:Bool) (v:AV×List AObj×List AObj),t=true->v=Qz r 0 []->(HM.req t (match v with
   | (x,os,ext)=>match x.ren (bwd [] 1),Jk (bwd [] 1) os,Jk (bwd [] 1) ext with
    | some x',some os',some ext'=>if os'.length=([]:List Nat).length then R6 (([]:List Nat).zip os') (TU 1 ext' (.ret x'))else .fail
    | _,_,_=>.fail)).run [.obj o,.fresh]=some (r.av 1,[.obj o,.obj r.ob]):=by
  rintro _ _ rfl rfl
  rfl
 exact H _ _ h1 h2
theorem c1x(fz:Bool)(ty:Nat)(xs:List PV)(r:LR):PK 1 (H7 256 (List.range 1++J8 [r.av 1]) [] [.obj (.row fz ty 2 xs),.obj r.ob]) [r.av 1] [.obj (.row fz ty 2 xs),.obj r.ob]=some ([r.av 1],[.row fz ty 2 xs,r.ob]):=by
 obtain⟨k,w,ts⟩:=r
 rfl
theorem b5i{P:Program}{f:Nat}(h:Yu P f QQ QS):Yu P f KY GG:=by
 refine Yu.thaw h fun args os hp=> ?_
 unfold KY at hp
 split at hp
 ·rename_i k q w s c fz ty xs
  simp only[Bool.and_eq_true,decide_eq_true_eq,beq_iff_eq]at hp
  obtain⟨⟨⟨hc,hq⟩,hw⟩,hw2⟩:=hp
  obtain⟨ts,e⟩:=YG hc
  have e:xs=ts.map enc:=by cases e;rfl
  subst e
  have hq:ts.length=q:=by simpa using hq
  subst hq
  have ed:(dec (PV.sl 2 false (ts.map enc)):List Coef)=ts:=Enc.dec_enc ts
  have ev:GG [.agg [.pv (.int .i64 k),.row 0 ts.length 0 w],.pv (.str s),.pv (.int .i64 c)] [.row fz ty 2 (ts.map enc)]=Qz (Ws ⟨k,ts.take w⟩ ⟨s⟩ c) 1 [.row true ty 2 (ts.map enc)]:=by
   show Qz (Ws ⟨k,List.take w (dec (PV.sl 2 false (ts.map enc)):List Coef)⟩ ⟨s⟩ c) 1 _=_
   rw[ed]
  rw[ev]
  have e2:(.sl 2 false (List.drop 0 (List.take w (List.map (enc:Coef->PV) ts))):PV)=enc (ts.take w):=by rw[List.drop_zero,<- List.map_take];rfl
  have hcan:QQ [.pv (.agg [.int .i64 k,.sl 2 false (List.drop 0 (List.take w (List.map (enc:Coef->PV) ts)))]),.pv (.str s),.pv (.int .i64 c)] []=true:=by
   rw[e2]
   show(WN Lin (enc (⟨k,ts.take w⟩:Lin))&&decide ((dec (enc (⟨k,ts.take w⟩:Lin):PV):Lin).t.length<=1000000))=true
   rw[ZR,Enc.dec_enc]
   simp;omega
  have hval:QS [.pv (.agg [.int .i64 k,.sl 2 false (List.drop 0 (List.take w (List.map (enc:Coef->PV) ts)))]),.pv (.str s),.pv (.int .i64 c)] []=Qz (Ws ⟨k,ts.take w⟩ ⟨s⟩ c) 0 []:=by
   rw[e2]
   show Qz (Ws (dec (enc (⟨k,ts.take w⟩:Lin):PV)) ⟨s⟩ c) 0 []=_
   rw[Enc.dec_enc]
  generalize Ws ⟨k,ts.take w⟩ ⟨s⟩ c=r at hval ⊢
  generalize hsl:List.drop 0 (List.take w (List.map (enc:Coef->PV) ts))=sl at hcan hval
  have hl:(List.map (enc:Coef->PV) ts).length=ts.length:=by simp
  generalize List.map (enc:Coef->PV) ts=xs at hl hsl ⊢
  rw[<- hl]
  refine⟨1,[.agg [.int .i64 k,.sl 2 false sl],.str s,.int .i64 c],[.agg [.int .i64 k,.sl 2 false sl],.str s,.int .i64 c],[.obj (.row true ty 2 xs),.fresh],r.av 1,[.obj (.row true ty 2 xs),.obj r.ob],r.av 1,[.row true ty 2 xs,r.ob],Q0.rfl _,?_,?_,?_,rfl⟩
  ·subst hsl
   simp[QN,He,HM.bind,HM.run,Xo,HM.req]
   done
  ·exact c8u hcan hval
  ·exact c1x true ty xs r
 ·cases hp
theorem LR.frz_av(r:LR):(He (r.av 0)).run (Xo [r.ob])=some (enc r.view,[.obj (.row true 61 2 (r.ts.map enc))]):=by
 have:(PV.agg [.int .i64 r.k,.sl 2 false (List.drop 0 (List.take r.w (r.ts.map enc)))])=enc r.view:=by
  rw[List.drop_zero,<- List.map_take];rfl
 rw[<- this]
 simp[He,QN,HM.bind,HM.run,Xo,LR.av,LR.ob]
theorem b6o{P:Program}{f:Nat}(h:Yu P f QQ QS):Zt P f (fun x:Lin×Str×Int×Unit=>decide (x.1.t.length<=1000000)) (fun x:Lin×Str×Int×Unit=>Wu x.1 x.2.1 x.2.2.1):=Zt.of_own h fun a ha=>by
 obtain⟨l,⟨s⟩,c,⟨⟩⟩:=a
 have ha:l.t.length<=1000000:=by simpa using ha
 refine⟨(Ws l ⟨s⟩ c).av 0,[(Ws l ⟨s⟩ c).ob],_,_,?_,?_,LR.frz_av _,?_⟩
 ·show(WN Lin (enc l)&&decide ((dec (enc l:PV):Lin).t.length<=1000000))=true
  rw[ZR,Enc.dec_enc,decide_eq_true ha];rfl
 ·show Qz (Ws (dec (enc l:PV)) ⟨s⟩ c) 0 []=_
  rw[Enc.dec_enc];rfl
 ·rw[RX];exact .refl _
theorem a7a{P:Program}{f:Nat}(h:Yu P f J5 GU):Zt P f (fun x:Lin×Lin×Int×Unit=>decide (x.1.t.length<=500000)&&decide (x.2.1.t.length<=500000)) (fun x:Lin×Lin×Int×Unit=>Uy x.1 x.2.1 x.2.2.1):=Zt.of_own h fun a ha=>by
 obtain⟨l,x,k,⟨⟩⟩:=a
 have ha:l.t.length<=500000∧x.t.length<=500000:=by simpa using ha
 refine⟨(JA l x k).av 0,[(JA l x k).ob],_,_,?_,?_,LR.frz_av _,?_⟩
 ·show(WN Lin (enc l)&&WN Lin (enc x)&&decide ((dec (enc l:PV):Lin).t.length<=500000)&&decide ((dec (enc x:PV):Lin).t.length<=500000))=true
  rw[ZR,ZR,Enc.dec_enc,Enc.dec_enc,decide_eq_true ha.1,decide_eq_true ha.2];rfl
 ·show Qz (JA (dec (enc l:PV)) (dec (enc x:PV)) k) 0 []=_
  rw[Enc.dec_enc,Enc.dec_enc];rfl
 ·rw[O7];exact .refl _
structure BoxT where
 v:List Str
 m:Int
 deriving DecidableEq
instance:Enc BoxT where
 sz:=2
 enc x:=.agg [enc x.v,enc x.m]
 dec | .agg [a,b]=>⟨dec a,dec b⟩|_=>⟨[],0⟩
 is | .agg [a,b]=>is (List Str) a&&is Int b|_=>false
 is_enc v:=by simp
 dec_enc v:=by simp
 sub p h:=by
  cases p with
  | agg xs=>
   match xs,h with
   | [a,b],h=>
    simp only[Bool.and_eq_true]at h
    exact .agg (.cons (Enc.sub a h.1).2 (.cons (Enc.sub b h.2).2 .nil))
  | _=>cases h
@[simp] theorem e2n (a b : PV) : is BoxT (.agg [a, b]) = (is (List Str) a && is Int b) := rfl
@[simp] theorem e1l (a b : PV) : (dec (.agg [a, b]) : BoxT) = ⟨dec a, dec b⟩ := rfl
structure Mono where
 c:Int
 v:List Str
 deriving DecidableEq
instance:Enc Mono where
 sz:=2
 enc x:=.agg [enc x.c,enc x.v]
 dec | .agg [a,b]=>⟨dec a,dec b⟩|_=>⟨0,[]⟩
 is | .agg [a,b]=>is Int a&&is (List Str) b|_=>false
 is_enc v:=by simp
 dec_enc v:=by simp
 sub p h:=by
  cases p with
  | agg xs=>
   match xs,h with
   | [a,b],h=>
    simp only[Bool.and_eq_true]at h
    exact .agg (.cons (Enc.sub a h.1).2 (.cons (Enc.sub b h.2).2 .nil))
  | _=>cases h
@[simp] theorem e2s (a b : PV) : is Mono (.agg [a, b]) = (is Int a && is (List Str) b) := rfl
@[simp] theorem e2c (a b : PV) : (dec (.agg [a, b]) : Mono) = ⟨dec a, dec b⟩ := rfl
structure NilS where
 deriving DecidableEq
instance:Enc NilS where
 sz:=1
 enc _:=.sl 0 true []
 dec _:=⟨⟩
 is | .sl 0 true []=>true|_=>false
 is_enc _:=rfl
 dec_enc _:=rfl
 sub p h:=by
  cases p with
  | sl s t xs=>
   cases xs with
   | nil=>cases s with
    | zero=>cases t with
     | true=>exact .refl _
     | false=>cases h
    | succ s=>cases h
   | cons x xs=>cases s <;> cases t <;> cases h
  | _=>cases h
def Zr{α:Type}(l:List α):Bool:=decide (l.length<=9223372036854775807)
def XW(l:List Str):Bool:=Zr l&&l.all fun s=>decide (s.s.length<=281474976710656)
def ZJ(b:BoxT):Bool:=XW b.v
def DD(m:Int):List Str->Int->Option Int
 | [],n=>some n
 | _::r,n=>if n*(m+1)>20000 then none else DD m r (n*(m+1))
def Xd(b:BoxT):Bool:=b.v.all ZH&&decide b.v.Nodup&&(b.v.isEmpty||decide (b.m<20000))&&decide (0<=b.m)&&(DD b.m b.v 1).isSome
def Zf(vs:List Str)(p:List Int):List Coef:=List.zipWith (fun v n=>⟨v,n⟩) vs p
def Zd(l:Lin):List Str:=l.t.map (·.v)
def Y7(vs:List Str)(ns:List Str):Bool:=ns.all fun s=>vs.contains s
def Zj(b:BoxT)(fs:List Fact)(ok:Bool)(ns:List Str):Int:=
 if !Xd b || !YU fs || !ok then 1 else if Y7 b.v (ns++fs.flatMap fun f=>Zd f.l)then 0 else 7
def Xj(m:Int):Nat->List Int->Option (List Int)
 | 0,_=>none
 | k+1,p=>if p.getD k 0=m then Xj m k (p.set k 0)else some (p.set k (p.getD k 0+1))
def UI(m:Int)(p:List Int):Option (List Int):=Xj m p.length p
def walkP(m:Int):Nat->List Int->List (List Int)
 | 0,_=>[]
 | f+1,p=>p::(match UI m p with|none=>[]|some q=>walkP m f q)
def WS(vs:List Str):List Int:=vs.map fun _=>0
def d8t(b:BoxT):List (List Int):=walkP b.m 20001 (WS b.v)
def XV(vs:List Str)(fs:List Fact)(p:List Int):Bool:=fs.all fun f=>Yx f (Zf vs p)
def Zv(b:BoxT)(fs:List Fact):List (List Int):=(d8t b).filter (XV b.v fs)
def YQ(b:BoxT)(fs:List Fact):List (List Int)×Int:=if Zj b fs true []=0 then(Zv b fs,0)else([],Zj b fs true [])
def Ak(b:BoxT)(fs:List Fact):Int×Int:=(((YQ b fs).1.length:Int),(YQ b fs).2)
def Gy:List AV->List AObj->Bool
 | [.pv (.str s),.ptr 0 0],[.box [.pv v,.pv (.int .i64 m)]]=>WN (List Str) v&&Zr (dec v:List Str)
 | _,_=>false
def SK:List AV->List AObj->AV×List AObj×List AObj
 | [.pv (.str s),_],[.box [.pv v,.pv (.int .i64 m)]]=>(.pv (.bool (!((dec v:List Str).contains ⟨s⟩))),[.box [.pv v,.pv (.int .i64 m)]],[])
 | _,_=>VH
def JV(xs:List PV):List Str:=dec (.sl 1 false xs)
def Px(n m:Nat)(xs:List PV):Bool:=m==n&&xs.length==n&&WN (List Str) (.sl 1 false xs)&&Zr (JV xs)
def Vi(g:Nat):List AV->List AObj->Bool
 | [.row 0 n 0 m,.fn g' [] [.ptr 1 0]],[.row false ty 1 xs,.box [.pv v,.pv (.int .i64 k)]]=>g'==g&&ty==9&&Px n m xs&&WN (List Str) v&&Zr (dec v:List Str)
 | [.pv (.sl 0 true []),.fn g' [] [.ptr 0 0]],[.box [.pv v,.pv (.int .i64 k)]]=>g'==g&&WN (List Str) v&&Zr (dec v:List Str)
 | _,_=>false
def SN:List AV->List AObj->AV×List AObj×List AObj
 | _,[.row fz ty sz xs,.box [.pv v,.pv (.int .i64 k)]]=>(.pv (.int .i64 (ZL (fun s:Str=> !((dec v:List Str).contains s)) (JV xs))),[.row fz ty sz xs,.box [.pv v,.pv (.int .i64 k)]],[])
 | _,[.box [.pv v,.pv (.int .i64 k)]]=>(.pv (.int .i64 (-1)),[.box [.pv v,.pv (.int .i64 k)]],[])
 | _,_=>VH
def LM:List AV->List AObj->AV×List AObj×List AObj
 | _,[.row fz ty sz xs,.box [.pv v,.pv (.int .i64 k)]]=>(.pv (.bool ((JV xs).any fun s=> !((dec v:List Str).contains s))),[.row fz ty sz xs,.box [.pv v,.pv (.int .i64 k)]],[])
 | _,[.box [.pv v,.pv (.int .i64 k)]]=>(.pv (.bool false),[.box [.pv v,.pv (.int .i64 k)]],[])
 | _,_=>VH
def QG:List AV->List AObj->Bool
 | [.pv a],[]=>WN Lin a&& !(dec a:Lin).t.isEmpty&&decide ((dec a:Lin).t.length<=1000000)
 | _,_=>false
def Gr(ns:List Str):AV×List AObj×List AObj:=(.row 0 ns.length 0 ns.length,[],[.row false 9 1 (ns.map enc)])
def Sw(p:PV):Lin:=dec p
def JY:List AV->List AObj->AV×List AObj×List AObj
 | [.pv a],_=>Gr (Zd (Sw a))
 | _,_=>VH
def QI:List AV->List AObj->Bool
 | [.pv a],[]=>WN Lin a&&(dec a:Lin).t.isEmpty
 | _,_=>false
def GH:List AV->List AObj->AV×List AObj×List AObj:=fun _ _=>(.pv (.sl 0 true []),[],[])
def VL:List AV->List AObj->Bool
 | [.pv b,.pv f,.pv (.bool ok),.row 0 n 0 m],[.row false ty 1 xs]=>WN BoxT b&&WN (List Fact) f&&ty==9&&Px n m xs&&decide (n<=1000)&& !xs.isEmpty&&ZJ (dec b)&&Zl (dec f)&&decide ((dec f:List Fact).length<=100)&&decide (xs.length<=1000)
 | _,_=>false
def Oi(p:PV):BoxT:=dec p
def Bh(p:PV):List Fact:=dec p
def ckV(b:BoxT)(fs:List Fact)(ok:Bool)(ns:List Str):List Str:=if !Xd b || !YU fs || !ok then ns else ns++fs.flatMap fun f=>Zd f.l
def QH:List AV->List AObj->AV×List AObj×List AObj
 | [.pv b,.pv f,.pv (.bool ok),_],[.row fz ty sz xs]=>(.pv (.int .i64 (Zj (Oi b) (Bh f) ok (JV xs))),[.row false ty sz ((ckV (Oi b) (Bh f) ok (JV xs)).map enc)],[])
 | _,_=>VH
def Y1:List AV->List AObj->Bool
 | [.pv (.agg [v,.int .i64 m]),.pv f],[]=>WN (List Str) v&&WN (List Fact) f
 | _,_=>false
def XZ:List AV->List AObj->AV×List AObj×List AObj
 | [.pv (.agg [v,.int .i64 m]),.pv f],_=>(.fn 177 [] [.ptr 0 0,.ptr 1 0],[],[.box [.pv v,.pv (.int .i64 m)],.box [.pv f]])
 | _,_=>VH
def PD(xs:List PV):List Int:=dec (.sl 1 false xs)
def WM:List AV->List AObj->Bool
 | [.pv (.agg [v,.int .i64 k]),.row 0 n 0 m],[.row false ty 1 xs]=>m==n&&xs.length==n&&ty==3&&WN (List Int) (.sl 1 false xs)&&WN (List Str) v&&decide ((dec v:List Str).length<=1000)&&decide (n<=1000)
 | _,_=>false
def Qg:List AV->List AObj->AV×List AObj×List AObj
 | [.pv (.agg [v,.int .i64 k]),_],[.row fz ty sz xs]=>(.pv (.sl 2 false ((Zf (dec v) (PD xs)).map enc)),[.row false ty sz xs],[])
 | _,_=>VH
end Go.Pl
namespace Go.Pl
open Go.RowKit
open Enc (enc dec is)
open EncL (encL decL isL)
set_option maxRecDepth 100000
noncomputable def UW:IC:=Wn Proofs.Tryz.f183
def U1:List IRes:=[(.tmp 4)]
abbrev b6i:Nat:=19
def QY:ZU:=Xe []
theorem c1b{G:PV->Prop}(l:List Str)(s:List UInt8)(h:At QY 0 (Za U1 G) UW 0 19 [(0,(Y3 l)),(1,(.pv (.str s))),(7,(Zc (↑(List.length (List.map enc l)):Int))),(8,(Zc 0))] []):Ze QY 0 (Za U1 G) UW [] (Yn 19 [enc l,.str s]):=Ze.tp (.nil) h (by kernel_rfl)
theorem Nv{G:PV->Prop}(l:List Str)(s:List UInt8)(i:Int)(h:if (decide (i<(↑(List.length l):Int)))=true then Vt l i 1∧(Xc l i fun y0:Str=>if (s==PV.asStr (Yp y0))=true then G ((.int .i64 i))else(At QY 0 (Za U1 G) UW 0 19 [(0,(Y3 l)),(1,(.pv (.str s))),(7,(Zc (↑(List.length l):Int))),(8,(Zc (IntKind.wrap IntKind.i64 (i+1))))] []))else(G ((.int .i64 (-1))))):At QY 0 (Za U1 G) UW 0 19 [(0,.pv (enc l)),(1,.pv (.str s)),(7,.pv (.int .i64 l.length)),(8,.pv (.int .i64 i))] []:=At.tp (.lit (.ask (.req (Xa (Str) (ZK 2 (.ask (.nil) (.lit (.nil)))))) (.nil))) h (by kernel_rfl)
noncomputable def Rh:IC:=Wn Proofs.Tryz.f120
def Ps:List IRes:=[(.tmp 4)]
abbrev b9a:Nat:=9
def F3:ZU:=Xe [(183,.pure (preT (fun x:List Str×Str×Unit=>Zr x.1)) (Zw (fun x:List Str×Str×Unit=>ZL (fun s:Str=>decide (s=x.2.1)) x.1)))]
theorem d1f{G:PV->Prop}(l:List Str)(s:List UInt8)(h:(Go.Pl.preT (fun(x:List Str×Str×Unit)=>Zr x.1) [(.sl 1 false (List.map enc l)),(.str s)])=true∧(Yk (fun(x:List Str×Str×Unit)=>ZL (fun(s:Str)=>decide (s=x.2.1)) x.1) [(.sl 1 false (List.map enc l)),(.str s)] fun y0:Int=>G ((.bool (decide (y0 ≥ 0)))))):Ze F3 0 (Za Ps G) Rh [] (Yn 9 [enc l,.str s]):=Ze.tp (.req (Yj (Int) (.lit (.nil)))) h (by kernel_rfl)
noncomputable def UR:IC:=Wn Proofs.Tryz.f50
def UX:List IRes:=[(.tmp 2)]
abbrev b5x:Nat:=46
def Kj:ZU:=Xe [(119,.pure (preT (fun x:Str×Unit=>decide (x.1.s.length<=281474976710656))) (Zw (fun x:Str×Unit=>ZH x.1))),(120,.pure (preT (fun x:List Str×Str×Unit=>Zr x.1)) (Zw (fun x:List Str×Str×Unit=>x.1.contains x.2.1)))]
theorem c7q{G:PV->Prop}(b:BoxT)(h:At Kj 0 (Za UX G) UR 0 46 [(1,(.ptr 0 0)),(3,(Zc 1)),(7,(Y3 b.v)),(8,(Zc (↑(List.length (List.map enc b.v)):Int))),(9,(Zc 0))] [(.obj (.box [(Y3 b.v),(Zc b.m)]))]):Ze Kj 0 (Za UX G) UR [] (Yn 46 [enc b]):=Ze.tp (.nil) h (by kernel_rfl)
theorem Ny{G:PV->Prop}(b:BoxT)(n i:Int)(h:if (decide (i<(↑(List.length b.v):Int)))=true then(decide (0<=i)&&decide (Int.toNat i<List.length (List.map enc b.v))&&Enc.sz Str==1)=true∧(Xc b.v i fun y0:Str=>(Go.Pl.preT (fun(x:Str×Unit)=>decide (List.length (Str.s x.1)<=281474976710656)) [(.str (PV.asStr (Yp y0)))])=true∧(Yk (fun(x:Str×Unit)=>ZH x.1) [(.str (PV.asStr (Yp y0)))] fun y1:Bool=>if (!y1)=true then G ((.bool false))else((true&&decide (0<=i)&&(List.isEmpty (List.map enc b.v)||Enc.sz Str==1)&&decide (0<=Int.toNat i)&&decide (Int.toNat i<=List.length (List.map enc b.v)))=true∧((Go.Pl.preT (fun(x:List Str×Str×Unit)=>Zr x.1) [(.sl 1 false (List.drop 0 (List.take (Int.toNat i) (List.map enc b.v)))),(.str (PV.asStr (Yp y0)))])=true∧(Yk (fun(x:List Str×Str×Unit)=>List.contains x.1 x.2.1) [(.sl 1 false (List.drop 0 (List.take (Int.toNat i) (List.map enc b.v)))),(.str (PV.asStr (Yp y0)))] fun y2:Bool=>if (y2)=true then G ((.bool false))else(if (decide (BoxT.m b<0))=true then G ((.bool false))else(if (decide (BoxT.m b ≥ 20000))=true then G ((.bool false))else(if (decide (IntKind.wrap IntKind.i64 (n*IntKind.wrap IntKind.i64 (BoxT.m b+1))>20000))=true then G ((.bool false))else(At Kj 0 (Za UX G) UR 0 46 [(1,(.ptr 0 0)),(3,(Zc (IntKind.wrap IntKind.i64 (n*IntKind.wrap IntKind.i64 (BoxT.m b+1))))),(7,(Y3 b.v)),(8,(Zc (↑(List.length b.v):Int))),(9,(Zc (IntKind.wrap IntKind.i64 (i+1))))] [(.obj (.box [(Y3 b.v),(Zc b.m)]))])))))))))else(G ((.bool (decide (BoxT.m b ≥ 0)))))):At Kj 0 (Za UX G) UR 0 46 [(1,.ptr 0 0),(3,.pv (.int .i64 n)),(7,.pv (enc b.v)),(8,.pv (.int .i64 b.v.length)),(9,.pv (.int .i64 i))] [.obj (.box [.pv (enc b.v),.pv (.int .i64 b.m)])]:=At.tp (.lit (.ask (.req (Xa (Str) (.lit (.req (Yj (Bool) (.ask (Yo 15) (ZK 3 (.req (ZK 2 (.req (Yj (Bool) (.lit (.ask (Yo 8) (ZK 4 (.ask (Yo 4) (ZK 4 (.ask (.nil) (ZK 3 (.ask (.nil) (.lit (.nil))))))))))))))))))))) (.lit (.nil)))) h (by kernel_rfl)
noncomputable def YX:IC:=Wn Proofs.Tryz.f174
def YV:List IRes:=[(.tmp 2)]
abbrev TV:Nat:=20
def Xm:ZU:=Xe []
theorem a8g{G:AV×List AObj×List AObj->Prop}(l:Lin)(h:At Xm 0 (Zq 0 YV G) YX 0 20 [(3,(.pv (.sl 0 true []))),(7,(ZM l.t)),(8,(Zc (↑(List.length (List.map enc l.t)):Int))),(9,(Zc 0))] []):Ze Xm 0 (Zq 0 YV G) YX [] (Y5 20 [.pv (enc l)] []):=Ze.to (.nil) h (by kernel_rfl)
theorem MW{G:AV×List AObj×List AObj->Prop}(l:Lin)(i:Int)(h:if (decide (i<(↑(List.length l.t):Int)))=true then(decide (0<=i)&&decide (Int.toNat i<List.length (List.map enc l.t))&&Enc.sz Coef==2)=true∧(Xc l.t i fun y0:Coef=>At Xm 0 (Zq 0 YV G) YX 0 20 [(3,(.row 0 1 0 1)),(7,(ZM l.t)),(8,(Zc (↑(List.length l.t):Int))),(9,(Zc (IntKind.wrap IntKind.i64 (i+1))))] [(.obj (.row false 9 1 [(.str (PV.asStr (Yp y0)))]))])else(G (((.pv (.sl 0 true [])),([],[]))))):At Xm 0 (Zq 0 YV G) YX 0 20 [(3,.pv (.sl 0 true [])),(7,.pv (enc l.t)),(8,.pv (.int .i64 l.t.length)),(9,.pv (.int .i64 i))] []:=At.to (.lit (.ask (.req (Xa (Coef) (Yo 7))) (.nil))) h (by kernel_rfl)
theorem N9{G:AV×List AObj×List AObj->Prop}(l:Lin)(i:Int)(q:Nat)(vs:List Str)(h:if (decide (i<(↑(List.length l.t):Int)))=true then(decide (0<=i)&&decide (Int.toNat i<List.length (List.map enc l.t))&&Enc.sz Coef==2)=true∧(Xc l.t i fun y0:Coef=>(List.length (List.map enc vs)==q&&q==q&&decide ((q+List.length (List.drop 0 (List.take 1 [Sh.co Sh.str (Yp y0)])))*16<=1099511627776)&&decide (q+List.length (List.drop 0 (List.take 1 [Sh.co Sh.str (Yp y0)]))<=1099511627776))=true∧(At Xm 0 (Zq 0 YV G) YX 0 20 [(3,(.row 0 (q+List.length (List.drop 0 (List.take 1 [Sh.co Sh.str (Yp y0)]))) 0 (q+List.length (List.drop 0 (List.take 1 [Sh.co Sh.str (Yp y0)]))))),(7,(ZM l.t)),(8,(Zc (↑(List.length l.t):Int))),(9,(Zc (IntKind.wrap IntKind.i64 (i+1))))] [(.obj (.row false 9 1 (List.map enc vs++List.drop 0 (List.take 1 [Sh.co Sh.str (Yp y0)]))))]))else(G (((.row 0 q 0 q),([],[(.row false 9 1 (List.map enc vs))]))))):At Xm 0 (Zq 0 YV G) YX 0 20 [(3,.row 0 q 0 q),(7,.pv (enc l.t)),(8,.pv (.int .i64 l.t.length)),(9,.pv (.int .i64 i))] [.obj (.row false 9 1 (vs.map enc))]:=At.to (.lit (.ask (.req (Xa (Coef) (ZK 3 (.req (.lit (.nil)))))) (.nil))) h (by kernel_rfl)
noncomputable def Lu:IC:=Wn Proofs.Tryz.f176
def Fu:List IRes:=[(.tmp 3)]
abbrev c9a:Nat:=9
def a7y:ZU:=Xe [(120,.pure (preT (fun x:List Str×Str×Unit=>Zr x.1)) (Zw (fun x:List Str×Str×Unit=>x.1.contains x.2.1)))]
theorem d7w{G:AV×List AObj×List AObj->Prop}(s:List UInt8)(b:BoxT)(h:(Go.Pl.preT (fun(x:List Str×Str×Unit)=>Zr x.1) [(.sl 1 false (List.map enc b.v)),(.str s)])=true∧(Yk (fun(x:List Str×Str×Unit)=>List.contains x.1 x.2.1) [(.sl 1 false (List.map enc b.v)),(.str s)] fun y0:Bool=>G (((.pv (.bool !y0)),([(.box [(Y3 b.v),(Zc b.m)])],[]))))):Ze a7y 1 (Zq 1 Fu G) Lu [] (Y5 9 [.pv (.str s),.ptr 0 0] [.box [.pv (enc b.v),.pv (.int .i64 b.m)]]):=Ze.to (.req (Yj (Bool) (.nil))) h (by kernel_rfl)
noncomputable def Q4:IC:=Wn Proofs.Tryz.f238
def KR:List IRes:=[(.tmp 4)]
abbrev d5i:Nat:=19
def Dk:ZU:=Xe [(176,.own Gy SK)]
theorem e0m{G:AV×List AObj×List AObj->Prop}(l:List Str)(n:Nat)(b:BoxT)(h:At Dk 2 (Zq 2 KR G) Q4 0 19 [(0,(.row 0 n 0 n)),(1,(.fn 176 [] [(.ptr 1 0)])),(7,(Zc (↑(n - 0):Int))),(8,(Zc 0))] [(.obj (.row false 9 1 (List.map enc l))),(.obj (.box [(Y3 b.v),(Zc b.m)]))]):Ze Dk 2 (Zq 2 KR G) Q4 [] (Y5 19 [.row 0 n 0 n,.fn 176 [] [.ptr 1 0]] [.row false 9 1 (l.map enc),.box [.pv (enc b.v),.pv (.int .i64 b.m)]]):=Ze.to (.nil) h (by kernel_rfl)
theorem c1m{G:AV×List AObj×List AObj->Prop}(l:List Str)(n:Nat)(b:BoxT)(i:Int)(h:if (decide (i<(↑n:Int)))=true then(decide (0<=i)&&decide (0+Int.toNat i<n)&&List.length (List.map enc l)==n)=true∧((List.length (List.map enc l)==n&&decide (0+Int.toNat i<List.length (List.map enc l)))=true∧((Jz [Sh.str] (PV.cells (List.getD (List.map enc l) (0+Int.toNat i) default)))=true∧((Gy [(.pv (.str (PV.asStr (List.getD (PV.cells (List.getD (List.map enc l) (0+Int.toNat i) default)) 0 default)))),(.ptr 0 0)] [(.box [(Y3 b.v),(Zc b.m)])])=true∧(if (!List.contains (dec (enc b.v)) (Str.mk (PV.asStr (List.getD (PV.cells (List.getD (List.map enc l) (0+Int.toNat i) default)) 0 default))))=true then G (((Zc i),([(.row false 9 1 (List.map enc l)),(.box [(Y3 b.v),(Zc b.m)])],[])))else(At Dk 2 (Zq 2 KR G) Q4 0 19 [(0,(.row 0 n 0 n)),(1,(.fn 176 [] [(.ptr 1 0)])),(7,(Zc (↑n:Int))),(8,(Zc (IntKind.wrap IntKind.i64 (i+1))))] [(.obj (.row false 9 1 (List.map enc l))),(.obj (.box [(Y3 b.v),(Zc b.m)]))])))))else(G (((Zc (-1)),([(.row false 9 1 (List.map enc l)),(.box [(Y3 b.v),(Zc b.m)])],[]))))):At Dk 2 (Zq 2 KR G) Q4 0 19 [(0,.row 0 n 0 n),(1,.fn 176 [] [.ptr 1 0]),(7,.pv (.int .i64 n)),(8,.pv (.int .i64 i))] [.obj (.row false 9 1 (l.map enc)),.obj (.box [.pv (enc b.v),.pv (.int .i64 b.m)])]:=At.to (.lit (.ask (.req (.keep (.req (.req (.req (.keep (.ask (.nil) (.lit (.nil))))))))) (.nil))) h (by kernel_rfl)
noncomputable def RN:IC:=Wn Proofs.Tryz.f175
def MZ:List IRes:=[(.tmp 4)]
abbrev d6b:Nat:=9
def a9f:ZU:=Xe [(238,.own (Vi 176) SN)]
theorem e1m{G:AV×List AObj×List AObj->Prop}(l:List Str)(n:Nat)(b:BoxT)(h:(Vi 176 [(.row 0 n 0 n),(.fn 176 [] [(.ptr 1 0)])] [(.row false 9 1 (List.map enc l)),(.box [(Y3 b.v),(Zc b.m)])])=true∧(G (((.pv (.bool (decide (ZL (fun(s:Str)=> !List.contains (dec (enc b.v)) s) (JV (List.map enc l)) ≥ 0)))),([(.row false 9 1 (List.map enc l)),(.box [(Y3 b.v),(Zc b.m)])],[]))))):Ze a9f 2 (Zq 2 MZ G) RN [] (Y5 9 [.row 0 n 0 n,.fn 176 [] [.ptr 1 0]] [.row false 9 1 (l.map enc),.box [.pv (enc b.v),.pv (.int .i64 b.m)]]):=Ze.to (.req (.keep (.lit (.nil)))) h (by kernel_rfl)
theorem e1t{G:AV×List AObj×List AObj->Prop}(b:BoxT)(h:At Dk 1 (Zq 1 KR G) Q4 0 19 [(0,(.pv (.sl 0 true []))),(1,(.fn 176 [] [(.ptr 0 0)])),(7,(Zc 0)),(8,(Zc 0))] [(.obj (.box [(Y3 b.v),(Zc b.m)]))]):Ze Dk 1 (Zq 1 KR G) Q4 [] (Y5 19 [.pv (.sl 0 true []),.fn 176 [] [.ptr 0 0]] [.box [.pv (enc b.v),.pv (.int .i64 b.m)]]):=Ze.to (.nil) h (by kernel_rfl)
-- IMPOSSIBLE
theorem d6t{G:AV×List AObj×List AObj->Prop}(b:BoxT)(i:Int)(h:if (decide (i<0))=true then(decide (0<=i)&&decide (Int.toNat i<List.length ([]:List PV))&&0==1)=true∧(False)else(G (((Zc (-1)),([(.box [(Y3 b.v),(Zc b.m)])],[]))))):At Dk 1 (Zq 1 KR G) Q4 0 19 [(0,.pv (.sl 0 true [])),(1,.fn 176 [] [.ptr 0 0]),(7,.pv (.int .i64 0)),(8,.pv (.int .i64 i))] [.obj (.box [.pv (enc b.v),.pv (.int .i64 b.m)])]:=At.to (.lit (.ask (.req (.keep (.lit (.nil)))) (.nil))) h (by kernel_rfl)
theorem e1n{G:AV×List AObj×List AObj->Prop}(b:BoxT)(h:(Vi 176 [(.pv (.sl 0 true [])),(.fn 176 [] [(.ptr 0 0)])] [(.box [(Y3 b.v),(Zc b.m)])])=true∧(G (((.pv (.bool false)),([(.box [(Y3 b.v),(Zc b.m)])],[]))))):Ze a9f 1 (Zq 1 MZ G) RN [] (Y5 9 [.pv (.sl 0 true []),.fn 176 [] [.ptr 0 0]] [.box [.pv (enc b.v),.pv (.int .i64 b.m)]]):=Ze.to (.req (.keep (.lit (.nil)))) h (by kernel_rfl)
theorem c7b{G:PV->Prop}(l:Lin)(h:At Xm 0 (Za YV G) YX 0 20 [(3,(.pv (.sl 0 true []))),(7,(ZM l.t)),(8,(Zc (↑(List.length (List.map enc l.t)):Int))),(9,(Zc 0))] []):Ze Xm 0 (Za YV G) YX [] (Yn 20 [enc l]):=Ze.tp (.nil) h (by kernel_rfl)
theorem RB{G:PV->Prop}(l:Lin)(i:Int)(h:if (decide (i<(↑(List.length l.t):Int)))=true then(decide (0<=i)&&decide (Int.toNat i<List.length (List.map enc l.t))&&Enc.sz Coef==2)=true∧(Xc l.t i fun y0:Coef=>At Xm 0 (Za YV G) YX 0 20 [(3,(.row 0 1 0 1)),(7,(ZM l.t)),(8,(Zc (↑(List.length l.t):Int))),(9,(Zc (IntKind.wrap IntKind.i64 (i+1))))] [(.obj (.row false 9 1 [(.str (PV.asStr (Yp y0)))]))])else(G ((.sl 0 true [])))):At Xm 0 (Za YV G) YX 0 20 [(3,.pv (.sl 0 true [])),(7,.pv (enc l.t)),(8,.pv (.int .i64 l.t.length)),(9,.pv (.int .i64 i))] []:=At.tp (.lit (.ask (.req (Xa (Coef) (Yo 7))) (.nil))) h (by kernel_rfl)
theorem TC{G:PV->Prop}(l:Lin)(i:Int)(q:Nat)(vs:List Str)(h:if (decide (i<(↑(List.length l.t):Int)))=true then(decide (0<=i)&&decide (Int.toNat i<List.length (List.map enc l.t))&&Enc.sz Coef==2)=true∧(Xc l.t i fun y0:Coef=>(List.length (List.map enc vs)==q&&q==q&&decide ((q+List.length (List.drop 0 (List.take 1 [Sh.co Sh.str (Yp y0)])))*16<=1099511627776)&&decide (q+List.length (List.drop 0 (List.take 1 [Sh.co Sh.str (Yp y0)]))<=1099511627776))=true∧(At Xm 0 (Za YV G) YX 0 20 [(3,(.row 0 (q+List.length (List.drop 0 (List.take 1 [Sh.co Sh.str (Yp y0)]))) 0 (q+List.length (List.drop 0 (List.take 1 [Sh.co Sh.str (Yp y0)]))))),(7,(ZM l.t)),(8,(Zc (↑(List.length l.t):Int))),(9,(Zc (IntKind.wrap IntKind.i64 (i+1))))] [(.obj (.row false 9 1 (List.map enc vs++List.drop 0 (List.take 1 [Sh.co Sh.str (Yp y0)]))))]))else((List.length (List.map enc vs)==q)=true∧(G ((.sl 1 false (List.drop 0 (List.take q (List.map enc vs)))))))):At Xm 0 (Za YV G) YX 0 20 [(3,.row 0 q 0 q),(7,.pv (enc l.t)),(8,.pv (.int .i64 l.t.length)),(9,.pv (.int .i64 i))] [.obj (.row false 9 1 (vs.map enc))]:=At.tp (.lit (.ask (.req (Xa (Coef) (ZK 3 (.req (.lit (.nil)))))) (.req (.nil)))) h (by kernel_rfl)
noncomputable def XK:IC:=X5
def XL:List IRes:=[(.tmp 2)]
abbrev b4q:Nat:=67
def Wt:ZU:=Xe [(152,.pure (preT (fun _:Str×Str×Unit=>true)) (Zw (fun x:Str×Str×Unit=>x.2.1.s.isPrefixOf x.1.s))),(182,.pure (preT (fun x:Str×Unit=>decide (x.1.s.length<=281474976710656))) (Zw (fun x:Str×Unit=>YW x.1))),(76,.pure (preT (fun x:Int×Unit=>decide (-9223372036854775808<=x.1)&&decide (x.1<=9223372036854775807))) (Zw (fun x:Int×Unit=>a2a x.1)))]
theorem c2x{G:PV->Prop}(s:List UInt8)(h:Yk (fun(x:Str×Str×Unit)=>List.isPrefixOf (Str.s x.2.1) (Str.s x.1)) [(.str s),(.str [(95:UInt8)])] fun y0:Bool=>if (y0)=true then(decide (0<=1)&&true&&decide (Int.toNat 1<=List.length s)&&decide (List.length s<=List.length s))=true∧((Go.Pl.preT (fun(x:Str×Unit)=>decide (List.length (Str.s x.1)<=281474976710656)) [(.str (List.drop (Int.toNat 1) (List.take (List.length s) s)))])=true∧(Yk (fun(x:Str×Unit)=>YW x.1) [(.str (List.drop (Int.toNat 1) (List.take (List.length s) s)))] fun y1:Int×Er=>(PG (enc y1.2)&&Prod.fst (true,PV.bool (Kt (enc y1.2))))=true∧(if (Kt (enc y1.2))=true then if (decide (y1.1>0))=true then if (decide ((↑(List.length s):Int)<=10))=true then(Go.Pl.preT (fun(x:Int×Unit)=>decide ((-9223372036854775808:Int)<=x.1)&&decide (x.1<=9223372036854775807)) [(.int .i64 y1.1)])=true∧(Yk (fun(x:Int×Unit)=>a2a x.1) [(.int .i64 y1.1)] fun y2:Str=>(decide (0<=1)&&true&&decide (Int.toNat 1<=List.length s)&&decide (List.length s<=List.length s))=true∧(G ((.bool (Str.s y2==List.drop (Int.toNat 1) (List.take (List.length s) s))))))else(G ((.bool false)))else(G ((.bool false)))else(G ((.bool false))))))else(At Wt 0 (Za XL G) XK 0 67 [(0,(.pv (.str s))),(34,(.pv (.sl 1 false (ZI s)))),(35,(Zc (↑(List.length (ZI s)):Int))),(36,(Zc 0))] [])):Ze Wt 0 (Za XL G) XK [] (Yn 67 [.str s]):=Ze.tp (.lit (Yj (Bool) (.ask (.req (.req (Yj (Int×Er) (.req (.ask (ZK 3 (.ask (ZK 4 (.ask (.lit (.req (Yj (Str) (ZK 2 (.req (Yo 3)))))) (Yo 5))) (Yo 9))) (Yo 12)))))) (.nil)))) h (by kernel_rfl)
theorem ME{G:PV->Prop}(s:List UInt8)(i:Int)(h:if (decide (i<(↑(List.length (ZI s)):Int)))=true then(decide (0<=i)&&decide (Int.toNat i<List.length (ZI s))&&1==1)=true∧((Jz [Sh.int IntKind.u8] (PV.cells (List.getD (ZI s) (Int.toNat i) default)))=true∧(if (decide (PV.asInt (List.getD (PV.cells (List.getD (ZI s) (Int.toNat i) default)) 0 default)<97))=true then if (i==0)=true then G ((.bool false))else(if (decide (PV.asInt (List.getD (PV.cells (List.getD (ZI s) (Int.toNat i) default)) 0 default)<48))=true then G ((.bool false))else(if (decide (PV.asInt (List.getD (PV.cells (List.getD (ZI s) (Int.toNat i) default)) 0 default)>57))=true then G ((.bool false))else(At Wt 0 (Za XL G) XK 0 67 [(0,(.pv (.str s))),(34,(.pv (.sl 1 false (ZI s)))),(35,(Zc (↑(List.length (ZI s)):Int))),(36,(Zc (IntKind.wrap IntKind.i64 (i+1))))] [])))else(if (decide (PV.asInt (List.getD (PV.cells (List.getD (ZI s) (Int.toNat i) default)) 0 default)>122))=true then if (i==0)=true then G ((.bool false))else(if (decide (PV.asInt (List.getD (PV.cells (List.getD (ZI s) (Int.toNat i) default)) 0 default)<48))=true then G ((.bool false))else(if (decide (PV.asInt (List.getD (PV.cells (List.getD (ZI s) (Int.toNat i) default)) 0 default)>57))=true then G ((.bool false))else(At Wt 0 (Za XL G) XK 0 67 [(0,(.pv (.str s))),(34,(.pv (.sl 1 false (ZI s)))),(35,(Zc (↑(List.length (ZI s)):Int))),(36,(Zc (IntKind.wrap IntKind.i64 (i+1))))] [])))else(At Wt 0 (Za XL G) XK 0 67 [(0,(.pv (.str s))),(34,(.pv (.sl 1 false (ZI s)))),(35,(Zc (↑(List.length (ZI s)):Int))),(36,(Zc (IntKind.wrap IntKind.i64 (i+1))))] []))))else(if (!s==[])=true then G ((.bool (decide ((↑(List.length s):Int)<=30))))else(G ((.bool false))))):At Wt 0 (Za XL G) XK 0 67 [(0,.pv (.str s)),(34,.pv (.sl 1 false (ZI s))),(35,.pv (.int .i64 (ZI s).length)),(36,.pv (.int .i64 i))] []:=At.tp (.lit (.ask (.req (.keep (.req (.lit (.ask (ZK 6 (.ask (Yo 10) (ZK 5 (.ask (Yo 5) (ZK 5 (.ask (.nil) (.lit (.nil)))))))) (ZK 3 (.ask (ZK 3 (.ask (Yo 10) (ZK 5 (.ask (Yo 5) (ZK 5 (.ask (.nil) (.lit (.nil)))))))) (Yo 8)))))))) (.lit (.ask (Yo 4) (Yo 3))))) h (by kernel_rfl)
end Go.Pl
namespace Go.Pl
open Go.RowKit
open Enc (enc dec is)
open EncL (encL decL isL)
theorem Zz{α:Type}{l:List α}:Zr l=true ↔ l.length<=9223372036854775807:=by simp[Zr]
theorem Ei(l:List Str)(s:List UInt8)(hl:l.length<=9223372036854775807): ∀ (m i:Nat),m+i=l.length->(∀ j (h:j<l.length),j<i->decide (l[j]=⟨s⟩)=false) ->
  At QY 0 (Za U1 (Zi (ZL (fun x:Str=>decide (x=⟨s⟩)) l))) UW 0 19 [(0,.pv (enc l)),(1,.pv (.str s)),(7,.pv (.int .i64 l.length)),(8,.pv (.int .i64 i))] []:=by
 intro m
 induction m with
 | zero=>
  intro i hi hno
  refine Nv l s i (ZG (Yt (by omega)) (Ut ?_))
  rw[KG _ _ fun k hk=>hno k hk (by omega)]
 | succ m ih=>
  intro i hi hno
  have hlt:i<l.length:=by omega
  refine Nv l s i (ZA (Yi hlt) ⟨Zn hlt rfl,Zu hlt (Ko (fun h=>Ut ?_) fun h=> ?_)⟩)
  ·have h:s=l[i].s:=h
   rw[Kz (fun x:Str=>decide (x=⟨s⟩)) l i hlt hno (by rw[h];simp)]
  ·have h:s≠l[i].s:=h
   rw[next (by omega)]
   refine ih (i+1) (by omega) fun k hk hki=> ?_
   by_cases e:k=i
   ·subst e;simp only[decide_eq_false_iff_not];intro e;exact h (by rw[e])
   ·exact hno k hk (by omega)
theorem a7g: ∀ a:List Str×Str×Unit,Zr a.1=true->Ze QY 0 (Za U1 (Zi (ZL (fun s:Str=>decide (s=a.2.1)) a.1))) UW [] (Yn b6i (encL a)):=by
 rintro⟨l,⟨s⟩,⟨⟩⟩ h
 have:=Ei l s (Zz.1 h) l.length 0 (by omega) fun j _ h=>by omega
 refine c1b l s ?_
 rw[List.length_map]
 exact this
theorem Oh(l:List Str)(s:Str):l.any (fun x=>decide (x=s))=l.contains s:=by
 rw[List.contains_eq_any_beq]
 congr 1
 funext x
 by_cases h:x=s
 ·subst h;simp
 ·have h2:s≠x:=fun e=>h e.symm
  simp[h,h2]
theorem b1s: ∀ a:List Str×Str×Unit,Zr a.1=true->Ze F3 0 (Za Ps (Zi (a.1.contains a.2.1))) Rh [] (Yn b9a (encL a)):=by
 rintro⟨l,⟨s⟩,⟨⟩⟩ h
 refine d1f l s ⟨Zk (l,⟨s⟩,()) rfl h,Zg (l,⟨s⟩,()) rfl (ZW ?_)⟩
 show decide (ZL (fun x:Str=>decide (x=⟨s⟩)) l ≥ 0)=_
 rw[WE,Oh]
def gvL(m:Int):List Str->List Str->Int->Bool
 | _,[],_=>decide (m ≥ 0)
 | seen,s::r,n=>ZH s&& !seen.contains s&& !decide (m<0)&& !decide (m ≥ 20000)&& !decide (n*(m+1)>20000)&&gvL m (seen++[s]) r (n*(m+1))
theorem c4t(m:Int): ∀ (r seen:List Str) (n:Int),gvL m seen r n=(r.all ZH&&(decide r.Nodup&&r.all fun s=> !seen.contains s)&&(r.isEmpty||decide (m<20000))&&decide (0<=m)&&(DD m r n).isSome)
 | [],seen,n=>by
  simp[gvL,DD]
 | s::r,seen,n=>by
  rw[gvL,c4t m r (seen++[s]) (n*(m+1)),DD]
  have h1:(r.all fun x=> !(seen++[s]).contains x)=((r.all fun x=> !seen.contains x)&& !r.contains s):=by
   induction r with
   | nil=>rfl
   | cons x r ih=>
    simp only[List.all_cons,ih]
    have e1:(seen++[s]).contains x=(seen.contains x||decide (x=s)):=by simp[List.contains_eq_any_beq,List.any_append,Bool.or_comm]
    have e2:(x::r).contains s=(decide (x=s)||r.contains s):=by
     rw[List.contains_cons]
     congr 1
     by_cases h:x=s
     ·subst h;simp
     ·have h2:s≠x:=fun e=>h e.symm
      simp[h,h2]
    rw[e1,e2]
    cases seen.contains x <;> cases decide (x=s) <;> cases r.contains s <;> cases (r.all fun x=> !seen.contains x) <;> rfl
  have h2:decide (s::r).Nodup=(decide r.Nodup&& !r.contains s):=by
   by_cases h:s∈r
   ·simp[List.nodup_cons,h]
   ·simp[List.nodup_cons,h]
  rw[h1,h2]
  by_cases hm:m<0
  ·have e1:decide (0<=m)=false:=by simp;omega
   rw[decide_eq_true hm,e1];simp
  ·have e1:decide (0<=m)=true:=by simp;omega
   by_cases hm2:m ≥ 20000
   ·have e2:decide (m<20000)=false:=by simp;omega
    rw[decide_eq_true hm2,e2];simp
   ·have e2:decide (m<20000)=true:=by simp;omega
    by_cases hn:n*(m+1)>20000
    ·rw[if_pos hn,decide_eq_true hn];simp
    ·rw[if_neg hn,decide_eq_false hn,decide_eq_false hm,decide_eq_false hm2,e1,e2]
     simp only[List.all_cons,List.isEmpty_cons]
     cases ZH s <;> cases seen.contains s <;> cases r.contains s <;> cases r.all ZH <;> cases decide r.Nodup <;> cases (r.all fun x=> !seen.contains x) <;> cases r.isEmpty <;> cases (DD m r (n*(m+1))).isSome <;> rfl
theorem a8n(b:BoxT):gvL b.m [] b.v 1=Xd b:=by
 rw[c4t,Xd]
 have:(b.v.all fun s=> !([]:List Str).contains s)=true:=by simp
 rw[this,Bool.and_true]
theorem b0n{n:Int}(h1 : -9000000000000000000<=n)(h2:n<=9000000000000000000):IntKind.i64.wrap n=n:=Y2 (by omega) (by omega)
theorem a1n(b:BoxT)(hb:ZJ b=true): ∀ (k i:Nat) (n:Int),k+i=b.v.length->1<=n->n<=20000 ->
  At Kj 0 (Za UX (Zi (gvL b.m (b.v.take i) (b.v.drop i) n))) UR 0 46 [(1,.ptr 0 0),(3,.pv (.int .i64 n)),(7,.pv (enc b.v)),(8,.pv (.int .i64 b.v.length)),(9,.pv (.int .i64 i))] [.obj (.box [.pv (enc b.v),.pv (.int .i64 b.m)])]:=by
 simp only[ZJ,XW,Bool.and_eq_true,List.all_eq_true]at hb
 obtain⟨hb1,hb2⟩:=hb
 have hl:=Zz.1 hb1
 intro k
 induction k with
 | zero=>
  intro i n hi h1 h2
  rw[List.drop_of_length_le (by omega)]
  exact Ny b n i (ZG (Yt (by omega)) (ZW rfl))
 | succ k ih=>
  intro i n hi h1 h2
  have hlt:i<b.v.length:=by omega
  have hd:b.v.drop i=b.v[i]::b.v.drop (i+1):=List.drop_eq_getElem_cons hlt
  have ht:b.v.take (i+1)=b.v.take i++[b.v[i]]:=List.take_succ_eq_append_getElem hlt
  have hs:=hb2 _ (List.getElem_mem hlt)
  rw[hd,gvL]
  have et:List.drop 0 (List.take (Int.toNat (i:Int)) (List.map (enc:Str->PV) b.v))=(b.v.take i).map enc:=by rw[List.drop_zero,Int.toNat_natCast,List.map_take]
  refine Ny b n i (ZA (Yi hlt) ⟨Zn hlt rfl,Zu hlt ⟨Zk (b.v[i],()) rfl hs,Zg (b.v[i],()) rfl (Xt (fun h=> ?_) fun h=>⟨by rw[List.length_map,decide_eq_true (show(0:Int)<=(i:Int) by omega),decide_eq_true (show(Int.toNat (i:Int))<=b.v.length by omega)];simp,?_,?_⟩)⟩⟩)
  ·have h:ZH b.v[i]=false:=h
   rw[h];exact ZW rfl
  ·rw[et]
   exact Zk (b.v.take i,b.v[i],()) rfl (Zz.2 (by rw[List.length_take];omega))
  ·rw[et]
   have hn:ZH b.v[i]=true:=h
   rw[hn,Bool.true_and]
   refine Zg (b.v.take i,b.v[i],()) rfl (WP (fun h=> ?_) fun h=>XJ (fun h3=> ?_) fun h3=>XJ (fun h4=> ?_) fun h4=> ?_)
   ·have h:(b.v.take i).contains b.v[i]=true:=h
    rw[h];exact ZW rfl
   ·rw[decide_eq_true h3,show(b.v.take i).contains b.v[i]=false from h];exact ZW rfl
   ·rw[decide_eq_true h4,decide_eq_false h3,show(b.v.take i).contains b.v[i]=false from h];exact ZW rfl
   ·have h:(b.v.take i).contains b.v[i]=false:=h
    have q1:b.m+1<=20000:=by omega
    have q2:1<=b.m+1:=by omega
    have hm:n*(b.m+1)<=20000*20000:=Int.le_trans (Int.mul_le_mul_of_nonneg_left q1 (by omega)) (Int.mul_le_mul_of_nonneg_right h2 (by omega))
    have hm1:1<=n*(b.m+1):=by
     have:=Int.mul_le_mul h1 q2 (by omega) (by omega)
     omega
    rw[b0n (n:=b.m+1) (by omega) (by omega),b0n (n:=n*(b.m+1)) (by omega) (by omega),decide_eq_false h3,decide_eq_false h4,h]
    refine XJ (fun h5=> ?_) fun h5=> ?_
    ·rw[decide_eq_true h5];exact ZW rfl
    ·rw[decide_eq_false h5,next (by omega),<- ht]
     exact ih (i+1) (n*(b.m+1)) (by omega) hm1 (by omega)
theorem a4r: ∀ a:BoxT×Unit,ZJ a.1=true->Ze Kj 0 (Za UX (Zi (Xd a.1))) UR [] (Yn b5x (encL a)):=by
 rintro⟨b,⟨⟩⟩ h
 rw[<- a8n]
 refine c7q b ?_
 have:=a1n b h b.v.length 0 1 (by omega) (by omega) (by omega)
 rw[List.length_map]
 exact this
theorem QU(vs:List Str)(p:List Int){i:Nat}(h1:i<vs.length)(h2:i<p.length):Zf (vs.take (i+1)) (p.take (i+1))=Zf (vs.take i) (p.take i)++[⟨vs[i],p[i]⟩]:=by
 unfold Zf
 rw[List.take_succ_eq_append_getElem h1,List.take_succ_eq_append_getElem h2,List.zipWith_append (by simp[List.length_take];omega)]
 rfl
theorem Ty(vs:List Str)(p:List Int){i:Nat}(h:min vs.length p.length<=i):Zf (vs.take i) (p.take i)=Zf vs p:=by
 unfold Zf
 rw[<- List.take_zipWith]
 exact List.take_of_length_le (by rw[List.length_zipWith];exact h)
theorem Jv(vs:List Str)(p:List Int){i:Nat}(h1:i<=vs.length)(h2:i<=p.length):(Zf (vs.take i) (p.take i)).length=i:=by
 unfold Zf
 rw[List.length_zipWith,List.length_take,List.length_take];omega
end Go.Pl
namespace Go.Pl
open Go.RowKit
open Enc (enc dec is)
open EncL (encL decL isL)
set_option maxRecDepth 100000
noncomputable def YF:IC:=Wn Proofs.Tryz.f116
def YJ:List IRes:=[(.tmp 8)]
abbrev ND:Nat:=38
def YZ:ZU:=Xe [(50,.pure (preT (fun x:BoxT×Unit=>ZJ x.1)) (Zw (fun x:BoxT×Unit=>Xd x.1))),(95,.pure (preT (fun x:List Fact×Unit=>Zl x.1)) (Zw (fun x:List Fact×Unit=>YU x.1))),(174,.pure (preT (fun x:Lin×Unit=>decide (x.1.t.length<=1000000))) (Zw (fun x:Lin×Unit=>Zd x.1))),(175,.own (Vi 176) LM)]
theorem c1t{G:PV->Prop}(b:BoxT)(fs:List Fact)(ok:Bool)(h:(Go.Pl.preT (fun(x:BoxT×Unit)=>ZJ x.1) [(.agg [(.sl 1 false (List.map enc b.v)),(.int .i64 b.m)])])=true∧(Yk (fun(x:BoxT×Unit)=>Xd x.1) [(.agg [(.sl 1 false (List.map enc b.v)),(.int .i64 b.m)])] fun y0:Bool=>if (!y0)=true then G ((.int .i64 1))else((Go.Pl.preT (fun(x:List Fact×Unit)=>Zl x.1) [(.sl 3 false (List.map enc fs))])=true∧(Yk (fun(x:List Fact×Unit)=>YU x.1) [(.sl 3 false (List.map enc fs))] fun y1:Bool=>if (!y1)=true then G ((.int .i64 1))else(if (!ok)=true then G ((.int .i64 1))else(At YZ 0 (Za YJ G) YF 0 38 [(3,(.pv (.sl 0 true []))),(4,(.ptr 0 0)),(23,(.pv (.sl 3 false (List.map enc fs)))),(24,(Zc (↑(List.length (List.map enc fs)):Int))),(25,(Zc 0))] [(.obj (.box [(Y3 b.v),(Zc b.m)]))])))))):Ze YZ 0 (Za YJ G) YF [] (Yn 38 [enc b,enc fs,.bool ok,.sl 0 true []]):=Ze.tp (.req (Yj (Bool) (.ask (Yo 7) (.lit (.req (Yj (Bool) (ZK 2 (.ask (Yo 3) (ZK 2 (.ask (.nil) (.nil))))))))))) h (by kernel_rfl)
theorem Ru{G:PV->Prop}(b:BoxT)(fs:List Fact)(ok:Bool)(i:Int)(h:if (decide (i<(↑(List.length fs):Int)))=true then Vt fs i 3∧(Xc fs i fun y0:Fact=>(Go.Pl.preT (fun(x:Lin×Unit)=>decide (List.length x.1.t<=1000000)) [(.agg [(.int .i64 (PV.asInt (X9 y0))),(.sl 2 false (PV.asXs (List.getD (PV.cells (enc y0)) (0+1+1) default)))])])=true∧(Yk (fun(x:Lin×Unit)=>Zd x.1) [(.agg [(.int .i64 (PV.asInt (X9 y0))),(.sl 2 false (PV.asXs (List.getD (PV.cells (enc y0)) (0+1+1) default)))])] fun y1:List Str=>(List.isEmpty (List.map enc y1)||Enc.sz Str==1)=true∧(if (List.isEmpty (List.map enc y1))=true then At YZ 0 (Za YJ G) YF 0 38 [(3,(.pv (.sl 0 true []))),(4,(.ptr 0 0)),(23,(.pv (.sl 3 false (List.map enc fs)))),(24,(Zc (↑(List.length fs):Int))),(25,(Zc (IntKind.wrap IntKind.i64 (i+1))))] [(.obj (.box [(Y3 b.v),(Zc b.m)]))]else(((List.isEmpty ([]:List PV)||0==1)&&decide ((List.length ([]:List PV)+List.length (List.map enc y1))*16<=1099511627776)&&decide (List.length ([]:List PV)+List.length (List.map enc y1)<=1099511627776))=true∧(At YZ 0 (Za YJ G) YF 0 38 [(3,(.row 0 (List.length ([]:List PV)+List.length (List.map enc y1)) 0 (List.length ([]:List PV)+List.length (List.map enc y1)))),(4,(.ptr 1 0)),(23,(.pv (.sl 3 false (List.map enc fs)))),(24,(Zc (↑(List.length fs):Int))),(25,(Zc (IntKind.wrap IntKind.i64 (i+1))))] [(.obj (.row false 9 1 (([]:List PV)++List.map enc y1))),(.obj (.box [(Y3 b.v),(Zc b.m)]))])))))else((Vi 176 [(.pv (.sl 0 true [])),(.fn 176 [] [(.ptr 0 0)])] [(.box [(Y3 b.v),(Zc b.m)])])=true∧(G ((.int .i64 0))))):At YZ 0 (Za YJ G) YF 0 38 [(3,.pv (.sl 0 true [])),(4,.ptr 0 0),(23,.pv (enc fs)),(24,.pv (.int .i64 fs.length)),(25,.pv (.int .i64 i))] [.obj (.box [.pv (enc b.v),.pv (.int .i64 b.m)])]:=At.tp (.lit (.ask (.req (Xa (Fact) (.lit (.req (Yj (List Str) (.req (.lit (.ask (.lit (.nil)) (.req (.lit (.nil))))))))))) (.req (.keep (.lit (.nil)))))) h (by kernel_rfl)
theorem Po{G:PV->Prop}(b:BoxT)(fs:List Fact)(ok:Bool)(i:Int)(q:Nat)(ns:List Str)(h:if (decide (i<(↑(List.length fs):Int)))=true then Vt fs i 3∧(Xc fs i fun y0:Fact=>(Go.Pl.preT (fun(x:Lin×Unit)=>decide (List.length x.1.t<=1000000)) [(.agg [(.int .i64 (PV.asInt (X9 y0))),(.sl 2 false (PV.asXs (List.getD (PV.cells (enc y0)) (0+1+1) default)))])])=true∧(Yk (fun(x:Lin×Unit)=>Zd x.1) [(.agg [(.int .i64 (PV.asInt (X9 y0))),(.sl 2 false (PV.asXs (List.getD (PV.cells (enc y0)) (0+1+1) default)))])] fun y1:List Str=>(List.isEmpty (List.map enc y1)||Enc.sz Str==1)=true∧((List.length (List.map enc ns)==q&&q==q&&decide ((q+List.length (List.map enc y1))*16<=1099511627776)&&decide (q+List.length (List.map enc y1)<=1099511627776))=true∧(At YZ 0 (Za YJ G) YF 0 38 [(3,(.row 0 (q+List.length (List.map enc y1)) 0 (q+List.length (List.map enc y1)))),(4,(.ptr 1 0)),(23,(.pv (.sl 3 false (List.map enc fs)))),(24,(Zc (↑(List.length fs):Int))),(25,(Zc (IntKind.wrap IntKind.i64 (i+1))))] [(.obj (.row false 9 1 (List.map enc ns++List.map enc y1))),(.obj (.box [(Y3 b.v),(Zc b.m)]))]))))else((Vi 176 [(.row 0 q 0 q),(.fn 176 [] [(.ptr 1 0)])] [(.row false 9 1 (List.map enc ns)),(.box [(Y3 b.v),(Zc b.m)])])=true∧(if (List.any (JV (List.map enc ns)) fun(s:Str)=> !List.contains (dec (enc b.v)) s)=true then G ((.int .i64 7))else(G ((.int .i64 0)))))):At YZ 0 (Za YJ G) YF 0 38 [(3,.row 0 q 0 q),(4,.ptr 1 0),(23,.pv (enc fs)),(24,.pv (.int .i64 fs.length)),(25,.pv (.int .i64 i))] [.obj (.row false 9 1 (ns.map enc)),.obj (.box [.pv (enc b.v),.pv (.int .i64 b.m)])]:=At.tp (.lit (.ask (.req (Xa (Fact) (.lit (.req (Yj (List Str) (.req (.req (.lit (.nil))))))))) (.req (.keep (.ask (.nil) (.nil)))))) h (by kernel_rfl)
theorem b5v{G:AV×List AObj×List AObj->Prop}(b:BoxT)(fs:List Fact)(ok:Bool)(n:Nat)(l:List Str)(h:(Go.Pl.preT (fun(x:BoxT×Unit)=>ZJ x.1) [(.agg [(.sl 1 false (List.map enc b.v)),(.int .i64 b.m)])])=true∧(Yk (fun(x:BoxT×Unit)=>Xd x.1) [(.agg [(.sl 1 false (List.map enc b.v)),(.int .i64 b.m)])] fun y0:Bool=>if (!y0)=true then G (((Zc 1),([(.row false 9 1 (List.map enc l))],[])))else((Go.Pl.preT (fun(x:List Fact×Unit)=>Zl x.1) [(.sl 3 false (List.map enc fs))])=true∧(Yk (fun(x:List Fact×Unit)=>YU x.1) [(.sl 3 false (List.map enc fs))] fun y1:Bool=>if (!y1)=true then G (((Zc 1),([(.row false 9 1 (List.map enc l))],[])))else(if (!ok)=true then G (((Zc 1),([(.row false 9 1 (List.map enc l))],[])))else(At YZ 1 (Zq 1 YJ G) YF 0 38 [(3,(.row 0 n 0 n)),(4,(.ptr 1 0)),(23,(.pv (.sl 3 false (List.map enc fs)))),(24,(Zc (↑(List.length (List.map enc fs)):Int))),(25,(Zc 0))] [(.obj (.row false 9 1 (List.map enc l))),(.obj (.box [(Y3 b.v),(Zc b.m)]))])))))):Ze YZ 1 (Zq 1 YJ G) YF [] (Y5 38 [.pv (enc b),.pv (enc fs),.pv (.bool ok),.row 0 n 0 n] [.row false 9 1 (l.map enc)]):=Ze.to (.req (Yj (Bool) (.ask (Yo 7) (.lit (.req (Yj (Bool) (ZK 2 (.ask (Yo 3) (ZK 2 (.ask (.nil) (.nil))))))))))) h (by kernel_rfl)
theorem Rt{G:AV×List AObj×List AObj->Prop}(b:BoxT)(fs:List Fact)(ok:Bool)(n:Nat)(l:List Str)(i:Int)(q:Nat)(ns:List Str)(h:if (decide (i<(↑(List.length fs):Int)))=true then Vt fs i 3∧(Xc fs i fun y0:Fact=>(Go.Pl.preT (fun(x:Lin×Unit)=>decide (List.length x.1.t<=1000000)) [(.agg [(.int .i64 (PV.asInt (X9 y0))),(.sl 2 false (PV.asXs (List.getD (PV.cells (enc y0)) (0+1+1) default)))])])=true∧(Yk (fun(x:Lin×Unit)=>Zd x.1) [(.agg [(.int .i64 (PV.asInt (X9 y0))),(.sl 2 false (PV.asXs (List.getD (PV.cells (enc y0)) (0+1+1) default)))])] fun y1:List Str=>(List.isEmpty (List.map enc y1)||Enc.sz Str==1)=true∧((List.length (List.map enc ns)==q&&q==q&&decide ((q+List.length (List.map enc y1))*16<=1099511627776)&&decide (q+List.length (List.map enc y1)<=1099511627776))=true∧(At YZ 1 (Zq 1 YJ G) YF 0 38 [(3,(.row 0 (q+List.length (List.map enc y1)) 0 (q+List.length (List.map enc y1)))),(4,(.ptr 1 0)),(23,(.pv (.sl 3 false (List.map enc fs)))),(24,(Zc (↑(List.length fs):Int))),(25,(Zc (IntKind.wrap IntKind.i64 (i+1))))] [(.obj (.row false 9 1 (List.map enc ns++List.map enc y1))),(.obj (.box [(Y3 b.v),(Zc b.m)]))]))))else((Vi 176 [(.row 0 q 0 q),(.fn 176 [] [(.ptr 1 0)])] [(.row false 9 1 (List.map enc ns)),(.box [(Y3 b.v),(Zc b.m)])])=true∧(if (List.any (JV (List.map enc ns)) fun(s:Str)=> !List.contains (dec (enc b.v)) s)=true then G (((Zc 7),([(.row false 9 1 (List.map enc ns))],[])))else(G (((Zc 0),([(.row false 9 1 (List.map enc ns))],[]))))))):At YZ 1 (Zq 1 YJ G) YF 0 38 [(3,.row 0 q 0 q),(4,.ptr 1 0),(23,.pv (enc fs)),(24,.pv (.int .i64 fs.length)),(25,.pv (.int .i64 i))] [.obj (.row false 9 1 (ns.map enc)),.obj (.box [.pv (enc b.v),.pv (.int .i64 b.m)])]:=At.to (.lit (.ask (.req (Xa (Fact) (.lit (.req (Yj (List Str) (.req (.req (.lit (.nil))))))))) (.req (.keep (.ask (.nil) (.nil)))))) h (by kernel_rfl)
noncomputable def LV:IC:=Wn Proofs.Tryz.f117
def Lm:List IRes:=[(.tmp 4)]
abbrev d0g:Nat:=6
def a6k:ZU:=Xe []
theorem d7t{G:AV×List AObj×List AObj->Prop}(b:BoxT)(fs:List Fact)(h:G (((.fn 177 [] [(.ptr 0 0),(.ptr 1 0)]),([],[(.box [(Y3 b.v),(Zc b.m)]),(.box [(.pv (.sl 3 false (List.map enc fs)))])])))):Ze a6k 0 (Zq 0 Lm G) LV [] (Y5 6 [.pv (enc b),.pv (enc fs)] []):=Ze.to (.nil) h (by kernel_rfl)
def KE:IC:=(.block 1 (.reg [V6 20 (l'' [(.sl 1)] (.t 7)) 0,V6 21 (Cr 8) 0,V6 22 (.bslice 34 1 1 (.sl 0 true []) [(0,(.t 21))]) 0,V6 23 (.append 34 1 24 (.t 20) (.t 22)) 1,o'' (.store 1 (.t 7) (.t 23)) 2] none))
def LU:ZU:=Xe [(116,.pure (preT (fun x:BoxT×List Fact×Bool×NilS×Unit=>ZJ x.1&&Zl x.2.1&&decide (x.2.1.length<=100))) (Zw (fun x:BoxT×List Fact×Bool×NilS×Unit=>Zj x.1 x.2.1 x.2.2.1 []))),(117,.own Y1 XZ)]
theorem d2m{G:ZE->Prop}(E:YN)(p:List Int)(vs:List Coef)(h:E 99 ⟨Z4 25 0 [],[(.obj (.box [(.row 1 1 0 1)])),(.obj (.row false 34 1 [(.sl 1 false (List.map enc p))]))]⟩ (fun x S'=>KZ LU E 1 (fun st=>G st.heap) KE 99 x S')):ZF LU E 1 (fun st=>G st.heap) (.inl KE) [.seq (.ext 99 [])] ⟨Z4 25 0 [(7,.ptr 0 0),(8,.pv (enc p)),(18,.pv (enc p)),(19,.pv (enc vs))],[.obj (.box [.pv (.sl 0 true [])])]⟩:=ZF.mh (Yo 5) h (by kernel_rfl)
theorem d2h{G:ZE->Prop}(E:YN)(p:List Int)(vs:List Coef)(n:Nat)(xs:List (List Int))(h:(List.length (List.map enc xs)==n&&n==n&&decide ((n+List.length (List.drop 0 (List.take 1 [enc p])))*24<=1099511627776)&&decide (n+List.length (List.drop 0 (List.take 1 [enc p]))<=1099511627776))=true∧(E 99 ⟨Z4 25 0 [],[(.obj (.box [(.row 1 (n+List.length (List.drop 0 (List.take 1 [enc p]))) 0 (n+List.length (List.drop 0 (List.take 1 [enc p]))))])),(.obj (.row false 34 1 (List.map enc xs++List.drop 0 (List.take 1 [enc p]))))]⟩ (fun x S'=>KZ LU E 2 (fun st=>G st.heap) KE 99 x S'))):ZF LU E 2 (fun st=>G st.heap) (.inl KE) [.seq (.ext 99 [])] ⟨Z4 25 0 [(7,.ptr 0 0),(8,.pv (enc p)),(18,.pv (enc p)),(19,.pv (enc vs))],[.obj (.box [.row 1 n 0 n]),.obj (.row false 34 1 (xs.map enc))]⟩:=ZF.mh (ZK 2 (.req (.nil))) h (by kernel_rfl)
noncomputable def BF:IC:=icx VU Proofs.Tryz.f45
def Am:List IRes:=[(.tmp 4),(.tmp 5)]
abbrev d5o:Nat:=25
def Di:ZU:=Xe [(116,.pure (preT (fun x:BoxT×List Fact×Bool×NilS×Unit=>ZJ x.1&&Zl x.2.1&&decide (x.2.1.length<=100))) (Zw (fun x:BoxT×List Fact×Bool×NilS×Unit=>Zj x.1 x.2.1 x.2.2.1 []))),(117,.own Y1 XZ)]
theorem e1o{G:PV->Prop}(E:YN)(b:BoxT)(fs:List Fact)(h:(Go.Pl.preT (fun(x:BoxT×List Fact×Bool×NilS×Unit)=>ZJ x.1&&Zl x.2.1&&decide (List.length x.2.1<=100)) [(.agg [(.sl 1 false (List.map enc b.v)),(.int .i64 b.m)]),(.sl 3 false (List.map enc fs)),(.bool true),(.sl 0 true [])])=true∧(Yk (fun(x:BoxT×List Fact×Bool×NilS×Unit)=>Zj x.1 x.2.1 x.2.2.1 []) [(.agg [(.sl 1 false (List.map enc b.v)),(.int .i64 b.m)]),(.sl 3 false (List.map enc fs)),(.bool true),(.sl 0 true [])] fun y0:Int=>if (y0 != 0)=true then G ((.tup [(.sl 0 true []),(.int .i64 y0)]))else((Y1 [(.pv (.agg [(.sl 1 false (List.map enc b.v)),(.int .i64 b.m)])),(.pv (.sl 3 false (List.map enc fs)))] [])=true∧(E 0 ⟨Z4 25 0 [(7,(.ptr 0 0)),(8,.undef),(17,(.fn 177 [] [(.ptr 1 0),(.ptr 2 0)])),(18,.undef),(20,.undef),(21,.undef),(22,.undef),(23,.undef)],[(.obj (.box [(.pv (.sl 0 true []))])),(.obj (.box [(Y3 b.v),(Zc b.m)])),(.obj (.box [(.pv (.sl 3 false (List.map enc fs)))]))]⟩ (fun x S'=>KZ Di E 0 (Za Am G) BF 0 x S'))))):ZF Di E 0 (Za Am G) (.inl BF) [] (Yn 25 [enc b,enc fs]):=ZF.mp (.req (Yj (Int) (.lit (.ask (.nil) (.req (.keep (.nil))))))) h (by kernel_rfl)
theorem c9c{G:PV->Prop}(E:YN)(b:BoxT)(fs:List Fact)(h:G ((.tup [(.sl 0 true []),(.int .i64 0)]))):KZ Di E 0 (Za Am G) BF 0 .normal ⟨Z4 25 0 [(7,.ptr 0 0)],[.obj (.box [.pv (.sl 0 true [])])]⟩:=ZF.mp (.nil) h (by kernel_rfl)
theorem d0u{G:PV->Prop}(E:YN)(b:BoxT)(fs:List Fact)(n:Nat)(xs:List (List Int))(h:(List.length (List.map enc xs)==n)=true∧(G ((.tup [(.sl 1 false (List.drop 0 (List.take n (List.map enc xs)))),(.int .i64 0)])))):KZ Di E 0 (Za Am G) BF 0 .normal ⟨Z4 25 0 [(7,.ptr 0 0)],[.obj (.box [.row 1 n 0 n]),.obj (.row false 34 1 (xs.map enc))]⟩:=ZF.mp (.req (.nil)) h (by kernel_rfl)
noncomputable def BQ:IC:=Wn Proofs.Tryz.f47
def AA:List IRes:=[(.tmp 4),(.tmp 5)]
abbrev b5c:Nat:=17
def RG:ZU:=Xe [(45,.pure (preT (fun x:BoxT×List Fact×Unit=>ZJ x.1&&Zl x.2.1&&decide (x.2.1.length<=100)&&decide (x.1.v.length<=1000))) (Zw (fun x:BoxT×List Fact×Unit=>YQ x.1 x.2.1)))]
theorem b8y{G:PV->Prop}(b:BoxT)(fs:List Fact)(h:(Go.Pl.preT (fun(x:BoxT×List Fact×Unit)=>ZJ x.1&&Zl x.2.1&&decide (List.length x.2.1<=100)&&decide (List.length x.1.v<=1000)) [(.agg [(.sl 1 false (List.map enc b.v)),(.int .i64 b.m)]),(.sl 3 false (List.map enc fs))])=true∧(Yk (fun(x:BoxT×List Fact×Unit)=>YQ x.1 x.2.1) [(.agg [(.sl 1 false (List.map enc b.v)),(.int .i64 b.m)]),(.sl 3 false (List.map enc fs))] fun y0:List (List Int)×Int=>G ((.tup [(.int .i64 (↑(List.length (List.map enc y0.1)):Int)),(.int .i64 y0.2)])))):Ze RG 0 (Za AA G) BQ [] (Yn 17 [enc b,enc fs]):=Ze.tp (.req (Yj (List (List Int)×Int) (.nil))) h (by kernel_rfl)
end Go.Pl
namespace Go.Pl
open Go.RowKit
open Enc (enc dec is)
open EncL (encL decL isL)
end Go.Pl
namespace Go.Pl
open Go.RowKit
open Enc (enc dec is)
open EncL (encL decL isL)
set_option maxRecDepth 100000
-- IMPOSSIBLE
end Go.Pl
namespace Go.Pl
open Go.RowKit
open Enc (enc dec is)
open EncL (encL decL isL)
def nmI(l:Lin)(i:Nat):List Str:=(l.t.take i).map (·.v)
theorem GQ(l:Lin){i:Nat}(h:i<l.t.length):(nmI l (i+1)).map (enc:Str->PV)=(nmI l i).map enc++[.str l.t[i].v.s]:=by
 unfold nmI
 rw[List.take_succ_eq_append_getElem h,List.map_append,List.map_append];rfl
theorem Gf(l:Lin){i:Nat}(h:i<=l.t.length):(nmI l i).length=i:=by unfold nmI;rw[List.length_map,List.length_take];omega
theorem FD(l:Lin):nmI l l.t.length=Zd l:=by unfold nmI Zd;rw[List.take_of_length_le (Nat.le_refl _)]
theorem J7{q sz m:Nat}{xs:List PV}(h:xs.length=q)(h1:(q+m)*sz<=1099511627776)(h2:q+m<=1099511627776):(xs.length==q&&q==q&&decide ((q+m)*sz<=1099511627776)&&decide (q+m<=1099511627776))=true:=by simp[h,h1,h2]
theorem a7k(l:Lin)(hl:l.t.length<=1000000): ∀ (k i:Nat),k+i=l.t.length->1<=i ->
  At Xm 0 (Zq 0 YV fun r=>r=Gr (Zd l)) YX 0 20 [(3,.row 0 i 0 i),(7,.pv (enc l.t)),(8,.pv (.int .i64 l.t.length)),(9,.pv (.int .i64 i))] [.obj (.row false 9 1 ((nmI l i).map enc))]:=by
 intro k
 induction k with
 | zero=>
  intro i hi h1
  obtain rfl:i=l.t.length:=by omega
  refine N9 l _ _ (nmI l l.t.length) (ZG (Yt (by omega)) ?_)
  rw[FD]
  unfold Gr
  have e:(Zd l).length=l.t.length:=by rw[<- FD,Gf l (Nat.le_refl _)]
  rw[e]
 | succ k ih=>
  intro i hi h1
  have hlt:i<l.t.length:=by omega
  refine N9 l i i (nmI l i) (ZA (Yi hlt) ⟨Zn hlt rfl,Zu hlt ⟨J7 (m:=1) (by rw[List.length_map,Gf l (by omega)]) (by omega) (by omega),?_⟩⟩)
  have:=ih (i+1) (by omega) (by omega)
  rw[GQ l hlt,<- next (by omega)]at this
  exact this
theorem b3v: ∀ args os,QG args os=true->Ze Xm os.length (Zq os.length YV fun r=>r=JY args os) YX [] (Y5 TV args os):=by
 intro args os h
 unfold QG at h
 split at h
 ·rename_i a
  simp only[Bool.and_eq_true,Bool.not_eq_true',decide_eq_true_eq]at h
  obtain⟨⟨h1,h2⟩,h3⟩:=h
  obtain⟨l,rfl⟩:=YG h1
  rw[Enc.dec_enc]at h2 h3
  have hlt:0<l.t.length:=by
   rcases Nat.eq_zero_or_pos l.t.length with e|e
   ·rw[List.length_eq_zero_iff.1 e]at h2;cases h2
   ·exact e
  have ev:JY [.pv (enc l)] []=Gr (Zd l):=by show Gr (Zd (dec (enc l:PV)))=_;rw[Enc.dec_enc]
  rw[ev]
  refine a8g l ?_
  rw[List.length_map]
  refine MW l ((0:Nat):Int) (ZA (Yi hlt) ⟨Zn hlt rfl,Zu hlt ?_⟩)
  have:=a7k l h3 (l.t.length - 1) 1 (by omega) (by omega)
  rw[show(1:Nat)=0+1 from rfl,GQ l hlt]at this
  exact this
 ·cases h
theorem a5y: ∀ args os,QI args os=true->Ze Xm os.length (Zq os.length YV fun r=>r=GH args os) YX [] (Y5 TV args os):=by
 intro args os h
 unfold QI at h
 split at h
 ·rename_i a
  simp only[Bool.and_eq_true,List.isEmpty_iff]at h
  obtain⟨h1,h2⟩:=h
  obtain⟨l,rfl⟩:=YG h1
  rw[Enc.dec_enc]at h2
  refine a8g l ?_
  rw[List.length_map]
  exact MW l ((0:Nat):Int) (ZG (Yt (by rw[h2];simp)) rfl)
 ·cases h
theorem a2n(l:Lin)(hl:l.t.length<=1000000): ∀ (k i:Nat),k+i=l.t.length->1<=i ->
  At Xm 0 (Za YV (Zi (Zd l))) YX 0 20 [(3,.row 0 i 0 i),(7,.pv (enc l.t)),(8,.pv (.int .i64 l.t.length)),(9,.pv (.int .i64 i))] [.obj (.row false 9 1 ((nmI l i).map enc))]:=by
 intro k
 induction k with
 | zero=>
  intro i hi h1
  obtain rfl:i=l.t.length:=by omega
  refine TC l _ _ (nmI l l.t.length) (ZG (Yt (by omega)) ⟨by simp[Gf],?_⟩)
  rw[List.drop_zero,List.take_of_length_le (by rw[List.length_map,Gf l (Nat.le_refl _)];exact Nat.le_refl _),FD]
  exact ZC (x:=Zd l) rfl
 | succ k ih=>
  intro i hi h1
  have hlt:i<l.t.length:=by omega
  refine TC l i i (nmI l i) (ZA (Yi hlt) ⟨Zn hlt rfl,Zu hlt ⟨J7 (m:=1) (by rw[List.length_map,Gf l (by omega)]) (by omega) (by omega),?_⟩⟩)
  have:=ih (i+1) (by omega) (by omega)
  rw[GQ l hlt,<- next (by omega)]at this
  exact this
theorem a5c: ∀ a:Lin×Unit,decide (a.1.t.length<=1000000)=true->Ze Xm 0 (Za YV (Zi (Zd a.1))) YX [] (Yn TV (encL a)):=by
 rintro⟨l,⟨⟩⟩ h
 have h:l.t.length<=1000000:=of_decide_eq_true h
 refine c7b l ?_
 rw[List.length_map]
 by_cases h0:l.t.length=0
 ·refine RB l ((0:Nat):Int) (ZG (Yt (by omega)) ?_)
  have:Zd l=[]:=by unfold Zd;rw[List.length_eq_zero_iff.1 h0];rfl
  rw[this]
  exact⟨rfl,rfl⟩
 ·have hlt:0<l.t.length:=by omega
  refine RB l ((0:Nat):Int) (ZA (Yi hlt) ⟨Zn hlt rfl,Zu hlt ?_⟩)
  have:=a2n l h (l.t.length - 1) 1 (by omega) (by omega)
  rw[show(1:Nat)=0+1 from rfl,GQ l hlt]at this
  exact this
theorem c2k: ∀ args os,Gy args os=true->Ze a7y os.length (Zq os.length Fu fun r=>r=SK args os) Lu [] (Y5 c9a args os):=by
 intro args os h
 unfold Gy at h
 split at h
 ·rename_i s v m
  simp only[Bool.and_eq_true]at h
  obtain⟨h1,h2⟩:=h
  obtain⟨l,rfl⟩:=YG h1
  rw[Enc.dec_enc]at h2
  have ev:SK [.pv (.str s),.ptr 0 0] [.box [.pv (enc l),.pv (.int .i64 m)]]=(.pv (.bool (!(l.contains ⟨s⟩))),[.box [.pv (enc l),.pv (.int .i64 m)]],[]):=by
   show(AV.pv (.bool (!((dec (enc l:PV):List Str).contains ⟨s⟩))),_,_)=_
   rw[Enc.dec_enc]
  rw[ev]
  exact d7w s ⟨l,m⟩ ⟨Zk (l,⟨s⟩,()) rfl h2,Zg (l,⟨s⟩,()) rfl rfl⟩
 ·cases h
theorem Fb{n m:Nat}{xs:List PV}(h:Px n m xs=true): ∃ l:List Str,xs=l.map enc∧m=n∧l.length=n∧l.length<=9223372036854775807:=by
 simp only[Px,Bool.and_eq_true,beq_iff_eq]at h
 obtain⟨⟨⟨h1,h2⟩,h3⟩,h4⟩:=h
 obtain⟨l,hl⟩:=YG h3
 have hl:PV.sl 1 false xs=PV.sl 1 false (l.map enc):=hl
 injection hl with _ _ hx
 subst hx
 have e:JV (l.map enc)=l:=Enc.dec_enc l
 rw[e]at h4
 exact⟨l,rfl,h1,by simpa using h2,Zz.1 h4⟩
theorem Qr(l:List Str):JV (l.map enc)=l:=Enc.dec_enc l
theorem Bd{l:List Str}{n:Nat}(hn:l.length=n)(hs:l.length<=9223372036854775807):Px n n (l.map enc)=true:=by
 have hc:WN (List Str) (.sl 1 false (l.map enc))=true:=ZR l
 simp only[Px,hc,Qr,Zz.2 hs,List.length_map,hn]
 simp
theorem c1u{l:List Str}{i:Nat}(h:i<l.length):List.getD (List.map (enc:Str->PV) l) (0+Int.toNat (i:Int)) default=enc l[i]:=by simp[List.getD,h]
theorem d1n(s:List UInt8)(l:List Str)(m:Int)(h:Zr l=true):Gy [.pv (.str s),.ptr 0 0] [.box [.pv (enc l),.pv (.int .i64 m)]]=true:=by
 show(WN (List Str) (enc l)&&Zr (dec (enc l:PV):List Str))=true
 rw[ZR,Enc.dec_enc,h];rfl
theorem c4c(l:List Str)(n:Nat)(b:BoxT)(hn:l.length=n)(hl:l.length<=9223372036854775807)(hb:Zr b.v=true): ∀ (j i:Nat),j+i=n->(∀ k (h:k<l.length),k<i->(!(b.v.contains l[k]))=false) ->
  At Dk 2 (Zq 2 KR fun r=>r=(.pv (.int .i64 (ZL (fun s:Str=> !(b.v.contains s)) l)),[.row false 9 1 (l.map enc),.box [.pv (enc b.v),.pv (.int .i64 b.m)]],[])) Q4 0 19 [(0,.row 0 n 0 n),(1,.fn 176 [] [.ptr 1 0]),(7,.pv (.int .i64 n)),(8,.pv (.int .i64 i))] [.obj (.row false 9 1 (l.map enc)),.obj (.box [.pv (enc b.v),.pv (.int .i64 b.m)])]:=by
 intro j
 induction j with
 | zero=>
  intro i hi hno
  refine c1m l n b i (ZG (Yt (by omega)) ?_)
  rw[KG _ _ (fun k hk=>hno k hk (by omega))]
  rfl
 | succ j ih=>
  intro i hi hno
  have hlt:i<l.length:=by omega
  refine c1m l n b i (ZA (Yi (by omega)) ?_)
  simp only[c1u hlt]
  refine⟨by simp;omega,by simp;omega,rfl,d1n _ _ _ hb,?_⟩
  rw[Enc.dec_enc]
  refine Xt (fun h=> ?_) fun h=> ?_
  ·have h:b.v.contains l[i]=false:=h
   rw[Kz (fun s:Str=> !(b.v.contains s)) l i hlt hno (by rw[h];rfl)]
   rfl
  ·have h:b.v.contains l[i]=true:=h
   rw[next (by omega)]
   refine ih (i+1) (by omega) fun k hk hki=> ?_
   by_cases e:k=i
   ·subst e;rw[h];rfl
   ·exact hno k hk (by omega)
theorem d0m: ∀ args os,Vi 176 args os=true->Ze Dk os.length (Zq os.length KR fun r=>r=SN args os) Q4 [] (Y5 d5i args os):=by
 intro args os h
 unfold Vi at h
 split at h
 ·rename_i n m g ty xs v k
  simp only[Bool.and_eq_true,beq_iff_eq]at h
  obtain⟨⟨⟨⟨rfl,rfl⟩,h3⟩,h4⟩,h5⟩:=h
  obtain⟨l,rfl,rfl,hn,hl⟩:=Fb h3
  obtain⟨bv,rfl⟩:=YG h4
  rw[Enc.dec_enc]at h5
  have ev:SN [.row 0 m 0 m,.fn 176 [] [.ptr 1 0]] [.row false 9 1 (l.map enc),.box [.pv (enc bv),.pv (.int .i64 k)]]=(.pv (.int .i64 (ZL (fun s:Str=> !(bv.contains s)) l)),[.row false 9 1 (l.map enc),.box [.pv (enc bv),.pv (.int .i64 k)]],[]):=by
   show(AV.pv (.int .i64 (ZL (fun s:Str=> !((dec (enc bv:PV):List Str).contains s)) (JV (l.map enc)))),_,_)=_
   rw[Enc.dec_enc,Qr]
  rw[ev]
  exact e0m l m ⟨bv,k⟩ (c4c l m ⟨bv,k⟩ hn hl h5 m 0 rfl fun k _ h=>by omega)
 ·rename_i g v k
  simp only[Bool.and_eq_true,beq_iff_eq]at h
  obtain⟨⟨rfl,h4⟩,h5⟩:=h
  obtain⟨bv,rfl⟩:=YG h4
  exact e1t ⟨bv,k⟩ (d6t ⟨bv,k⟩ 0 (ZG (by decide) rfl))
 ·cases h
theorem d2i: ∀ args os,Vi 176 args os=true->Ze a9f os.length (Zq os.length MZ fun r=>r=LM args os) RN [] (Y5 d6b args os):=by
 intro args os h
 have h0:=h
 unfold Vi at h
 split at h
 ·rename_i n m g ty xs v k
  simp only[Bool.and_eq_true,beq_iff_eq]at h
  obtain⟨⟨⟨⟨rfl,rfl⟩,h3⟩,h4⟩,h5⟩:=h
  obtain⟨l,rfl,rfl,hn,hl⟩:=Fb h3
  obtain⟨bv,rfl⟩:=YG h4
  refine e1m l m ⟨bv,k⟩ ⟨h0,?_⟩
  rw[WE]
  rfl
 ·rename_i g v k
  simp only[Bool.and_eq_true,beq_iff_eq]at h
  obtain⟨⟨rfl,h4⟩,h5⟩:=h
  obtain⟨bv,rfl⟩:=YG h4
  exact e1n ⟨bv,k⟩ ⟨h0,rfl⟩
 ·cases h
def Ce(fs:List Fact):List Str:=fs.flatMap fun f=>Zd f.l
theorem H6{fs:List Fact}{i:Nat}(h:i<fs.length):Ce (fs.take (i+1))=Ce (fs.take i)++Zd fs[i].l:=by
 unfold Ce
 rw[List.take_succ_eq_append_getElem h,List.flatMap_append];simp
theorem KF{fs:List Fact}(hv:YU fs=true){i:Nat}(hi:i<fs.length):(Zd fs[i].l).length<=12:=by
 unfold Zd
 rw[List.length_map]
 unfold YU at hv
 exact GJ (List.all_eq_true.1 hv _ (List.getElem_mem hi))
theorem Cz{fs:List Fact}(hv:YU fs=true): ∀ i,i<=fs.length->(Ce (fs.take i)).length<=12*i
 | 0,_=>by simp[Ce]
 | i+1,h=>by
  rw[H6 (by omega),List.length_append]
  have:=Cz hv i (by omega)
  have:=KF hv (i:=i) (by omega)
  omega
def inE(vs:List Str)(ns:List Str):Int:=if Y7 vs ns then 0 else 7
theorem NH(vs ns:List Str):(ns.any fun s=> !(vs.contains s)) = !(Y7 vs ns):=by
 unfold Y7
 induction ns with
 | nil=>rfl
 | cons s r ih=>simp only[List.any_cons,List.all_cons,ih,Bool.not_and]
theorem L6(b:BoxT)(fs:List Fact)(ok:Bool)(l:List Str)(hb:Zr b.v=true)(hf:Zl fs=true)(hv:YU fs=true)(hfl:fs.length<=100)(hl:l.length<=1000)(n:Nat)(ls:List Str): ∀ (k i:Nat),k+i=fs.length ->
  At YZ 1 (Zq 1 YJ fun r=>r=(.pv (.int .i64 (inE b.v (l++Ce fs))),[.row false 9 1 ((l++Ce fs).map enc)],[])) YF 0 38 [(3,.row 0 (l++Ce (fs.take i)).length 0 (l++Ce (fs.take i)).length),(4,.ptr 1 0),(23,.pv (enc fs)),(24,.pv (.int .i64 fs.length)),(25,.pv (.int .i64 i))] [.obj (.row false 9 1 ((l++Ce (fs.take i)).map enc)),.obj (.box [.pv (enc b.v),.pv (.int .i64 b.m)])]:=by
 intro k
 induction k with
 | zero=>
  intro i hi
  have hn:=Cz hv i (by omega)
  have hd:fs.take i=fs:=List.take_of_length_le (by omega)
  rw[hd]at hn ⊢
  refine Rt b fs ok n ls i _ (l++Ce fs) (ZG (Yt (by omega)) ⟨?_,?_⟩)
  ·show(176==176&&9==9&&Px _ _ _&&WN (List Str) (enc b.v)&&Zr (dec (enc b.v:PV):List Str))=true
   rw[Bd rfl (by rw[List.length_append];omega),ZR,Enc.dec_enc,hb];rfl
  ·rw[Qr,Enc.dec_enc,NH]
   unfold inE
   refine Xt (fun h=> ?_) fun h=> ?_
   ·rw[h];rfl
   ·rw[h];rfl
 | succ k ih=>
  intro i hi
  have hlt:i<fs.length:=by omega
  have hn:=Cz hv i (by omega)
  have hnb:=KF hv hlt
  have hnm:(Zd fs[i].l).length=fs[i].l.t.length:=by unfold Zd;rw[List.length_map]
  refine Rt b fs ok n ls i _ (l++Ce (fs.take i)) (ZA (Yi hlt) ⟨Zn hlt rfl,Zu hlt ⟨Zk (fs[i].l,()) rfl (decide_eq_true (by show fs[i].l.t.length<=_;omega)),Zg (fs[i].l,()) rfl ⟨by simp,J7 (by rw[List.length_map]) (by rw[List.length_map,List.length_append];show(_+(Zd fs[i].l).length)*16<=_;omega) (by rw[List.length_map,List.length_append];show _+(Zd fs[i].l).length<=_;omega),?_⟩⟩⟩)
  have:=ih (i+1) (by omega)
  rw[H6 hlt,<- List.append_assoc,show(l++Ce (fs.take i)++Zd fs[i].l).map (enc:Str->PV)=(l++Ce (fs.take i)).map enc++(Zd fs[i].l).map enc from List.map_append,List.length_append («as» :=l++Ce (fs.take i)),<- next (by omega)]at this
  rw[List.length_map]
  exact this
theorem a1b: ∀ args os,VL args os=true->Ze YZ os.length (Zq os.length YJ fun r=>r=QH args os) YF [] (Y5 ND args os):=by
 intro args os h
 unfold VL at h
 split at h
 ·rename_i b0 f0 ok n m ty xs
  simp only[Bool.and_eq_true,beq_iff_eq,decide_eq_true_eq,Bool.not_eq_true']at h
  obtain⟨⟨⟨⟨⟨⟨⟨⟨⟨h1,h2⟩,rfl⟩,h4⟩,h5⟩,h6⟩,h7⟩,h8⟩,h9⟩,h10⟩:=h
  obtain⟨b,rfl⟩:=YG h1
  obtain⟨fs,rfl⟩:=YG h2
  obtain⟨l,rfl,rfl,hn,hl⟩:=Fb h4
  rw[Enc.dec_enc]at h7 h8 h9
  rw[List.length_map]at h10
  have ev:QH [.pv (enc b),.pv (enc fs),.pv (.bool ok),.row 0 m 0 m] [.row false 9 1 (l.map enc)]=(.pv (.int .i64 (Zj b fs ok l)),[.row false 9 1 ((ckV b fs ok l).map enc)],[]):=by
   show(AV.pv (.int .i64 (Zj (dec (enc b:PV)) (dec (enc fs:PV)) ok (JV (l.map enc)))),[AObj.row false 9 1 ((ckV (dec (enc b:PV)) (dec (enc fs:PV)) ok (JV (l.map enc))).map enc)],_)=_
   rw[Enc.dec_enc,Enc.dec_enc,Qr]
  rw[ev]
  have hb:Zr b.v=true:=by simp only[ZJ,XW,Bool.and_eq_true]at h7;exact h7.1
  refine b5v b fs ok m l ⟨Zk (b,()) rfl h7,Zg (b,()) rfl (Xt (fun h=> ?_) fun hbv=>⟨Zk (fs,()) rfl h8,Zg (fs,()) rfl (Xt (fun h=> ?_) fun hfv=>Xt (fun h=> ?_) fun hok=> ?_)⟩)⟩
  ·have h:Xd b=false:=h
   simp[Zj,ckV,h]
  ·have h:YU fs=false:=h
   simp[Zj,ckV,h]
  ·have h:ok=false:=h
   simp[Zj,ckV,h]
  ·have hbv:Xd b=true:=hbv
   have hfv:YU fs=true:=hfv
   have hok:ok=true:=hok
   have e1:Zj b fs ok l=inE b.v (l++Ce fs):=by unfold Zj;rw[hbv,hfv,hok];rfl
   have e2:ckV b fs ok l=l++Ce fs:=by unfold ckV;rw[hbv,hfv,hok];rfl
   rw[e1,e2,List.length_map]
   have:=L6 b fs ok l hb h8 hfv h9 (by omega) m l fs.length 0 (by omega)
   rw[List.take_zero]at this
   have e0:l++Ce []=l:=by simp[Ce]
   rw[e0,hn]at this
   exact this
 ·cases h
theorem a1c(b:BoxT)(fs:List Fact)(ok:Bool)(hb:Zr b.v=true)(hf:Zl fs=true)(hv:YU fs=true)(hfl:fs.length<=100): ∀ (k i:Nat),k+i=fs.length ->
  At YZ 0 (Za YJ (Zi (inE b.v (Ce fs)))) YF 0 38 [(3,.row 0 (Ce (fs.take i)).length 0 (Ce (fs.take i)).length),(4,.ptr 1 0),(23,.pv (enc fs)),(24,.pv (.int .i64 fs.length)),(25,.pv (.int .i64 i))] [.obj (.row false 9 1 ((Ce (fs.take i)).map enc)),.obj (.box [.pv (enc b.v),.pv (.int .i64 b.m)])]:=by
 intro k
 induction k with
 | zero=>
  intro i hi
  have hn:=Cz hv i (by omega)
  have hd:fs.take i=fs:=List.take_of_length_le (by omega)
  rw[hd]at hn ⊢
  refine Po b fs ok i _ (Ce fs) (ZG (Yt (by omega)) ⟨?_,?_⟩)
  ·show(176==176&&9==9&&Px _ _ _&&WN (List Str) (enc b.v)&&Zr (dec (enc b.v:PV):List Str))=true
   rw[Bd rfl (by omega),ZR,Enc.dec_enc,hb];rfl
  ·rw[Qr,Enc.dec_enc,NH]
   unfold inE
   refine Xt (fun h=> ?_) fun h=> ?_
   ·rw[h];exact⟨rfl,rfl⟩
   ·rw[h];exact⟨rfl,rfl⟩
 | succ k ih=>
  intro i hi
  have hlt:i<fs.length:=by omega
  have hn:=Cz hv i (by omega)
  have hnb:=KF hv hlt
  have hnm:(Zd fs[i].l).length=fs[i].l.t.length:=by unfold Zd;rw[List.length_map]
  refine Po b fs ok i _ (Ce (fs.take i)) (ZA (Yi hlt) ⟨Zn hlt rfl,Zu hlt ⟨Zk (fs[i].l,()) rfl (decide_eq_true (by show fs[i].l.t.length<=_;omega)),Zg (fs[i].l,()) rfl ⟨by simp,J7 (by rw[List.length_map]) (by rw[List.length_map];show(_+(Zd fs[i].l).length)*16<=_;omega) (by rw[List.length_map];show _+(Zd fs[i].l).length<=_;omega),?_⟩⟩⟩)
  have:=ih (i+1) (by omega)
  rw[H6 hlt,show(Ce (fs.take i)++Zd fs[i].l).map (enc:Str->PV)=(Ce (fs.take i)).map enc++(Zd fs[i].l).map enc from List.map_append,List.length_append («as» :=Ce (fs.take i)),<- next (by omega)]at this
  rw[List.length_map]
  exact this
theorem a6g(b:BoxT)(fs:List Fact)(ok:Bool)(hb:Zr b.v=true)(hf:Zl fs=true)(hv:YU fs=true)(hfl:fs.length<=100): ∀ (k i:Nat),k+i=fs.length->Ce (fs.take i)=[] ->
  At YZ 0 (Za YJ (Zi (inE b.v (Ce fs)))) YF 0 38 [(3,.pv (.sl 0 true [])),(4,.ptr 0 0),(23,.pv (enc fs)),(24,.pv (.int .i64 fs.length)),(25,.pv (.int .i64 i))] [.obj (.box [.pv (enc b.v),.pv (.int .i64 b.m)])]:=by
 intro k
 induction k with
 | zero=>
  intro i hi h0
  have hd:fs.take i=fs:=List.take_of_length_le (by omega)
  rw[hd]at h0
  refine Ru b fs ok i (ZG (Yt (by omega)) ⟨?_,?_⟩)
  ·show(176==176&&WN (List Str) (enc b.v)&&Zr (dec (enc b.v:PV):List Str))=true
   rw[ZR,Enc.dec_enc,hb];rfl
  ·rw[h0]
   exact⟨rfl,rfl⟩
 | succ k ih=>
  intro i hi h0
  have hlt:i<fs.length:=by omega
  have hnb:=KF hv hlt
  have hnm:(Zd fs[i].l).length=fs[i].l.t.length:=by unfold Zd;rw[List.length_map]
  refine Ru b fs ok i (ZA (Yi hlt) ⟨Zn hlt rfl,Zu hlt ⟨Zk (fs[i].l,()) rfl (decide_eq_true (by show fs[i].l.t.length<=_;omega)),Zg (fs[i].l,()) rfl ⟨by simp,WP (fun h=> ?_) fun h=>⟨?_,?_⟩⟩⟩⟩)
  ·have h:Zd fs[i].l=[]:=by simpa using h
   rw[next (by omega)]
   exact ih (i+1) (by omega) (by rw[H6 hlt,h0,h];rfl)
  ·rw[List.length_map]
   show(true&&decide ((0+(Zd fs[i].l).length)*16<=1099511627776)&&decide (0+(Zd fs[i].l).length<=1099511627776))=true
   rw[decide_eq_true (by omega),decide_eq_true (by omega)];rfl
  ·have:=a1c b fs ok hb hf hv hfl k (i+1) (by omega)
   rw[H6 hlt,h0,List.nil_append,<- next (by omega)]at this
   rw[List.length_map]
   show At YZ 0 _ YF 0 38 [(3,.row 0 (0+(Zd fs[i].l).length) 0 (0+(Zd fs[i].l).length)),_,_,_,_] _
   rw[Nat.zero_add]
   exact this
theorem a5p: ∀ a:BoxT×List Fact×Bool×NilS×Unit,(ZJ a.1&&Zl a.2.1&&decide (a.2.1.length<=100))=true->Ze YZ 0 (Za YJ (Zi (Zj a.1 a.2.1 a.2.2.1 []))) YF [] (Yn ND (encL a)):=by
 rintro⟨b,fs,ok,⟨⟩,⟨⟩⟩ h
 simp only[Bool.and_eq_true,decide_eq_true_eq]at h
 obtain⟨⟨h7,h8⟩,h9⟩:=h
 have hb:Zr b.v=true:=by have:=h7;simp only[ZJ,XW,Bool.and_eq_true]at this;exact this.1
 show Ze YZ 0 (Za YJ (Zi (Zj b fs ok []))) _ _ _
 refine c1t b fs ok ⟨Zk (b,()) rfl h7,Zg (b,()) rfl (Xt (fun h=> ?_) fun hbv=>⟨Zk (fs,()) rfl h8,Zg (fs,()) rfl (Xt (fun h=> ?_) fun hfv=>Xt (fun h=> ?_) fun hok=> ?_)⟩)⟩
 ·have h:Xd b=false:=h
  exact Ut (by simp[Zj,h])
 ·have h:YU fs=false:=h
  exact Ut (by simp[Zj,h])
 ·have h:ok=false:=h
  exact Ut (by simp[Zj,h])
 ·have hbv:Xd b=true:=hbv
  have hfv:YU fs=true:=hfv
  have hok:ok=true:=hok
  have e1:Zj b fs ok []=inE b.v (Ce fs):=by unfold Zj;rw[hbv,hfv,hok];rfl
  rw[e1,List.length_map]
  exact a6g b fs ok hb h8 hfv h9 fs.length 0 (by omega) rfl
theorem a0w(s:List UInt8)(hs:s.length<=281474976710656): ∀ (m i:Nat),m+i=s.length->At Wt 0 (Za XL (Zi (X6 s i))) XK 0 67 [(0,.pv (.str s)),(34,.pv (.sl 1 false (ZI s))),(35,.pv (.int .i64 (ZI s).length)),(36,.pv (.int .i64 i))] []:=by
 intro m
 induction m with
 | zero=>
  intro i hi
  have e:X6 s i=(!(s==[])&&decide (s.length<=30)):=by
   unfold X6
   cases i with
   | zero=>cases s with
    | nil=>rfl
    | cons c r=>simp at hi
   | succ i=>simp only;rw[List.drop_of_length_le (show s.length<=i+1 by omega)];simp
  rw[e]
  refine ME s i (ZG (Yt (by rw[QV];omega)) (WP (fun h=>ZW ?_) fun h=>ZW ?_))
  ·rw[h,Bool.true_and];exact decide_eq_decide.2 (by omega)
  ·rw[h,Bool.false_and]
 | succ m ih=>
  intro i hi
  have hlt:i<s.length:=by omega
  have h:=ih (i+1) (by omega)
  refine ME s i ?_
  rw[a1z hlt,next (by omega)]
  have stop:(VF s[i]=false∧(i=0∨digB s[i]=false))->Zi (X6 s i) (.bool false):=fun hb=>ZW (MK hlt hb).symm
  have go:(VF s[i]=true∨(i≠0∧digB s[i]=true))->At Wt 0 (Za XL (Zi (X6 s i))) XK 0 67 [(0,.pv (.str s)),(34,.pv (.sl 1 false (ZI s))),(35,.pv (.int .i64 (ZI s).length)),(36,.pv (.int .i64 ((i+1:Nat):Int)))] []:=fun hb=>by rw[NZ hlt hb];exact h
  have rest:VF s[i]=false->(if ((i:Int)==0)=true then Zi (X6 s i) (.bool false)else if decide ((s[i].toNat:Int)<48)=true then Zi (X6 s i) (.bool false)else if decide ((s[i].toNat:Int)>57)=true then Zi (X6 s i) (.bool false)else At Wt 0 (Za XL (Zi (X6 s i))) XK 0 67 [(0,.pv (.str s)),(34,.pv (.sl 1 false (ZI s))),(35,.pv (.int .i64 (ZI s).length)),(36,.pv (.int .i64 ((i+1:Nat):Int)))] []):=by
   intro hl
   refine Ko (fun h0=>stop ⟨hl,.inl (by omega)⟩) fun h0=>XJ (fun h1=>stop ⟨hl,.inr (GX (by omega))⟩) fun h1=>XJ (fun h2=>stop ⟨hl,.inr (GX (by omega))⟩) fun h2=>go (.inr ⟨by omega,Un.2 (by omega)⟩)
  refine ZA (Yi (by rw[QV];exact hlt)) ⟨by rw[QV];simp[hlt],by rfl,?_⟩
  refine XJ (fun h1=>rest (GV ?_)) fun h1=>XJ (fun h2=>rest (GV ?_)) fun h2=>go (.inl (Lt.2 ?_))
  ·have h1:(s[i].toNat:Int)<97:=h1
   omega
  ·have h2:(s[i].toNat:Int)>122:=h2
   omega
  ·have h1 : ¬ (s[i].toNat:Int)<97:=h1
   have h2 : ¬ (s[i].toNat:Int)>122:=h2
   omega
theorem a7w: ∀ a:Str×Unit,decide (a.1.s.length<=281474976710656)=true->Ze Wt 0 (Za XL (Zi (ZH a.1))) XK [] (Yn b4q (encL a)):=by
 rintro⟨⟨s⟩,⟨⟩⟩ hl
 have hl:s.length<=281474976710656:=by simpa using hl
 refine c2x s (Zg (⟨s⟩,⟨[95]⟩,()) rfl (WP (fun h=> ?_) fun h=> ?_))
 ·have h:[95].isPrefixOf s=true:=h
  obtain⟨r,rfl⟩ : ∃ r,s=95::r:=by
   cases s with
   | nil=>simp at h
   | cons c r=>
    have:95=c:=by simpa using h
    exact⟨r,by rw[this]⟩
  have e1:List.drop (Int.toNat 1) (List.take (List.length (95::r)) (95::r))=r:=by rw[List.take_of_length_le (Nat.le_refl _)];rfl
  simp only[e1]
  refine⟨by simp,Zk (⟨r⟩,()) rfl (by simp at hl ⊢;omega),Zg (⟨r⟩,()) rfl ⟨by show(PG (enc (YW ⟨r⟩).2)&&true)=true;rw[d4w];rfl,?_⟩⟩
  show if Kt (enc (YW ⟨r⟩).2)=true then(if decide ((YW ⟨r⟩).1>0)=true then(if _ then _ else Zi (ZH ⟨95::r⟩) _)else Zi (ZH ⟨95::r⟩) _)else Zi (ZH ⟨95::r⟩) _
  rw[a1x]
  by_cases h9:r.length<=9
  ·rw[<- a8w r h9,decide_eq_true h9,Bool.and_true]
   refine WP (fun h1=>WP (fun h2=>ZA (by simp;omega) ⟨Zk ((YW ⟨r⟩).1,()) rfl (by have:=TG ⟨r⟩;simp;omega),Zg ((YW ⟨r⟩).1,()) rfl ⟨by simp,ZW ?_⟩⟩) fun h2=>ZW ?_) fun h1=>ZW ?_
   ·rw[h1,h2];simp only[Bool.true_and,Bool.and_true];rfl
   ·rw[h2];simp
   ·rw[h1];simp
  ·rw[decide_eq_false h9,Bool.and_false]
   refine WP (fun h1=>WP (fun h2=>ZG (by simp;omega) (ZW rfl)) fun h2=>ZW rfl) fun h1=>ZW rfl
 ·have h:[95].isPrefixOf s=false:=h
  show At Wt 0 (Za XL (Zi (ZH ⟨s⟩))) XK 0 67 _ _
  rw[NT h]
  exact a0w s hl s.length 0 (by omega)
end Go.Pl
namespace Go.Pl
open Go.RowKit
open Enc (enc dec is)
open EncL (encL decL isL)
set_option maxRecDepth 100000
def FE:IC:=(.reg [V6 7 (.faddr 0 (.t 1)) 0,V6 8 (l'' [(.sl 1)] (.t 7)) 0,V6 9 (.len 1 (.t 8)) 0,V6 10 (.mksl 3 1 8 (.int .i64 0) (.t 9) (.t 9)) 0,V6 4 (Cr 10) 1] none)
def a4u:List IRes:=[]
def a8k:ZU:=Xe [(48,.own WM Qg)]
theorem d6f{G:AV×List AObj×List AObj->Prop}(E:YN)(l:Nat)(b:BoxT)(fs:List Fact)(h:(decide (0<=(↑(List.length (PV.asXs (List.getD (List.drop 0 [enc b.v,PV.int .i64 b.m]) 0 default))):Int))&&(↑(List.length (PV.asXs (List.getD (List.drop 0 [enc b.v,PV.int .i64 b.m]) 0 default))):Int)==(↑(List.length (PV.asXs (List.getD (List.drop 0 [enc b.v,PV.int .i64 b.m]) 0 default))):Int)&&decide ((↑(List.length (PV.asXs (List.getD (List.drop 0 [enc b.v,PV.int .i64 b.m]) 0 default))):Int)*(↑8:Int)<=1099511627776)&&decide ((↑(List.length (PV.asXs (List.getD (List.drop 0 [enc b.v,PV.int .i64 b.m]) 0 default))):Int)<=1099511627776))=true∧(E 99 ⟨Z4 52 0 [(0,(.yld l)),(1,(.pv (.rptr [(.sl 1 false (List.map enc b.v)),(.int .i64 b.m)]))),(2,(.pv (.rptr [(.sl 3 false (List.map enc fs))]))),(4,(.row 0 (Int.toNat (↑(List.length (PV.asXs (List.getD (List.drop 0 [enc b.v,PV.int .i64 b.m]) 0 default))):Int)) 0 (Int.toNat (↑(List.length (PV.asXs (List.getD (List.drop 0 [enc b.v,PV.int .i64 b.m]) 0 default))):Int))))],[(.obj (.row false 3 1 (List.replicate (Int.toNat (↑(List.length (PV.asXs (List.getD (List.drop 0 [enc b.v,PV.int .i64 b.m]) 0 default))):Int)) (PV.int .i64 0))))]⟩ (fun x S'=>KZ a8k E 0 (Zq 0 a4u G) FE 99 x S'))):ZF a8k E 0 (Zq 0 a4u G) (.inl FE) [.seq (.ext 99 [0,1,2,4])] ⟨Z4 52 0 [(0,.yld l),(1,(.pv (.rptr [enc b.v,.int .i64 b.m]))),(2,(.pv (.rptr [enc fs])))],[]⟩:=ZF.mo (.lit (.req (.nil))) h (by kernel_rfl)
def FJ:IC:=(.reg [V6 11 (.load true [(.sl 1),(.int .i64)] (.t 1)) 0,V6 12 (Cr 4) 0,V6 13 (c'' 48 [(.t 11),(.t 12)]) 0,V6 5 (Cr 13) 2] none)
def a3y:List IRes:=[]
def c5s:ZU:=Xe [(48,.own WM Qg)]
theorem d5q{G:AV×List AObj×List AObj->Prop}(E:YN)(l:Nat)(b:BoxT)(fs:List Fact)(n:Nat)(p:List Int)(h:(WM [(.pv (.agg [(.sl 1 false (PV.asXs (List.getD [enc b.v,PV.int .i64 b.m] 0 default))),(.int .i64 (PV.asInt (List.getD [enc b.v,PV.int .i64 b.m] (0+1) default)))])),(.row 0 n 0 n)] [(.row false 3 1 (List.map enc p))])=true∧(E 99 ⟨Z4 52 0 [(0,(.yld l)),(1,(.pv (.rptr [(.sl 1 false (List.map enc b.v)),(.int .i64 b.m)]))),(2,(.pv (.rptr [(.sl 3 false (List.map enc fs))]))),(4,(.row 0 n 0 n)),(5,(ZM (Zf (dec (Sh.co (Sh.sl 1) (List.getD [enc b.v,PV.int .i64 b.m] 0 default))) (PD (List.map enc p)))))],[(.obj (.row false 3 1 (List.map enc p)))]⟩ (fun x S'=>KZ c5s E 1 (Zq 1 a3y G) FJ 99 x S'))):ZF c5s E 1 (Zq 1 a3y G) (.inl FJ) [.seq (.ext 99 [0,1,2,4,5])] ⟨Z4 52 0 [(0,.yld l),(1,(.pv (.rptr [enc b.v,.int .i64 b.m]))),(2,(.pv (.rptr [enc fs]))),(4,.row 0 n 0 n)],[.obj (.row false 3 1 (p.map enc))]⟩:=ZF.mo (.lit (.req (.keep (.nil)))) h (by kernel_rfl)
def KO:IC:=(s'' [V6 25 (Cr 4) 0,V6 26 (.len 1 (.t 25)) 0,V6 27 (b'' .sub (.t 26) (z'' 1)) 0,V6 6 (Cr 27) 0] (.seq (.block 2 (.loop [6,4,1,2,0] (.seq (.seq (.reg [V6 28 (Cr 6) 0,V6 29 (b'' .geq (.t 28) (z'' 0)) 0,V6 30 (Cr 29) 0,p'' 31 (Cr 4) 0 30,p'' 32 (Cr 6) 0 30,p'' 33 (.iaddr 1 (.t 31) (.t 32)) 0 30,p'' 34 (l'' [(.int .i64)] (.t 33)) 0 30,p'' 35 (.faddr 1 (.t 1)) 0 30,p'' 36 (l'' [(.int .i64)] (.t 35)) 0 30,p'' 37 (b'' .eql (.t 34) (.t 36)) 0 30,V6 38 (.pick (.t 30) (.t 37) (.c (.bool false))) 0] (some [[],[0],[1,0],[2,1,0],[2,1,0],[3,4,2,1,0],[5,2,3,4,1,0],[2,1,0],[7,2,1,0],[6,8,2,5,3,4,1,0,7],[2,9,1,0,6,8,5,3,4,7]])) (.cond (.t 38) .skip (.exit 2))) (.block 3 (s'' [V6 39 (Cr 4) 0,V6 40 (Cr 6) 0,V6 41 (.iaddr 1 (.t 39) (.t 40)) 0,o'' (.store 1 (.t 41) (z'' 0)) 0] (.reg [V6 42 (Cr 6) 0,V6 43 (b'' .sub (.t 42) (z'' 1)) 0,V6 6 (Cr 43) 0] none)))))) (.seq (s'' [V6 44 (Cr 6) 0,V6 45 (b'' .lss (.t 44) (z'' 0)) 0] (.cond (.t 45) .ret .skip)) (.reg [V6 46 (Cr 4) 0,V6 47 (Cr 6) 0,V6 48 (.iaddr 1 (.t 46) (.t 47)) 0,V6 49 (l'' [(.int .i64)] (.t 48)) 0,V6 50 (b'' .add (.t 49) (z'' 1)) 0,V6 51 (.iaddr 1 (.t 46) (.t 47)) 0,o'' (.store 1 (.t 51) (.t 50)) 0] none))))
def Hl:List IRes:=[]
def Sa:ZU:=Xe [(48,.own WM Qg)]
theorem b9j{G:AV×List AObj×List AObj->Prop}(E:YN)(l:Nat)(b:BoxT)(fs:List Fact)(n:Nat)(p:List Int)(k:Int)(h:if (decide (k ≥ 0))=true then(decide (0<=k)&&decide (0+Int.toNat k<n)&&List.length (List.map enc p)==n)=true∧((List.length (List.map enc p)==n&&decide (0+Int.toNat k<List.length (List.map enc p)))=true∧((Jz [Sh.int .i64] (PV.cells (List.getD (List.map enc p) (0+Int.toNat k) default)))=true∧(if (PV.asInt (List.getD (PV.cells (List.getD (List.map enc p) (0+Int.toNat k) default)) 0 default)==PV.asInt (List.getD (List.drop 1 [enc b.v,PV.int .i64 b.m]) 0 default))=true then(decide (0<=k)&&decide (0+Int.toNat k<n)&&List.length (List.map enc p)==n)=true∧((List.length (List.map enc p)==n&&decide (0+Int.toNat k<List.length (List.map enc p))&&List.length (PV.cells (PV.int .i64 0))==1&&decide (0+1<=List.length (PV.cells (List.getD (List.map enc p) (0+Int.toNat k) default)))&&PV.cellsOk (PV.int .i64 0))=true∧(AtS [.seq (.ext 99 [0,1,2,4])] Sa E 1 (Zq 1 Hl G) KO 0 52 [(0,(.yld l)),(1,(.pv (.rptr [(.sl 1 false (List.map enc b.v)),(.int .i64 b.m)]))),(2,(.pv (.rptr [(.sl 3 false (List.map enc fs))]))),(4,(.row 0 n 0 n)),(6,(Zc (IntKind.wrap IntKind.i64 (k - 1))))] [(.obj (.row false 3 1 (List.set (List.map enc p) (0+Int.toNat k) (PV.withCells (List.getD (List.map enc p) (0+Int.toNat k) default) (splice (PV.cells (List.getD (List.map enc p) (0+Int.toNat k) default)) 0 (PV.cells (PV.int .i64 0)))))))]))else(if (decide (k<0))=true then G (((.tup []),([(.row false 3 1 (List.map enc p))],[])))else((decide (0<=k)&&decide (0+Int.toNat k<n)&&List.length (List.map enc p)==n)=true∧((List.length (List.map enc p)==n&&decide (0+Int.toNat k<List.length (List.map enc p)))=true∧((Jz [Sh.int .i64] (PV.cells (List.getD (List.map enc p) (0+Int.toNat k) default)))=true∧((decide (0<=k)&&decide (0+Int.toNat k<n)&&List.length (List.map enc p)==n)=true∧((List.length (List.map enc p)==n&&decide (0+Int.toNat k<List.length (List.map enc p))&&List.length (PV.cells (PV.int .i64 (IntKind.wrap IntKind.i64 (PV.asInt (List.getD (PV.cells (List.getD (List.map enc p) (0+Int.toNat k) default)) 0 default)+1))))==1&&decide (0+1<=List.length (PV.cells (List.getD (List.map enc p) (0+Int.toNat k) default)))&&PV.cellsOk (PV.int .i64 (IntKind.wrap IntKind.i64 (PV.asInt (List.getD (PV.cells (List.getD (List.map enc p) (0+Int.toNat k) default)) 0 default)+1))))=true∧(E 99 ⟨Z4 52 0 [(0,(.yld l)),(1,(.pv (.rptr [(.sl 1 false (List.map enc b.v)),(.int .i64 b.m)]))),(2,(.pv (.rptr [(.sl 3 false (List.map enc fs))]))),(4,(.row 0 n 0 n))],[(.obj (.row false 3 1 (List.set (List.map enc p) (0+Int.toNat k) (PV.withCells (List.getD (List.map enc p) (0+Int.toNat k) default) (splice (PV.cells (List.getD (List.map enc p) (0+Int.toNat k) default)) 0 (PV.cells (PV.int .i64 (IntKind.wrap IntKind.i64 (PV.asInt (List.getD (PV.cells (List.getD (List.map enc p) (0+Int.toNat k) default)) 0 default)+1)))))))))]⟩ (fun x S'=>KZ Sa E 1 (Zq 1 Hl G) KO 99 x S')))))))))))else(if (decide (k<0))=true then G (((.tup []),([(.row false 3 1 (List.map enc p))],[])))else((decide (0<=k)&&decide (0+Int.toNat k<n)&&List.length (List.map enc p)==n)=true∧((List.length (List.map enc p)==n&&decide (0+Int.toNat k<List.length (List.map enc p)))=true∧((Jz [Sh.int .i64] (PV.cells (List.getD (List.map enc p) (0+Int.toNat k) default)))=true∧((decide (0<=k)&&decide (0+Int.toNat k<n)&&List.length (List.map enc p)==n)=true∧((List.length (List.map enc p)==n&&decide (0+Int.toNat k<List.length (List.map enc p))&&List.length (PV.cells (PV.int .i64 (IntKind.wrap IntKind.i64 (PV.asInt (List.getD (PV.cells (List.getD (List.map enc p) (0+Int.toNat k) default)) 0 default)+1))))==1&&decide (0+1<=List.length (PV.cells (List.getD (List.map enc p) (0+Int.toNat k) default)))&&PV.cellsOk (PV.int .i64 (IntKind.wrap IntKind.i64 (PV.asInt (List.getD (PV.cells (List.getD (List.map enc p) (0+Int.toNat k) default)) 0 default)+1))))=true∧(E 99 ⟨Z4 52 0 [(0,(.yld l)),(1,(.pv (.rptr [(.sl 1 false (List.map enc b.v)),(.int .i64 b.m)]))),(2,(.pv (.rptr [(.sl 3 false (List.map enc fs))]))),(4,(.row 0 n 0 n))],[(.obj (.row false 3 1 (List.set (List.map enc p) (0+Int.toNat k) (PV.withCells (List.getD (List.map enc p) (0+Int.toNat k) default) (splice (PV.cells (List.getD (List.map enc p) (0+Int.toNat k) default)) 0 (PV.cells (PV.int .i64 (IntKind.wrap IntKind.i64 (PV.asInt (List.getD (PV.cells (List.getD (List.map enc p) (0+Int.toNat k) default)) 0 default)+1)))))))))]⟩ (fun x S'=>KZ Sa E 1 (Zq 1 Hl G) KO 99 x S'))))))))):AtS [.seq (.ext 99 [0,1,2,4])] Sa E 1 (Zq 1 Hl G) KO 0 52 [(0,.yld l),(1,(.pv (.rptr [enc b.v,.int .i64 b.m]))),(2,(.pv (.rptr [enc fs]))),(4,.row 0 n 0 n),(6,.pv (.int .i64 k))] [.obj (.row false 3 1 (p.map enc))]:=ZF.mo (.lit (.ask (ZK 2 (.req (.keep (.lit (.req (.req (ZK 6 (.ask (.req (.keep (.req (.lit (.nil))))) (.lit (.ask (.nil) (.req (.keep (.req (.req (.lit (.req (.keep (.req (.nil))))))))))))))))))) (ZK 9 (.ask (.nil) (.req (.keep (.req (.req (.lit (.req (.keep (.req (.nil))))))))))))) h (by kernel_rfl)
theorem d8j{G:AV×List AObj×List AObj->Prop}(E:YN)(l:Nat)(b:BoxT)(fs:List Fact)(n:Nat)(p:List Int)(h:AtS [.seq (.ext 99 [0,1,2,4])] Sa E 1 (Zq 1 Hl G) KO 0 52 [(0,(.yld l)),(1,(.pv (.rptr [(.sl 1 false (List.map enc b.v)),(.int .i64 b.m)]))),(2,(.pv (.rptr [(.sl 3 false (List.map enc fs))]))),(4,(.row 0 n 0 n)),(6,(Zc (IntKind.wrap IntKind.i64 ((↑(n - 0):Int) - 1))))] [(.obj (.row false 3 1 (List.map enc p)))]):ZF Sa E 1 (Zq 1 Hl G) (.inl KO) [.seq (.ext 99 [0,1,2,4])] ⟨Z4 52 0 [(0,.yld l),(1,(.pv (.rptr [enc b.v,.int .i64 b.m]))),(2,(.pv (.rptr [enc fs]))),(4,.row 0 n 0 n)],[.obj (.row false 3 1 (p.map enc))]⟩:=ZF.mo (.lit (.nil)) h (by kernel_rfl)
noncomputable def Vg:IC:=Wn Proofs.Tryz.f48
def Vp:List IRes:=[(.tmp 4)]
abbrev b4g:Nat:=31
def Us:ZU:=Xe []
theorem b9h{G:AV×List AObj×List AObj->Prop}(b:BoxT)(m:Nat)(p:List Int)(h:At Us 1 (Vw 1 Vp G) Vg 0 31 [(1,(.row 0 m 0 m)),(2,(.ptr 1 0)),(5,(.pv (.sl 0 true []))),(12,(Zc (if false=true then if (↑(List.length (List.map enc b.v)):Int)>(↑(m - 0):Int)then(↑(List.length (List.map enc b.v)):Int)else(↑(m - 0):Int)else if (↑(List.length (List.map enc b.v)):Int)<(↑(m - 0):Int)then(↑(List.length (List.map enc b.v)):Int)else(↑(m - 0):Int)))),(13,(Zc 0))] [(.obj (.row false 3 1 (List.map enc p))),(.obj (.box [(Y3 b.v),(Zc b.m)]))]):Ze Us 1 (Vw 1 Vp G) Vg [] (Y5 31 [.pv (enc b),.row 0 m 0 m] [.row false 3 1 (p.map enc)]):=Ze.tf (.nil) h (by kernel_rfl)
theorem R5{G:AV×List AObj×List AObj->Prop}(b:BoxT)(m:Nat)(p:List Int)(n i:Int)(h:if (decide (i<n))=true then(decide (0<=i)&&decide (Int.toNat i<List.length (List.map enc b.v))&&Enc.sz Str==1)=true∧(Xc b.v i fun y0:Str=>(decide (0<=i)&&decide (0+Int.toNat i<m)&&List.length (List.map enc p)==m)=true∧((List.length (List.map enc p)==m&&decide (0+Int.toNat i<List.length (List.map enc p)))=true∧((Jz [Sh.int .i64] (PV.cells (List.getD (List.map enc p) (0+Int.toNat i) default)))=true∧(At Us 1 (Vw 1 Vp G) Vg 0 31 [(1,(.row 0 m 0 m)),(2,(.ptr 1 0)),(5,(.row 2 1 0 1)),(12,(Zc n)),(13,(Zc (IntKind.wrap IntKind.i64 (i+1))))] [(.obj (.row false 3 1 (List.map enc p))),(.obj (.box [(Y3 b.v),(Zc b.m)])),(.obj (.row false 63 2 [(.agg [(.str (PV.asStr (Yp y0))),(.int .i64 (PV.asInt (List.getD (PV.cells (List.getD (List.map enc p) (0+Int.toNat i) default)) 0 default)))])]))]))))else(G (((.pv (.sl 0 true [])),([(.row false 3 1 (List.map enc p))],[]))))):At Us 1 (Vw 1 Vp G) Vg 0 31 [(1,.row 0 m 0 m),(2,.ptr 1 0),(5,.pv (.sl 0 true [])),(12,.pv (.int .i64 n)),(13,.pv (.int .i64 i))] [.obj (.row false 3 1 (p.map enc)),.obj (.box [.pv (enc b.v),.pv (.int .i64 b.m)])]:=At.tf (.lit (.ask (.req (Xa (Str) (.lit (.req (.keep (.req (.req (Yo 6)))))))) (.nil))) h (by kernel_rfl)
theorem RA{G:AV×List AObj×List AObj->Prop}(b:BoxT)(m:Nat)(p:List Int)(n i:Int)(q:Nat)(vs:List Coef)(h:if (decide (i<n))=true then(decide (0<=i)&&decide (Int.toNat i<List.length (List.map enc b.v))&&Enc.sz Str==1)=true∧(Xc b.v i fun y0:Str=>(decide (0<=i)&&decide (0+Int.toNat i<m)&&List.length (List.map enc p)==m)=true∧((List.length (List.map enc p)==m&&decide (0+Int.toNat i<List.length (List.map enc p)))=true∧((Jz [Sh.int .i64] (PV.cells (List.getD (List.map enc p) (0+Int.toNat i) default)))=true∧((List.length (List.map enc vs)==q&&q==q&&decide ((q+List.length (List.drop 0 (List.take 1 [PV.agg [Sh.co Sh.str (Yp y0),Sh.co (Sh.int .i64) (List.getD (PV.cells (List.getD (List.map enc p) (0+Int.toNat i) default)) 0 default)]])))*24<=1099511627776)&&decide (q+List.length (List.drop 0 (List.take 1 [PV.agg [Sh.co Sh.str (Yp y0),Sh.co (Sh.int .i64) (List.getD (PV.cells (List.getD (List.map enc p) (0+Int.toNat i) default)) 0 default)]]))<=1099511627776))=true∧(At Us 1 (Vw 1 Vp G) Vg 0 31 [(1,(.row 0 m 0 m)),(2,(.ptr 1 0)),(5,(.row 2 (q+List.length (List.drop 0 (List.take 1 [PV.agg [Sh.co Sh.str (Yp y0),Sh.co (Sh.int .i64) (List.getD (PV.cells (List.getD (List.map enc p) (0+Int.toNat i) default)) 0 default)]]))) 0 (q+List.length (List.drop 0 (List.take 1 [PV.agg [Sh.co Sh.str (Yp y0),Sh.co (Sh.int .i64) (List.getD (PV.cells (List.getD (List.map enc p) (0+Int.toNat i) default)) 0 default)]]))))),(12,(Zc n)),(13,(Zc (IntKind.wrap IntKind.i64 (i+1))))] [(.obj (.row false 3 1 (List.map enc p))),(.obj (.box [(Y3 b.v),(Zc b.m)])),(.obj (.row false 63 2 (List.map enc vs++List.drop 0 (List.take 1 [PV.agg [Sh.co Sh.str (Yp y0),Sh.co (Sh.int .i64) (List.getD (PV.cells (List.getD (List.map enc p) (0+Int.toNat i) default)) 0 default)]]))))])))))else((List.length (List.map enc vs)==q)=true∧(G (((.pv (.sl 2 false (List.drop 0 (List.take q (List.map enc vs))))),([(.row false 3 1 (List.map enc p))],[])))))):At Us 1 (Vw 1 Vp G) Vg 0 31 [(1,.row 0 m 0 m),(2,.ptr 1 0),(5,.row 2 q 0 q),(12,.pv (.int .i64 n)),(13,.pv (.int .i64 i))] [.obj (.row false 3 1 (p.map enc)),.obj (.box [.pv (enc b.v),.pv (.int .i64 b.m)]),.obj (.row false 63 2 (vs.map enc))]:=At.tf (.lit (.ask (.req (Xa (Str) (.lit (.req (.keep (.req (.req (ZK 2 (.req (.lit (.nil))))))))))) (.req (.nil)))) h (by kernel_rfl)
end Go.Pl
namespace Go.Pl
open Go.RowKit
open Enc (enc dec is)
open EncL (encL decL isL)
theorem Ke{l:List Int}{i:Nat}(h:i<l.length):List.getD (List.map (enc:Int->PV) l) (0+Int.toNat (i:Int)) default=enc l[i]:=by simp[List.getD,h]
theorem Ea(b:BoxT)(p:List Int)(hb:b.v.length<=1000)(hp:p.length<=1000): ∀ (k i:Nat),k+i=min b.v.length p.length->1<=i ->
  At Us 1 (Vw 1 Vp fun r=> ∃ q q',r.1 = .pv q∧Sub q q'∧((.pv (.sl 2 false ((Zf b.v p).map enc)),[.row false 3 1 (p.map enc)],[]):AV×List AObj×List AObj)=(.pv q',r.2)) Vg 0 31 [(1,.row 0 p.length 0 p.length),(2,.ptr 1 0),(5,.row 2 i 0 i),(12,.pv (.int .i64 ((min b.v.length p.length:Nat):Int))),(13,.pv (.int .i64 i))] [.obj (.row false 3 1 (p.map enc)),.obj (.box [.pv (enc b.v),.pv (.int .i64 b.m)]),.obj (.row false 63 2 ((Zf (b.v.take i) (p.take i)).map enc))]:=by
 intro k
 induction k with
 | zero=>
  intro i hi h1
  have hl:=Jv b.v p (i:=i) (by omega) (by omega)
  refine RA b p.length p _ i i (Zf (b.v.take i) (p.take i)) (ZG (Yt (by omega)) ⟨by simp[hl],?_⟩)
  rw[List.drop_zero,List.take_of_length_le (by rw[List.length_map,hl];exact Nat.le_refl _),Ty b.v p (by omega)]
  exact⟨_,_,rfl,Sub.refl _,rfl⟩
 | succ k ih=>
  intro i hi h1
  have hl:=Jv b.v p (i:=i) (by omega) (by omega)
  have hlt:i<b.v.length:=by omega
  have hlt2:i<p.length:=by omega
  have e:=Ke hlt2
  refine RA b p.length p _ i i (Zf (b.v.take i) (p.take i)) (ZA (Yi (by omega)) ⟨Zn hlt rfl,Zu hlt ⟨by simp;omega,by simp;omega,?_,?_,?_⟩⟩)
  ·rw[e];rfl
  ·rw[List.length_map,hl]
   show((i==i)&&(i==i)&&decide ((i+1)*24<=1099511627776)&&decide (i+1<=1099511627776))=true
   rw[decide_eq_true (by omega),decide_eq_true (by omega)];simp
  ·have:=ih (i+1) (by omega) (by omega)
   rw[QU b.v p hlt hlt2,List.map_append,<- next (by omega)]at this
   rw[e]
   exact this
theorem CO(l:List Int):PD (l.map enc)=l:=Enc.dec_enc l
theorem a3e: ∀ args os,WM args os=true->Ze Us os.length (Vw os.length Vp fun r=> ∃ p p',r.1 = .pv p∧Sub p p'∧Qg args os=(.pv p',r.2)) Vg [] (Y5 b4g args os):=by
 intro args os h
 unfold WM at h
 split at h
 ·rename_i v k n m ty xs
  simp only[Bool.and_eq_true,beq_iff_eq,decide_eq_true_eq]at h
  obtain⟨⟨⟨⟨⟨⟨rfl,h2⟩,rfl⟩,h4⟩,h5⟩,h6⟩,h7⟩:=h
  obtain⟨p,hp⟩:=YG h4
  have hp:PV.sl 1 false xs=PV.sl 1 false (p.map enc):=hp
  injection hp with _ _ hx
  subst hx
  obtain⟨bv,rfl⟩:=YG h5
  rw[Enc.dec_enc]at h6
  rw[List.length_map]at h2
  subst h2
  have ev:Qg [.pv (.agg [enc bv,.int .i64 k]),.row 0 p.length 0 p.length] [.row false 3 1 (p.map enc)]=(.pv (.sl 2 false ((Zf bv p).map enc)),[.row false 3 1 (p.map enc)],[]):=by
   show(AV.pv (.sl 2 false ((Zf (dec (enc bv:PV)) (PD (p.map enc))).map enc)),_,_)=_
   rw[Enc.dec_enc,CO]
  rw[ev]
  refine b9h ⟨bv,k⟩ p.length p ?_
  simp only[List.length_map]
  rw[if_neg (by decide)]
  have em:(if ((bv.length:Nat):Int)<((p.length - 0:Nat):Int)then(bv.length:Int)else((p.length - 0:Nat):Int))=((min bv.length p.length:Nat):Int):=by
   split <;> omega
  rw[em]
  by_cases h0:min bv.length p.length=0
  ·rw[h0]
   refine R5 ⟨bv,k⟩ p.length p 0 0 (ZG (by decide) ?_)
   have:Zf bv p=[]:=by
    rw[<- List.length_eq_zero_iff];unfold Zf;rw[List.length_zipWith];exact h0
   rw[this]
   exact⟨_,_,rfl,Sub.sl0 0 2 true,rfl⟩
  ·have hlt:0<bv.length:=by omega
   have hlt2:0<p.length:=by omega
   have e:=Ke hlt2
   refine R5 ⟨bv,k⟩ p.length p _ 0 (ZA (Yi (i:=0) (by omega)) ⟨Zn hlt rfl,Zu hlt ⟨by simp;omega,by simp;omega,?_,?_⟩⟩)
   ·have e:List.getD (List.map (enc:Int->PV) p) (0+Int.toNat 0) default=enc p[0]:=e
    rw[e];rfl
   ·have:=Ea ⟨bv,k⟩ p h6 h7 (min bv.length p.length - 1) 1 (by show min bv.length p.length - 1+1=min bv.length p.length;omega) (by omega)
    rw[show(1:Nat)=0+1 from rfl,QU bv p hlt hlt2]at this
    have e:List.getD (List.map (enc:Int->PV) p) (0+Int.toNat 0) default=enc p[0]:=e
    rw[e]
    exact this
 ·cases h
def Dh(l:Nat)(b:BoxT)(fs:List Fact)(n:Nat):List AV:=Z4 52 0 [(0,.yld l),(1,.pv (.rptr [enc b.v,.int .i64 b.m])),(2,.pv (.rptr [enc fs])),(4,.row 0 n 0 n)]
def Xf(p:List Int):ZE:=[.obj (.row false 3 1 (p.map enc))]
def c6q(l:Nat)(b:BoxT)(fs:List Fact)(n:Nat)(p:List Int):List AV:=Z4 52 0 [(0,.yld l),(1,.pv (.rptr [enc b.v,.int .i64 b.m])),(2,.pv (.rptr [enc fs])),(4,.row 0 n 0 n),(5,.pv (enc (Zf b.v p)))]
theorem d0l(l:Nat)(b:BoxT)(fs:List Fact)(hb:b.v.length<=1000):ZF a8k (fun n S' _=>n=99∧S'=⟨Dh l b fs b.v.length,Xf (WS b.v)⟩) 0 (Zq 0 a4u fun _=>False) (.inl FE) [.seq (.ext 99 [0,1,2,4])] ⟨Z4 52 0 [(0,.yld l),(1,.pv (.rptr [enc b.v,.int .i64 b.m])),(2,.pv (.rptr [enc fs]))],[]⟩:=by
 have e:PV.asXs (List.getD (List.drop 0 [enc b.v,PV.int .i64 b.m]) 0 default)=b.v.map enc:=rfl
 have en:Int.toNat ((List.length (List.map (enc:Str->PV) b.v):Nat):Int)=b.v.length:=by simp
 have ez:List.replicate b.v.length (PV.int .i64 0)=(WS b.v).map enc:=by
  unfold WS
  rw[List.map_map]
  exact(List.map_const' ..).symm
 refine d6f (G:=fun _=>False) _ l b fs ⟨?_,rfl,?_⟩
 ·simp only[e,List.length_map]
  simp
  omega
 ·simp only[e,en,ez]
  rfl
theorem d3c(l:Nat)(b:BoxT)(fs:List Fact)(p:List Int)(hb:b.v.length<=1000)(hp:p.length<=1000):ZF c5s (fun n S' _=>n=99∧S'=⟨c6q l b fs p.length p,Xf p⟩) 1 (Zq 1 a3y fun _=>False) (.inl FJ) [.seq (.ext 99 [0,1,2,4,5])] ⟨Dh l b fs p.length,Xf p⟩:=by
 refine d5q (G:=fun _=>False) _ l b fs p.length p ⟨?_,rfl,?_⟩
 ·show(p.length==p.length&&(p.map enc).length==p.length&&3==3&&WN (List Int) (enc p)&&WN (List Str) (enc b.v)&&decide ((dec (enc b.v:PV):List Str).length<=1000)&&decide (p.length<=1000))=true
  rw[ZR,ZR,Enc.dec_enc,decide_eq_true hb,decide_eq_true hp];simp
 ·have e1:Zf (dec (Sh.co (Sh.sl 1) (List.getD [enc b.v,PV.int .i64 b.m] 0 default))) (PD (p.map enc))=Zf b.v p:=by
   rw[CO]
   show Zf (dec (enc b.v:PV)) p=_
   rw[Enc.dec_enc]
  rw[e1]
  rfl
theorem b9i(l:Nat)(b:BoxT)(fs:List Fact): ∀ (k:Nat) (p:List Int),k<=p.length->p.length<=1000->(∀ x∈p,-1<=x∧x<=20000) ->
  AtS [.seq (.ext 99 [0,1,2,4])] Sa (fun n S' _=>n=99∧ ∃ q,Xj b.m k p=some q∧S'=⟨Dh l b fs p.length,Xf q⟩) 1 (Zq 1 Hl fun _=>Xj b.m k p=none) KO 0 52 [(0,.yld l),(1,.pv (.rptr [enc b.v,.int .i64 b.m])),(2,.pv (.rptr [enc fs])),(4,.row 0 p.length 0 p.length),(6,.pv (.int .i64 ((k:Int) - 1)))] (Xf p):=by
 intro k
 induction k with
 | zero=>
  intro p hk hp hx
  exact b9j (G:=fun _=>Xj b.m 0 p=none) _ l b fs p.length p _ (ZG (by simp) (ZA (by simp) rfl))
 | succ k ih=>
  intro p hk hp hx
  have hlt:k<p.length:=by omega
  have ek:((k+1:Nat):Int) - 1=(k:Int):=by omega
  rw[ek]
  have e:=Ke hlt
  have eg:p.getD k 0=p[k]:=by simp[List.getD,hlt]
  have hxk:=hx _ (List.getElem_mem hlt)
  have em:PV.asInt (List.getD (List.drop 1 [enc b.v,PV.int .i64 b.m]) 0 default)=b.m:=rfl
  have q1:(decide (0<=(k:Int))&&decide (0+Int.toNat (k:Int)<p.length)&&List.length (List.map (enc:Int->PV) p)==p.length)=true:=by simp;omega
  have q2:(List.length (List.map (enc:Int->PV) p)==p.length&&decide (0+Int.toNat (k:Int)<List.length (List.map (enc:Int->PV) p)))=true:=by simp;omega
  have hset : ∀ y:Int,List.set (List.map (enc:Int->PV) p) (0+Int.toNat (k:Int)) (enc y)=(p.set k y).map enc:=fun y=>by rw[Nat.zero_add,Int.toNat_natCast,List.map_set]
  refine b9j (G:=fun _=>Xj b.m (k+1) p=none) _ l b fs p.length p k (ZA (by simp) ?_)
  rw[e]
  refine⟨q1,q2,rfl,Ko (fun h=>⟨q1,?_,?_⟩) fun h=>ZG (by simp) ⟨q1,q2,rfl,q1,?_,?_⟩⟩
  ·rw[q2];rfl
  ·have h:p[k]=b.m:=h
   have hn:Xj b.m (k+1) p=Xj b.m k (p.set k 0):=by rw[Xj,eg,if_pos h]
   rw[hn]
   have hw:IntKind.i64.wrap ((k:Int) - 1)=(k:Int) - 1:=Y2 (by omega) (by omega)
   rw[hw]
   have:=ih (p.set k 0) (by rw[List.length_set];omega) (by rw[List.length_set];exact hp) (fun x hx'=>by
    rcases List.mem_or_eq_of_mem_set hx' with h|rfl
    ·exact hx x h
    ·omega)
   rw[List.length_set]at this
   have e0:=hset 0
   unfold Xf at this
   rw[<- e0]at this
   exact this
  ·rw[q2];rfl
  ·have h : ¬ p[k]=b.m:=h
   have hn:Xj b.m (k+1) p=some (p.set k (p[k]+1)):=by rw[Xj,eg,if_neg h]
   have hw:IntKind.i64.wrap (p[k]+1)=p[k]+1:=Y2 (by omega) (by omega)
   refine⟨rfl,_,hn,?_⟩
   have e0:=hset (IntKind.i64.wrap (p[k]+1))
   show(⟨Dh l b fs p.length,[.obj (.row false 3 1 (List.set (List.map (enc:Int->PV) p) (0+Int.toNat (k:Int)) (enc (IntKind.i64.wrap (p[k]+1)))))]⟩:St)=_
   rw[e0,hw]
   rfl
theorem d1w(l:Nat)(b:BoxT)(fs:List Fact)(p:List Int)(hp:p.length<=1000)(hx : ∀ x∈p,-1<=x∧x<=20000):ZF Sa (fun n S' _=>n=99∧ ∃ q,UI b.m p=some q∧S'=⟨Dh l b fs p.length,Xf q⟩) 1 (Zq 1 Hl fun _=>UI b.m p=none) (.inl KO) [.seq (.ext 99 [0,1,2,4])] ⟨Dh l b fs p.length,Xf p⟩:=by
 refine d8j (G:=fun _=>UI b.m p=none) _ l b fs p.length p ?_
 have hw:IntKind.i64.wrap (((p.length - 0:Nat):Int) - 1)=((p.length:Nat):Int) - 1:=by rw[Nat.sub_zero];exact Y2 (by omega) (by omega)
 rw[hw]
 exact b9i l b fs p.length p (Nat.le_refl _) hp hx
end Go.Pl
namespace Go.Pl
open Go.RowKit
open Enc (enc dec is)
open EncL (encL decL isL)
set_option maxRecDepth 100000
noncomputable def Uc:IC:=Wn Proofs.Tryz.f53
def V8:List IRes:=[(.tmp 4)]
abbrev b3x:Nat:=41
def Qs:ZU:=Xe [(65,.pure (preT (fun x:Lin×List Coef×Unit=>Z9 x.1&&decide (x.2.1.length<=9223372036854775807))) (Zw (fun x:Lin×List Coef×Unit=>ZZ x.1 x.2.1)))]
theorem b9l{G:PV->Prop}(fs:List Fact)(v:List Coef)(h:At Qs 0 (Za V8 G) Uc 0 41 [(0,(.pv (.sl 3 false (List.map enc fs)))),(1,(ZM v)),(5,(Zc 0))] []):Ze Qs 0 (Za V8 G) Uc [] (Yn 41 [enc fs,enc v]):=Ze.tp (.nil) h (by kernel_rfl)
theorem NV{G:PV->Prop}(fs:List Fact)(v:List Coef)(i:Int)(h:if (Rx fs i)=true then Vt fs i 3∧(Xc fs i fun y0:Fact=>(Go.Pl.preT (fun(x:Lin×List Coef×Unit)=>Z9 x.1&&decide (List.length x.2.1<=9223372036854775807)) [(.agg [(.int .i64 (PV.asInt (WY y0))),(.sl 2 false (PV.asXs (List.getD (List.drop 1 (PV.cells (enc y0))) (0+1) default)))]),(.sl 2 false (List.map enc v))])=true∧(Yk (fun(x:Lin×List Coef×Unit)=>ZZ x.1 x.2.1) [(.agg [(.int .i64 (PV.asInt (WY y0))),(.sl 2 false (PV.asXs (List.getD (List.drop 1 (PV.cells (enc y0))) (0+1) default)))]),(.sl 2 false (List.map enc v))] fun y1:Int×Int=>if (y1.2 != 0)=true then G ((.bool false))else(if (decide (y1.1<0))=true then G ((.bool false))else(Vt fs i 3∧(Xc fs i fun y2:Fact=>if (PV.asBool (List.getD (List.drop 0 (PV.cells (enc y2))) 0 default))=true then if (y1.1 != 0)=true then G ((.bool false))else(At Qs 0 (Za V8 G) Uc 0 41 [(0,(.pv (.sl 3 false (List.map enc fs)))),(1,(ZM v)),(5,(Zc (IntKind.wrap IntKind.i64 (i+1))))] [])else(At Qs 0 (Za V8 G) Uc 0 41 [(0,(.pv (.sl 3 false (List.map enc fs)))),(1,(ZM v)),(5,(Zc (IntKind.wrap IntKind.i64 (i+1))))] []))))))else(G ((.bool true)))):At Qs 0 (Za V8 G) Uc 0 41 [(0,.pv (enc fs)),(1,.pv (enc v)),(5,.pv (.int .i64 i))] []:=At.tp (.lit (.ask (.req (Xa (Fact) (.lit (.req (Yj (Int×Int) (.lit (.ask (Yo 11) (ZK 3 (.ask (Yo 8) (ZK 2 (.req (Xa (Fact) (ZK 4 (.ask (ZK 5 (.ask (.nil) (.lit (.nil)))) (Yo 6))))))))))))))) (.nil))) h (by kernel_rfl)
end Go.Pl
namespace Go.Pl
open Go.RowKit
open Enc (enc dec is)
open EncL (encL decL isL)
set_option maxRecDepth 100000
end Go.Pl
namespace Go.Pl
open Go.RowKit
open Enc (enc dec is)
open EncL (encL decL isL)
structure Cert2 where
 a:Cert
 b:Cert
instance:Enc Cert2 where
 sz:=10
 enc x:=.agg (PV.cells (enc x.a)++PV.cells (enc x.b))
 dec | .agg [a,b,c,d,e,f,g,h,i,j]=>⟨dec (.agg [a,b,c,d,e]),dec (.agg [f,g,h,i,j])⟩|_=>⟨.mk 0 [] ⟨0,[]⟩ [],.mk 0 [] ⟨0,[]⟩ []⟩
 is | .agg [a,b,c,d,e,f,g,h,i,j]=>is Cert (.agg [a,b,c,d,e])&&is Cert (.agg [f,g,h,i,j])|_=>false
 is_enc v:=by
  obtain⟨⟨k,m,l,ks⟩,⟨k',m',l',ks'⟩⟩:=v
  rw[Qp,Qp]
  show(is Cert (.agg [enc k,enc m,enc l.k,enc l.t,enc ks])&&is Cert (.agg [enc k',enc m',enc l'.k,enc l'.t,enc ks']))=true
  rw[<- Qp,<- Qp,Enc.is_enc,Enc.is_enc];rfl
 dec_enc v:=by
  obtain⟨⟨k,m,l,ks⟩,⟨k',m',l',ks'⟩⟩:=v
  rw[Qp,Qp]
  show(⟨dec (.agg [enc k,enc m,enc l.k,enc l.t,enc ks]),dec (.agg [enc k',enc m',enc l'.k,enc l'.t,enc ks'])⟩:Cert2)=_
  rw[<- Qp,<- Qp,Enc.dec_enc,Enc.dec_enc]
 sub p h:=by
  cases p with
  | agg xs=>
   match xs,h with
   | [a,b,c,d,e,f,g,h',i,j],h=>
    simp only[Bool.and_eq_true]at h
    have h1:=Enc.sub (α:=Cert) _ h.1
    have h2:=Enc.sub (α:=Cert) _ h.2
    exact KN.agg (h1.1.append h2.1)
  | _=>cases h
theorem d7x{l:Lin}{n:Int}(h:JK l n=true)(hl:Z9 l=true):Z0 l=true:=by
 simp only[JK,Bool.and_eq_true,List.all_eq_true,decide_eq_true_eq]at h
 simp only[Z0,hl,Bool.true_and,List.all_eq_true,decide_eq_true_eq]
 intro t ht
 have:=h.1 t ht
 omega
mutual
theorem c9g: ∀ (c:Cert) (n:Int),n<=12->a5n c n=true->cOk c=true->1<=n∧(d6m c:Int)<=n∧1<=R7 c∧R7 c<=n∧cSm c=true
 | .mk k m l ks,n,hn,h,ho=>by
  simp only[a5n,Bool.and_eq_true,Bool.not_eq_true',decide_eq_false_iff_not]at h
  obtain⟨h1,h2,h3,h4,h5⟩:=h
  simp only[cOk,Bool.and_eq_true,decide_eq_true_eq]at ho
  obtain⟨⟨⟨o1,o2⟩,o3⟩,o4⟩:=ho
  obtain⟨a1,a2,a3,a4⟩:=a1k ks n 1 (by omega) hn (by omega) (by omega) h5 o4
  rw[d6m,R7]
  refine⟨by omega,by omega,by omega,by omega,?_⟩
  simp only[cSm,d7x h2 o2,a4,decide_eq_true o1,decide_eq_true o3]
  rfl
theorem a1k: ∀ (cs:List Cert) (n s:Int),1<=n->n<=12->1<=s->s<=100 - n->SS cs n=true->b2q cs=true->(a2m cs:Int)<=n - 1∧s<=Br s cs∧Br s cs<=s+n - 1∧b6j cs=true
 | [],n,s,h1,h2,h3,h4,_,_=>by
  rw[a2m,Br]
  exact⟨by omega,by omega,by omega,rfl⟩
 | c::cs,n,s,h1,h2,h3,h4,h,ho=>by
  simp only[SS,Bool.and_eq_true]at h
  simp only[b2q,Bool.and_eq_true]at ho
  rw[Y2 (by omega) (by omega)]at h
  obtain⟨b1,b2,b3,b4,b5⟩:=c9g c (n - 1) (by omega) h.1 ho.1
  have h':=h.2
  rw[Y2 (by omega) (by omega)]at h'
  obtain⟨a1,a2,a3,a4⟩:=a1k cs (n - R7 c) (s+R7 c) (by omega) (by omega) (by omega) (by omega) h' ho.2
  rw[a2m,Br,Y2 (by omega) (by omega)]
  refine⟨by omega,by omega,by omega,?_⟩
  simp only[b6j,b5,a4]
  rfl
end
end Go.Pl
namespace Go.Pl
open Go.RowKit
open Enc (enc dec is)
open EncL (encL decL isL)
set_option maxRecDepth 100000
end Go.Pl
namespace Go.Pl
open Go.RowKit
open Enc (enc dec is)
open EncL (encL decL isL)
theorem a8d{a b:Int}(hb:0<b)(ha1 : -4611686018427387904<=a)(ha2:a<=4611686018427387904):b*b3r a b<=a∧a<b*b3r a b+b:=by
 have h1:=Int.mul_tdiv_add_tmod a b
 have hlt:(a.tmod b).natAbs<b.natAbs:=by
  rw[Int.natAbs_tmod]
  exact Nat.mod_lt _ (by omega)
 have hsgn:(0<=a->0<=a.tmod b)∧(a<=0->a.tmod b<=0):=by
  constructor
  ·intro h;exact Int.tmod_nonneg b h
  ·intro h
   have:=Int.tmod_nonneg b (show 0 <= -a by omega)
   rw[Int.neg_tmod]at this
   omega
 have hq:(a.tdiv b).natAbs<=a.natAbs:=by rw[Int.natAbs_tdiv];exact Nat.div_le_self _ _
 have hw:XI (a.tdiv b)=a.tdiv b:=Y2 (by omega) (by omega)
 generalize hQ:a.tdiv b=q at *
 generalize hR:a.tmod b=r at *
 have hcomm:q*b=b*q:=Int.mul_comm _ _
 unfold b3r
 rw[hQ,hR,hw]
 rw[Int.mul_comm]at h1
 split
 ·rename_i hc
  have hneg:a<0:=by
   have h2:=hc.2
   have hb0:decide (b<0)=false:=by simp;omega
   rw[hb0]at h2
   simpa using h2
  have hne:r≠0:=hc.1
  rw[Y2 (by omega) (by omega),Int.mul_sub,Int.mul_one]
  have:=hsgn.2 (by omega)
  omega
 ·rename_i hc
  have hr:0<=r:=by
   by_cases h0:r=0
   ·omega
   ·by_cases hn:a<0
    ·exact absurd ⟨h0,by simp[hn];omega⟩ hc
    ·exact hsgn.1 (by omega)
  omega
theorem El(l:List Fact)(v:List Coef)(hl:Zl l=true)(hv:v.length<=9223372036854775807): ∀ (j i:Nat),j+i=l.length->At Qs 0 (Za V8 (Zi ((l.drop i).all fun f=>Yx f v))) Uc 0 41 [(0,.pv (enc l)),(1,.pv (enc v)),(5,.pv (.int .i64 i))] []:=by
 intro j
 induction j with
 | zero=>
  intro i hi
  exact NV l v i (ZG (YY (by omega)) (ZW (by rw[List.drop_of_length_le (by omega)];rfl)))
 | succ j ih=>
  intro i hi
  have hl':=hl
  simp only[Zl,Bool.and_eq_true,decide_eq_true_eq,List.all_eq_true]at hl'
  have hlt:i<l.length:=by omega
  have h:=ih (i+1) (by omega)
  have ho:Z9 l[i].l=true:=by
   have:=hl'.2 _ (List.getElem_mem hlt)
   simp only[Z0,Bool.and_eq_true]at this
   exact this.1
  refine NV l v i (ZA (Yy hlt) ⟨Zn hlt rfl,Zu hlt ⟨Zk (l[i].l,v,()) rfl (by show(Z9 l[i].l&&decide (v.length<=9223372036854775807))=true;rw[ho,decide_eq_true hv];rfl),Zg (l[i].l,v,()) rfl ?_⟩⟩)
  rw[List.drop_eq_getElem_cons hlt,List.all_cons,next (by omega)]
  refine Ht (fun h1=> ?_) fun h1=>XJ (fun h2=> ?_) fun h2=>⟨Zn hlt rfl,Zu hlt (WP (fun h3=>Ht (fun h4=> ?_) fun h4=> ?_) fun h3=> ?_)⟩
  ·have h1:(ZZ l[i].l v).2≠0:=by simpa using h1
   exact ZW (by simp[Yx,h1])
  all_goals have h1:(ZZ l[i].l v).2=0:=by simpa using h1
  ·have h2:(ZZ l[i].l v).1<0:=h2
   exact ZW (by simp[Yx,h1,h2])
  all_goals have h2 : ¬ (ZZ l[i].l v).1<0:=h2
  all_goals have h3:l[i].eq=_:=h3
  ·have h4:(ZZ l[i].l v).1≠0:=by simpa using h4
   exact ZW (by simp[Yx,h1,h2,h3,h4])
  ·have h4:(ZZ l[i].l v).1=0:=by simpa using h4
   have e:Yx l[i] v=true:=by simp[Yx,h1,h3,h4]
   rw[e,Bool.true_and]
   exact h
  ·have e:Yx l[i] v=true:=by
    have h2':decide ((ZZ l[i].l v).1<0)=false:=decide_eq_false h2
    simp only[Yx,h1,h3,h2']
    rfl
   rw[e,Bool.true_and]
   exact h
theorem a6w: ∀ a:List Fact×List Coef×Unit,(Zl a.1&&decide (a.2.1.length<=9223372036854775807))=true->Ze Qs 0 (Za V8 (Zi (a.1.all fun f=>Yx f a.2.1))) Uc [] (Yn b3x (encL a)):=by
 rintro⟨l,v,⟨⟩⟩ h
 simp only[Bool.and_eq_true,decide_eq_true_eq]at h
 exact b9l l v (El l v h.1 h.2 l.length 0 rfl)
end Go.Pl
namespace Go.Pl
open Go.RowKit
def Yl(ts:List Coef)(s:List UInt8):Int:=((ts.find? fun t=>t.v.s==s).map (·.c)).getD 0
def Qt(ts:List Coef):Prop:=ts.Pairwise fun a b=>a.v.s<b.v.s
def nzP(ts:List Coef):Prop:= ∀ t∈ts,t.c≠0
theorem QT(s:List UInt8):Yl [] s=0:=rfl
theorem ZY(t:Coef)(ts:List Coef)(s:List UInt8):Yl (t::ts) s=if t.v.s=s then t.c else Yl ts s:=by
 simp only[Yl,List.find?_cons]
 by_cases h:t.v.s=s
 ·simp[h]
 ·have:(t.v.s==s)=false:=by simpa using h
  simp[this,h]
theorem Ql{s:List UInt8}: ∀ {ts:List Coef},(∀ t∈ts,s<t.v.s)->Yl ts s=0
 | [],_=>rfl
 | t::ts,h=>by
  have h1:=h t (by simp)
  rw[ZY,if_neg (fun e=>by rw[e]at h1;exact List.lt_irrefl _ h1)]
  exact Ql fun u hu=>h u (by simp[hu])
theorem Wp{t:Coef}{ts:List Coef}:Qt (t::ts) ↔ (∀ u∈ts,t.v.s<u.v.s)∧Qt ts:=List.pairwise_cons
theorem Mc: ∀ {a b:List Coef},Qt a->nzP a->Qt b->nzP b->(∀ s,Yl a s=Yl b s)->a=b
 | [],[],_,_,_,_,_=>rfl
 | [],y::ys,_,_,_,hn,h=>by
  have:=h y.v.s
  rw[QT,ZY,if_pos rfl]at this
  exact absurd this.symm (hn y (by simp))
 | x::xs,[],_,hn,_,_,h=>by
  have:=h x.v.s
  rw[QT,ZY,if_pos rfl]at this
  exact absurd this (hn x (by simp))
 | x::xs,y::ys,ha,hna,hb,hnb,h=>by
  obtain⟨ha1,ha2⟩:=Wp.1 ha
  obtain⟨hb1,hb2⟩:=Wp.1 hb
  have hxy:x.v.s=y.v.s:=by
   by_cases h1:x.v.s<y.v.s
   ·have e:=h x.v.s
    rw[ZY,if_pos rfl,Ql (ts:=y::ys) (fun t ht=>by
     rcases List.mem_cons.1 ht with rfl|ht
     ·exact h1
     ·exact List.lt_trans h1 (hb1 t ht))]at e
    exact absurd e (hna x (by simp))
   ·by_cases h2:x.v.s=y.v.s
    ·exact h2
    ·have h3:=tri h1 h2
     have e:=h y.v.s
     rw[ZY (t:=y),if_pos rfl,Ql (ts:=x::xs) (fun t ht=>by
      rcases List.mem_cons.1 ht with rfl|ht
      ·exact h3
      ·exact List.lt_trans h3 (ha1 t ht))]at e
     exact absurd e.symm (hnb y (by simp))
  have hc:x.c=y.c:=by
   have e:=h x.v.s
   rwa [ZY,if_pos rfl,ZY,if_pos hxy.symm]at e
  have hxe:x=y:=by
   have hv:x.v=y.v:=GN.2 hxy
   cases x;cases y;simp only at hv hc;rw[hv,hc]
  have ht:xs=ys:=Mc ha2 (fun t ht=>hna t (by simp[ht])) hb2 (fun t ht=>hnb t (by simp[ht])) fun s=>by
   by_cases hs:x.v.s=s
   ·rw[Ql (ts:=xs) (fun t ht=>hs▸ha1 t ht),Ql (ts:=ys) (fun t ht=>hs▸hxy▸hb1 t ht)]
   ·have e:=h s
    rwa [ZY,if_neg hs,ZY,if_neg (fun e=>hs (hxy.trans e))]at e
  rw[hxe,ht]
theorem Km(s:Str)(c:Int): ∀ {ts:List Coef},(∀ t∈ts,s.s<t.v.s)->We s c true ts=ts
 | [],_=>by simp[We]
 | t::ts,h=>by
  have h1:=h t (by simp)
  rw[b0g,if_neg (fun e=>by rw[e]at h1;exact List.lt_irrefl _ h1),Km s c fun u hu=>h u (by simp[hu])]
theorem a8p(s:Str)(c:Int): ∀ {ts:List Coef},Qt ts-> ∀ u∈We s c false ts,u.v.s=s.s ∨ ∃ t∈ts,t.v.s=u.v.s
 | [],_,u,hu=>by
  simp only[We,Bool.false_eq_true,if_false,List.mem_singleton]at hu
  exact .inl (by rw[hu])
 | t::ts,h,u,hu=>by
  obtain⟨h1,h2⟩:=Wp.1 h
  rw[Dc]at hu
  split at hu
  ·rename_i hlt
   rw[Km s c (fun u hu=>List.lt_trans hlt (h1 u hu))]at hu
   rcases List.mem_cons.1 hu with rfl|hu
   ·exact .inl rfl
   ·exact .inr ⟨u,hu,rfl⟩
  ·split at hu
   ·rename_i he
    rw[Km s c (fun u hu=>he▸h1 u hu)]at hu
    rcases List.mem_cons.1 hu with rfl|hu
    ·exact .inr ⟨t,by simp,rfl⟩
    ·exact .inr ⟨u,by simp[hu],rfl⟩
   ·rcases List.mem_cons.1 hu with rfl|hu
    ·exact .inr ⟨u,by simp,rfl⟩
    ·rcases a8p s c h2 u hu with h|⟨w,hw,e⟩
     ·exact .inl h
     ·exact .inr ⟨w,by simp[hw],e⟩
theorem FW(s:Str)(c:Int): ∀ {ts:List Coef},Qt ts->Qt (We s c false ts)
 | [],_=>by simp[We,Qt]
 | t::ts,h=>by
  obtain⟨h1,h2⟩:=Wp.1 h
  rw[Dc]
  split
  ·rename_i hlt
   rw[Km s c (fun u hu=>List.lt_trans hlt (h1 u hu))]
   exact Wp.2 ⟨fun u hu=>by
    rcases List.mem_cons.1 hu with rfl|hu
    ·exact hlt
    ·exact List.lt_trans hlt (h1 u hu),h⟩
  ·rename_i hlt
   split
   ·rename_i he
    rw[Km s c (fun u hu=>he▸h1 u hu)]
    exact Wp.2 ⟨h1,h2⟩
   ·rename_i he
    have hts:t.v.s<s.s:=tri hlt (fun e=>he (GN.2 e.symm))
    refine Wp.2 ⟨fun u hu=> ?_,FW s c h2⟩
    rcases a8p s c h2 u hu with e|⟨w,hw,e⟩
    ·rw[e];exact hts
    ·rw[<- e];exact h1 w hw
theorem a0b(s:Str)(c:Int)(hc:XI c=c): ∀ {ts:List Coef},Qt ts-> ∀ x,Yl (We s c false ts) x=if s.s=x then XI (Yl ts s.s+c)else Yl ts x
 | [],_,x=>by
  have e:We s c false []=[⟨s,c⟩]:=by simp[We]
  rw[e,ZY,QT,QT,Int.zero_add,hc]
 | t::ts,h,x=>by
  obtain⟨h1,h2⟩:=Wp.1 h
  rw[Dc]
  split
  ·rename_i hlt
   rw[Km s c (fun u hu=>List.lt_trans hlt (h1 u hu)),ZY,Ql (ts:=t::ts) (s:=s.s) (fun u hu=>by
    rcases List.mem_cons.1 hu with rfl|hu
    ·exact hlt
    ·exact List.lt_trans hlt (h1 u hu)),Int.zero_add,hc]
  ·rename_i hlt
   split
   ·rename_i he
    have he':t.v.s=s.s:=by rw[he]
    have e1:Yl (t::ts) s.s=t.c:=by rw[ZY,if_pos he']
    have e2:Yl (t::ts) x=if s.s=x then t.c else Yl ts x:=by rw[ZY,he']
    rw[Km s c (fun u hu=>he▸h1 u hu),ZY,e1,e2]
    show(if t.v.s=x then XI (t.c+c)else Yl ts x)=_
    rw[he']
    by_cases hx:s.s=x
    ·rw[if_pos hx,if_pos hx]
    ·rw[if_neg hx,if_neg hx,if_neg hx]
   ·rename_i he
    have he' : ¬ t.v.s=s.s:=fun e=>he (GN.2 e)
    rw[ZY,a0b s c hc h2 x,ZY (s:=s.s),if_neg he',ZY (s:=x)]
    by_cases hx:s.s=x
    ·rw[if_pos hx,if_pos hx,if_neg (fun e=>he' (e.trans hx.symm))]
    ·rw[if_neg hx,if_neg hx]
theorem BA: ∀ {ts:List Coef},Qt ts-> ∀ x,Yl (ts.filter fun t=>decide (t.c≠0)) x=Yl ts x
 | [],_,x=>rfl
 | t::ts,h,x=>by
  obtain⟨h1,h2⟩:=Wp.1 h
  rw[List.filter_cons]
  split
  ·rw[ZY,ZY,BA h2 x]
  ·rename_i hz
   have hz0:t.c=0:=by simpa using hz
   rw[ZY,BA h2 x]
   by_cases hx:t.v.s=x
   ·rw[if_pos hx,hz0,Ql fun u hu=>hx▸h1 u hu]
   ·rw[if_neg hx]
theorem CP{l:Lin}(s:Str)(c:Int)(h:Qt l.t):Qt (Wu l s c).t:=(FW s c h).sublist List.filter_sublist
theorem LA(l:Lin)(s:Str)(c:Int):nzP (Wu l s c).t:=fun t ht=>by simpa using (List.mem_filter.1 ht).2
theorem Nn{l:Lin}(s:Str){c:Int}(hc:XI c=c)(h:Qt l.t)(x:List UInt8):Yl (Wu l s c).t x=if s.s=x then XI (Yl l.t s.s+c)else Yl l.t x:=by
 show Yl (List.filter _ _) x=_
 rw[BA (FW s c h),a0b s c hc h]
theorem b0f(n:Int): -9223372036854775808<=XI n∧XI n<=9223372036854775807:=by
 unfold XI IntKind.wrap
 simp only[IntKind.bits,IntKind.signed]
 simp
 split <;> omega
theorem Al(n:Int):XI (XI n)=XI n:=Y2 (by have:=b0f n;omega) (by have:=b0f n;omega)
theorem c4u(s:Str)(c:Int)(x:List UInt8): ∀ m:List (Str×Int),atM (b5h s c m) x=if s.s=x then c else atM m x
 | []=>by
  rw[b5h]
  simp only[atM,List.find?_cons]
  by_cases h:s.s=x
  ·simp[h]
  ·have:(s.s==x)=false:=by simpa using h
   simp[this,h]
 | p::m=>by
  have ih:=c4u s c x m
  rw[b5h]
  split
  ·rename_i he
   simp only[atM,List.find?_cons]
   by_cases h:s.s=x
   ·simp[h]
   ·have h1:(s.s==x)=false:=by simpa using h
    have h2:(p.1.s==x)=false:=by rw[<- he];exact h1
    simp[h1,h2,h]
  ·rename_i he
   simp only[atM,List.find?_cons]at ih ⊢
   by_cases h:p.1.s=x
   ·have h2 : ¬ s.s=x:=fun e=>he (e.trans h.symm)
    simp[h,h2]
   ·have h2:(p.1.s==x)=false:=by simpa using h
    rw[h2]
    exact ih
theorem a9k(k:Int): ∀ (x:List Coef) (l:Lin),nzP l.t->nzP (x.foldl (fun o t=>Wu o t.v (XI (k*t.c))) l).t
 | [],l,h=>h
 | t::x,l,h=>a9k k x _ (LA _ _ _)
theorem c1c(k:Int): ∀ (x:List Coef) (l:Lin),(x.foldl (fun o t=>Wu o t.v (XI (k*t.c))) l).k=l.k
 | [],l=>rfl
 | t::x,l=>c1c k x _
theorem c3a{l x:Lin}{k:Int}(h:nzP l.t):nzP (Uy l x k).t:=a9k k x.t _ h
theorem d2w(l x:Lin)(k:Int):(Uy l x k).k=XI (l.k+XI (k*x.k)):=c1c k x.t _
theorem Ew: ∀ {l:List Coef},G5 l=true->Qt l
 | [],_=>List.Pairwise.nil
 | [a],_=>by simp[Qt]
 | a::b::l,h=>by
  simp only[G5,Bool.and_eq_true,decide_eq_true_eq]at h
  have ih:=Ew (l:=b::l) h.2
  refine Wp.2 ⟨fun u hu=> ?_,ih⟩
  rcases List.mem_cons.1 hu with rfl|hu
  ·exact h.1
  ·exact List.lt_trans h.1 ((Wp.1 ih).1 u hu)
theorem BD{l:Lin}(h:Zh l=true):Qt l.t:=by
 simp only[Zh,Bool.and_eq_true]at h
 exact Ew h.1.1.2
theorem c4e{l:Lin}(h:Zh l=true):nzP l.t:=fun t ht=>(JX h ht).2.1
def wM(m:List (Str×Int)):Prop:= ∀ s,XI (atM m s)=atM m s
theorem add_zero: ∀ (x:List Coef) (m:List (Str×Int)),wM m-> ∀ s,atM (d7h 0 x m) s=atM m s
 | [],m,h,s=>rfl
 | t::x,m,h,s=>by
  have e : ∀ y,atM (b5h t.v (IntKind.i64.wrap (atM m t.v.s+IntKind.i64.wrap (0*t.c))) m) y=atM m y:=fun y=>by
   rw[c4u]
   split
   ·rename_i hy
    have:IntKind.i64.wrap (0*t.c)=0:=by rw[Int.zero_mul];rfl
    rw[this,Int.add_zero,<- hy]
    exact h t.v.s
   ·rfl
  rw[d7h,add_zero x _ (fun y=>by rw[e];exact h y),e]
end Go.Pl
namespace Go.Pl
open Go.RowKit
open Enc (enc dec is)
open EncL (encL decL isL)
end Go.Pl
namespace Go.Pl
open Go.RowKit
open Enc (enc dec is)
open EncL (encL decL isL)
set_option maxRecDepth 100000
end Go.Pl
namespace Go.Pl
open Go.RowKit
open Enc (enc dec is)
open EncL (encL decL isL)
set_option maxRecDepth 100000
end Go.Pl
namespace Go.Pl
open Go.RowKit
open Enc (enc dec is)
open EncL (encL decL isL)
theorem one_of{α:Type}: ∀ {ks:List α},ks.length=1-> ∃ a,ks=[a]
 | [a],_=>⟨a,rfl⟩
end Go.Pl
namespace Go.Pl
open Go.RowKit
open Enc (enc dec is)
open EncL (encL decL isL)
set_option maxRecDepth 100000
end Go.Pl
namespace Go.Pl
open Go.RowKit
open Enc (enc dec is)
open EncL (encL decL isL)
theorem sub_zero(b:Bool):Sub (.tup [e0g,.bool b]) (enc (((⟨0,[]⟩:Lin),b):Lin×Bool)):=Sub.pair (Sub.agg_cons (.refl _) (Sub.agg_cons (.sl0 _ _ _) Sub.agg_nil)) (.refl _)
inductive Walk (m:Int):List Int->List (List Int)->Prop
 | last {p}:UI m p=none->Walk m p [p]
 | step {p q l}:UI m p=some q->Walk m q l->Walk m p (p::l)
theorem Walk.walkP{m:Int}{p:List Int}{l:List (List Int)}(h:Walk m p l): ∀ f,l.length<=f->walkP m f p=l:=by
 induction h with
 | last h=>
  intro f hf
  cases f with
  | zero=>simp at hf
  | succ f=>simp[Go.Pl.walkP,h]
 | step h _ ih=>
  intro f hf
  cases f with
  | zero=>simp at hf
  | succ f=>simp only[Go.Pl.walkP,h];rw[ih f (by simpa using hf)]
theorem a4i(m x:Int): ∀ (k:Nat) (p:List Int),k<=p.length->Xj m (k+1) (x::p) =
  match Xj m k p with
  | some q=>some (x::q)
  | none=>if x=m then none else some ((x+1)::(List.replicate k 0++p.drop k)):=by
 intro k
 induction k with
 | zero=>intro p _;simp[Xj]
 | succ k ih=>
  intro p hp
  rw[Xj]
  have e:(x::p).getD (k+1) 0=p.getD k 0:=by simp[List.getD]
  rw[e]
  by_cases h:p.getD k 0=m
  ·have hn:Xj m (k+1) p=Xj m k (p.set k 0):=by rw[Xj,if_pos h]
   rw[if_pos h,hn]
   have:=ih (p.set k 0) (by simp;omega)
   rw[List.set_cons_succ,this]
   have e2:List.replicate k (0:Int)++(p.set k 0).drop k=List.replicate (k+1) 0++p.drop (k+1):=by
    rw[List.replicate_succ',List.append_assoc]
    congr 1
    rw[List.drop_eq_getElem_cons (show k<(p.set k 0).length by simp;omega),List.drop_set_of_lt (by omega)]
    simp
   rw[e2]
  ·have hn:Xj m (k+1) p=some (p.set k (p.getD k 0+1)):=by rw[Xj,if_neg h]
   rw[if_neg h,hn]
   simp
theorem DR(m x:Int)(p:List Int):UI m (x::p) =
  match UI m p with
  | some q=>some (x::q)
  | none=>if x=m then none else some ((x+1)::List.replicate p.length 0):=by
 have:=a4i m x p.length p (Nat.le_refl _)
 rw[List.drop_length,List.append_nil]at this
 exact this
theorem BK(m:Int): ∀ (k:Nat) (p q:List Int),Xj m k p=some q->q.length=p.length:=by
 intro k
 induction k with
 | zero=>intro p q h;cases h
 | succ k ih=>
  intro p q h
  rw[Xj]at h
  split at h
  ·rw[ih _ _ h,List.length_set]
  ·cases h;rw[List.length_set]
theorem Walk.cons{m x:Int}{rest:List (List Int)}{p:List Int}{l:List (List Int)}(h:Walk m p l):(hr:(x=m∧rest=[])∨(x≠m∧Walk m ((x+1)::List.replicate p.length 0) rest))->Walk m (x::p) (l.map (x:: ·)++rest):=by
 induction h with
 | last h=>
  rename_i p
  rintro(⟨rfl,rfl⟩|⟨h1,h2⟩)
  ·refine .last ?_
   rw[DR,h];simp
  ·refine .step ?_ h2
   rw[DR,h];simp[h1]
 | step h _ ih=>
  rename_i p q l _
  intro hr
  refine .step (q:=x::q) ?_ (ih ?_)
  ·rw[DR,h]
  ·rw[BK m _ _ _ h];exact hr
def d3u(m:Nat):List Int:=(List.range (m+1)).map fun(i:Nat)=>(i:Int)
def H5(m:Nat):Nat->List (List Int)
 | 0=>[[]]
 | n+1=>(d3u m).flatMap fun x=>(H5 m n).map (x:: ·)
theorem Walk.from{m n:Nat}(h:Walk m (List.replicate n 0) (H5 m n)): ∀ (d i:Nat),i+d=m->Walk m ((i:Int)::List.replicate n 0) (((List.range' i (d+1)).map fun(i:Nat)=>(i:Int)).flatMap fun x=>(H5 m n).map (x:: ·)):=by
 intro d
 induction d with
 | zero=>
  intro i hi
  have:=h.cons (x:=(i:Int)) (rest:=[]) (.inl ⟨by omega,rfl⟩)
  simpa using this
 | succ d ih=>
  intro i hi
  have h1:=ih (i+1) (by omega)
  have:=h.cons (x:=(i:Int)) (.inr ⟨by omega,by rw[List.length_replicate];exact_mod_cast h1⟩)
  rw[List.range'_succ,List.map_cons,List.flatMap_cons]
  exact this
theorem BJ(m:Nat): ∀ n,Walk m (List.replicate n 0) (H5 m n):=by
 intro n
 induction n with
 | zero=>exact .last rfl
 | succ n ih=>
  have:=ih.from m 0 (by omega)
  rw[<- List.range_eq_range']at this
  exact_mod_cast this
theorem Hw(m:Nat): ∀ n,(H5 m n).length=(m+1) ^ n:=by
 intro n
 induction n with
 | zero=>rfl
 | succ n ih=>
  rw[H5,List.length_flatMap]
  simp only[List.length_map,ih,d3u]
  rw[List.map_const',List.sum_replicate_nat,List.length_map,List.length_range,Nat.pow_succ,Nat.mul_comm]
theorem a1e{m:Nat}{x:Int}:x∈d3u m ↔ 0<=x∧x<=m:=by
 unfold d3u
 rw[List.mem_map]
 constructor
 ·rintro⟨i,hi,rfl⟩
  have:=List.mem_range.1 hi
  omega
 ·rintro⟨h1,h2⟩
  exact⟨x.toNat,List.mem_range.2 (by omega),by omega⟩
theorem CF{m:Nat}: ∀ {n:Nat} {p:List Int},p∈H5 m n ↔ p.length=n∧ ∀ x∈p,0<=x∧x<=m:=by
 intro n
 induction n with
 | zero=>
  intro p
  simp only[H5,List.mem_singleton,List.length_eq_zero_iff]
  exact⟨fun h=>⟨h,by simp[h]⟩,fun h=>h.1⟩
 | succ n ih=>
  intro p
  simp only[H5,List.mem_flatMap,List.mem_map]
  constructor
  ·rintro⟨x,hx,q,hq,rfl⟩
   obtain⟨h1,h2⟩:=ih.1 hq
   refine⟨by simp[h1],?_⟩
   intro y hy
   rcases List.mem_cons.1 hy with rfl|hy
   ·exact a1e.1 hx
   ·exact h2 y hy
  ·rintro⟨h1,h2⟩
   cases p with
   | nil=>simp at h1
   | cons x q=>
    exact⟨x,a1e.2 (h2 x (by simp)),q,ih.2 ⟨by simpa using h1,fun y hy=>h2 y (by simp[hy])⟩,rfl⟩
def QC(x:List Int×List Coef):List PV:=[enc x.1,enc x.2]
def Qd:List (List PV)->Bool
 | [[v,.int .i64 m],[f]]=>WN (List Str) v&&WN (List Fact) f&&Xd ⟨dec v,m⟩&&Zl (dec f)&&decide ((dec v:List Str).length<=1000)
 | _=>false
def De:List (List PV)->List (List Int×List Coef)
 | [[v,.int .i64 m],[f]]=>(Zv ⟨dec v,m⟩ (dec f)).map fun p=>(p,Zf (dec v) p)
 | _=>[]
theorem c6f(m:Nat): ∀ (l:List Str) (n r:Int),0<=n->DD m l n=some r->r=n*((m:Int)+1) ^ l.length:=by
 intro l
 induction l with
 | nil=>intro n r _ h;simp only[DD,Option.some.injEq]at h;simp[h]
 | cons s l ih=>
  intro n r hn h
  rw[DD]at h
  split at h
  ·cases h
  ·rw[ih _ _ (Int.mul_nonneg hn (by omega)) h,List.length_cons,Int.pow_succ,Int.mul_assoc,Int.mul_comm ((m:Int)+1)]
theorem d2t(m:Nat): ∀ (l:List Str) (n r:Int),n<=20000->DD m l n=some r->r<=20000:=by
 intro l
 induction l with
 | nil=>intro n r hn h;simp only[DD,Option.some.injEq]at h;omega
 | cons s l ih=>
  intro n r hn h
  rw[DD]at h
  split at h
  ·cases h
  ·exact ih _ _ (by omega) h
theorem VG{b:BoxT}:Xd b=true ↔ b.v.all ZH=true∧b.v.Nodup∧(b.v=[]∨b.m<20000)∧0<=b.m∧(DD b.m b.v 1).isSome=true:=by
 unfold Xd
 simp only[Bool.and_eq_true,decide_eq_true_eq,Bool.or_eq_true,List.isEmpty_iff]
 constructor
 ·rintro⟨⟨⟨⟨h1,h2⟩,h3⟩,h4⟩,h5⟩;exact⟨h1,h2,h3,h4,h5⟩
 ·rintro⟨h1,h2,h3,h4,h5⟩;exact⟨⟨⟨⟨h1,h2⟩,h3⟩,h4⟩,h5⟩
theorem Te{b:BoxT}(h:Xd b=true):(b.m.toNat+1) ^ b.v.length<=20000:=by
 obtain⟨_,_,_,h4,h5⟩:=VG.1 h
 obtain⟨r,hr⟩:=Option.isSome_iff_exists.1 h5
 have e:b.m=(b.m.toNat:Int):=by omega
 rw[e]at hr
 have h1:=c6f _ _ _ _ (by decide) hr
 have h2:=d2t _ _ _ _ (by decide) hr
 rw[Int.one_mul]at h1
 have:(((b.m.toNat+1) ^ b.v.length:Nat):Int)=r:=by rw[h1];simp
 omega
theorem V7{b:BoxT}(h:Xd b=true):d8t b=H5 b.m.toNat b.v.length:=by
 obtain⟨_,_,_,h4,_⟩:=VG.1 h
 have hw:=BJ b.m.toNat b.v.length
 have hl:=Hw b.m.toNat b.v.length
 have:=Te h
 have e:(b.m.toNat:Int)=b.m:=by omega
 rw[e]at hw
 have ez:WS b.v=List.replicate b.v.length 0:=List.map_const' ..
 unfold d8t
 rw[ez]
 exact hw.walkP 20001 (by omega)
def JZ(l:Lin)(s:Str):Lin:=if Yl l.t s.s=0 then Wu l s 1 else l
def QB(ls:List Lin):List Str:=Zd (ls.foldl (fun o l=>(Zd l).foldl JZ o) ⟨0,[]⟩)
def Uh(ls:List Lin):Bool:=decide (ls.length<=1000)&&ls.all fun l=>decide (l.t.length<=1000)
def RJ(m:Int):List Str->Int->Int
 | [],n=>n
 | _::r,n=>RJ m r (n*(m+1))
def QA(b:BoxT)(fs:List Fact):Bool:=decide (b.v.length<=5)&&decide ((if Xd b then RJ b.m b.v 1 else 1)<=300)&&decide (fs.length<=6)&&Sn fs 6
def Wi:List Str->List Str->Int
 | [],b=> -(b.length:Int)
 | a,[]=>(a.length:Int)
 | x::a,y::b=>if x.s<y.s then -1 else if y.s<x.s then 1 else Wi a b
def Jn:List Str->Bool
 | x::y::r=> !decide (y.s<x.s)&&Jn (y::r)
 | _=>true
def Xg(m:Mono):Bool:=decide (m.c≠0)&&decide (-1099511627776<=m.c)&&decide (m.c<=1099511627776)&&decide (m.v.length<=8)&&Jn m.v&&m.v.all ZH
def Sm:List Mono->Bool
 | x::y::r=>decide (Wi x.v y.v<0)&&Sm (y::r)
 | _=>true
def Zx(p:List Mono):Bool:=decide (p.length<=60)&&p.all Xg&&Sm p
def Ue(l:List Str)(s:Str):List Str:=match l with
 | []=>[s]
 | t::r=>if t.s<s.s then t::Ue r s else if t=s then t::r else s::t::r
def Y9(p:List Mono):List Str:=if Zx p then(p.flatMap (·.v)).foldl Ue []else []
def Ya(p:List Mono):Bool:=Zr p&&p.all fun m=>XW m.v
theorem Pp(s:Str): ∀ l:List Str,(Ue l s).length<=l.length+1
 | []=>by simp[Ue]
 | t::r=>by
  have:=Pp s r
  rw[Ue]
  split
  ·simp only[List.length_cons];omega
  ·split <;> simp only[List.length_cons] <;> omega
theorem MB: ∀ (l o:List Str),(l.foldl Ue o).length<=l.length+o.length
 | [],o=>by simp
 | s::l,o=>by
  have h1:=MB l (Ue o s)
  have h2:=Pp s o
  rw[List.foldl_cons,List.length_cons];omega
theorem c6r{p:List Mono}(h : ∀ m∈p,m.v.length<=8):(p.flatMap (·.v)).length<=p.length*8:=by
 induction p with
 | nil=>simp
 | cons m p ih=>
  have h1:=h m (by simp)
  have h2:=ih fun x hx=>h x (by simp[hx])
  rw[List.flatMap_cons,List.length_append,List.length_cons];omega
theorem Rf{p:List Mono}(h:Zx p=true):p.length<=60∧ ∀ m∈p,m.v.length<=8:=by
 unfold Zx at h
 simp only[Bool.and_eq_true,decide_eq_true_eq,List.all_eq_true]at h
 refine⟨h.1.1,fun m hm=> ?_⟩
 have:=h.1.2 m hm
 unfold Xg at this
 simp only[Bool.and_eq_true,decide_eq_true_eq]at this
 omega
theorem b3t(p:List Mono):(Y9 p).length<=480:=by
 unfold Y9
 split
 ·rename_i h
  obtain⟨h1,h2⟩:=Rf h
  have h3:=c6r h2
  have h4:=MB (p.flatMap (·.v)) []
  rw[List.length_nil]at h4
  omega
 ·simp
def Nc(x y:Str):Int:=if x.s<y.s then -1 else if y.s<x.s then 1 else 0
def BL:List Str->List Str->Int
 | [],[]=>0
 | [],_::_=> -1
 | _::_,[]=>1
 | x::a,y::b=>if x.s<y.s then -1 else if y.s<x.s then 1 else BL a b
def YD(p:List Mono):Bool:=Zr p&&p.all fun m=>XW m.v
def Ww(p:List Mono):List Str:=p.flatMap (·.v)
def XM(p:List Mono):List (List UInt8):=Vv ((Ww p).map (·.s))
def Yw(p:List Mono):List Str:=(Lib.compact (XM p)).map Str.mk
def Qu(p:PV):List Mono:=dec p
def KC:List AV->List AObj->Bool
 | [.pv a],[]=>WN (List Mono) a&&YD (dec a)&&Zx (dec a)&& !(Ww (dec a)).isEmpty
 | _,_=>false
def LW:List AV->List AObj->AV×List AObj×List AObj
 | [.pv a],_=>(.row 0 (XM (Qu a)).length 0 (Lib.compact (XM (Qu a))).length,[],[.row false 9 1 ((UG (XM (Qu a))).map .str)])
 | _,_=>VH
def Le:List AV->List AObj->AV×List AObj×List AObj
 | [.pv a],_=>Gr (Yw (Qu a))
 | _,_=>VH
def Gv:List AV->List AObj->Bool
 | [.pv a],[]=>WN (List Mono) a&&YD (dec a)&&(!Zx (dec a)||(Ww (dec a)).isEmpty)
 | _,_=>false
def Ta:List AV->List AObj->AV×List AObj×List AObj:=fun _ _=>(.pv (.sl 0 true []),[],[])
def X3(a b:Int):Int×Int:=if YR a&&YR b&&YR (a*b)then(a*b,0)else(0,2)
def Xr(l:List Int):Int×Int:=if l.all YR&&YR l.sum then(l.sum,0)else(0,2)
def Q3:Int->List Int->Int×Int
 | o,[]=>(o,0)
 | o,n::r=>if (X3 o n).2≠0 then(0,(X3 o n).2)else Q3 (X3 o n).1 r
def Xn(l:List Int):Int×Int:=if l.contains 0 then(0,0)else Q3 1 l
def D5(vs:List Coef):List Str->Option (List Int)
 | []=>some []
 | s::r=>match Wj vs s with
  | none=>none
  | some x=>(D5 vs r).map (x:: ·)
def G6(vs:List Coef):List Mono->Option (List (List Int))
 | []=>some []
 | m::r=>match D5 vs m.v with
  | none=>none
  | some l=>(G6 vs r).map ((m.c::l):: ·)
def Yr:List (List Int)->Option (List Int)
 | []=>some []
 | l::r=>if (Xn l).2≠0 then none else(Yr r).map ((Xn l).1:: ·)
def badF(fs:List (List Int)):Bool:=fs.any fun l=>l.tail.any fun x=> !YR x
def Yq(p:List Mono)(vs:List Coef):Int×Int:=
 if Zx p then(match G6 vs p with
  | none=>(0,7)
  | some fs=>if badF fs then(0,2)else match Yr fs with
   | none=>(0,2)
   | some l=>Xr l)
 else(0,1)
def CB:List AV->List AObj->Bool
 | [.pv x,.ptr 0 0],[.box [.pv (.str v)]]=>WN Coef x
 | _,_=>false
def SL:List AV->List AObj->AV×List AObj×List AObj
 | [.pv x,_],[.box [.pv (.str v)]]=>(.pv (.bool ((dec x:Coef).v.s==v)),[.box [.pv (.str v)]],[])
 | _,_=>VH
def Qf(g:Nat):List AV->List AObj->Bool
 | [.pv l,.fn g' [] [.ptr 0 0]],[.box [.pv (.str v)]]=>g'==g&&WN (List Coef) l&&decide ((dec l:List Coef).length<=9223372036854775807)
 | _,_=>false
def Ha(p:PV):List Coef:=dec p
def SY:List AV->List AObj->AV×List AObj×List AObj
 | [.pv l,_],[.box [.pv (.str v)]]=>(.pv (.int .i64 (ZL (fun t:Coef=>t.v.s==v) (Ha l))),[.box [.pv (.str v)]],[])
 | _,_=>VH
def WI(n:Int):Int:=n / 2147483648
def Wh(n:Int):Int:=n % 2147483648
def QM:List AV->List AObj->Bool
 | [.pv (.int .i64 n),.ptr 0 0,.ptr 1 0],[.box [.pv (.sl 0 true [])],.box [.pv (.sl 0 true [])]]=>true
 | [.pv (.int .i64 n),.ptr 0 0,.ptr 1 0],[.box [.row 2 q 0 q'],.box [.row 3 r 0 r'],.row false ty 1 xs,.row false ty' 1 ys]=>q'==q&&r'==r&&r==q&&ty==3&&ty'==3&&xs.length==q&&ys.length==q&&decide (q<=1000000)
 | _,_=>false
def KJ:List AV->List AObj->AV×List AObj×List AObj
 | [.pv (.int .i64 n),_,_],[.box [.pv (.sl 0 true [])],.box [.pv (.sl 0 true [])]]=>(.tup [],[.box [.row 2 1 0 1],.box [.row 3 1 0 1]],[.row false 3 1 [.int .i64 (WI n)],.row false 3 1 [.int .i64 (Wh n)]])
 | [.pv (.int .i64 n),_,_],[.box [.row 2 q 0 _],.box [.row 3 _ 0 _],.row _ _ _ xs,.row _ _ _ ys]=>(.tup [],[.box [.row 2 (q+1) 0 (q+1)],.box [.row 3 (q+1) 0 (q+1)],.row false 3 1 (xs++[.int .i64 (WI n)]),.row false 3 1 (ys++[.int .i64 (Wh n)])],[])
 | _,_=>VH
def a4y:List Int->List Int->Int
 | x::a,y::b=>x*y+a4y a b
 | _,_=>0
def Bo(a b:List Int):Int×Int:=if a.length=b.length then(if a.all YR&&b.all YR&&YR (a4y a b)then(a4y a b,0)else(0,2))else(0,1)
def UE(p:List Mono)(vs:List Str):List (List Int)->Option (List Int)
 | []=>some []
 | q::r=>if (Yq p (Zf vs q)).2≠0 then none else(UE p vs r).map ((Yq p (Zf vs q)).1:: ·)
def Kh(b:BoxT)(fs:List Fact)(p:List Mono):Bool:=ZJ b&&Zl fs&&decide (fs.length<=100)&&decide (b.v.length<=1000)&&YD p
def Xx(b:BoxT)(fs:List Fact)(p:List Mono):Int×Int:=
 if Zj b fs (Zx p) (Yw p)=0 then(match UE p b.v (Zv b fs)with|none=>(0,2)|some l=>Xr l)else(0,Zj b fs (Zx p) (Yw p))
theorem c4h: ∀ args os,Y1 args os=true->Ze a6k os.length (Zq os.length Lm fun r=>r=XZ args os) LV [] (Y5 d0g args os):=by
 intro args os h
 unfold Y1 at h
 split at h
 ·rename_i v m f
  simp only[Bool.and_eq_true]at h
  obtain⟨h1,h2⟩:=h
  obtain⟨vs,rfl⟩:=YG h1
  obtain⟨fs,rfl⟩:=YG h2
  exact d7t ⟨vs,m⟩ fs rfl
 ·cases h
theorem Xh(b:BoxT)(fs:List Fact)(ok:Bool)(ns:List Str)(h:Zj b fs ok ns=0):Xd b=true∧YU fs=true∧ok=true∧Y7 b.v (ns++fs.flatMap fun f=>Zd f.l)=true:=by
 unfold Zj at h
 split at h
 ·cases h
 ·rename_i h1
  simp only[Bool.or_eq_true,Bool.not_eq_true',not_or,Bool.not_eq_false]at h1
  split at h
  ·rename_i h2
   exact⟨h1.1.1,h1.1.2,h1.2,h2⟩
  ·cases h
theorem b0c{b:BoxT}{fs:List Fact}(h:Xd b=true):(Zv b fs).length<=20000:=by
 unfold Zv
 refine Nat.le_trans (List.length_filter_le _ _) ?_
 rw[V7 h,Hw]
 exact Te h
def gpI(b:BoxT)(fs:List Fact)(k:Nat)(σ:ZE):Prop:=
 (k=0∧σ=[.obj (.box [.pv (.sl 0 true [])])])∨(k≠0∧k<=(Zv b fs).length∧σ=[.obj (.box [.row 1 k 0 k]),.obj (.row false 34 1 (((Zv b fs).take k).map enc))])
def gpE:YN:=fun n st q=>n=0∧H9 Di 0 (.t 17) 177 [18,19] [(8,18)] KE QC Qd De st q
theorem CK(b:BoxT)(fs:List Fact):De [[enc b.v,.int .i64 b.m],[enc fs]]=(Zv b fs).map fun p=>(p,Zf b.v p):=by
 show((Zv ⟨dec (enc b.v:PV),b.m⟩ (dec (enc fs:PV))).map fun p=>(p,Zf (dec (enc b.v:PV)) p))=_
 rw[Enc.dec_enc,Enc.dec_enc]
theorem DU{b:BoxT}{fs:List Fact}(hb:Xd b=true)(hf:Zl fs=true)(hl:b.v.length<=1000):Qd [[enc b.v,.int .i64 b.m],[enc fs]]=true:=by
 show(WN (List Str) (enc b.v)&&WN (List Fact) (enc fs)&&Xd ⟨dec (enc b.v:PV),b.m⟩&&Zl (dec (enc fs:PV))&&decide ((dec (enc b.v:PV):List Str).length<=1000))=true
 rw[ZR,ZR,Enc.dec_enc,Enc.dec_enc,hf,decide_eq_true hl]
 simp[hb]
theorem b7o(b:BoxT)(fs:List Fact)(hv:Xd b=true)(k:Nat)(p:List Int)(vs:List Coef)(σ:ZE)(hp:(Zv b fs)[k]? = some p)(h:gpI b fs k σ):
  ZF Di (fun n S' _=>n=99∧gpI b fs (k+1) S'.heap) σ.length (fun st=>False) (.inl KE) [.seq (.ext 99 [])] ⟨Z4 25 0 [(7,.ptr 0 0),(8,.pv (enc p)),(18,.pv (enc p)),(19,.pv (enc vs))],σ⟩:=by
 have hk:=(List.getElem?_eq_some_iff.1 hp).1
 have hkp:=(List.getElem?_eq_some_iff.1 hp).2
 have hl:=b0c (fs:=fs) hv
 rcases h with ⟨rfl,rfl⟩|⟨hne,hk',rfl⟩
 ·refine d2m (G:=fun _=>False) _ p vs ⟨rfl,.inr ⟨by simp,by omega,?_⟩⟩
  have e:(Zv b fs).take (0+1)=[p]:=by rw[List.take_succ_eq_append_getElem hk,hkp];rfl
  rw[e]
  rfl
 ·have e:(Zv b fs).take (k+1)=(Zv b fs).take k++[p]:=by rw[List.take_succ_eq_append_getElem hk,hkp]
  have el:((Zv b fs).take k).length=k:=by rw[List.length_take];omega
  refine d2h (G:=fun _=>False) _ p vs k ((Zv b fs).take k) ⟨?_,rfl,.inr ⟨by omega,by omega,?_⟩⟩
  ·rw[List.length_map,el]
   show((k==k)&&(k==k)&&decide ((k+1)*24<=1099511627776)&&decide (k+1<=1099511627776))=true
   rw[decide_eq_true (by omega),decide_eq_true (by omega)];simp
  ·rw[e,List.map_append]
   rfl
theorem c9m: ∀ x:BoxT×List Fact×Unit,(ZJ x.1&&Zl x.2.1&&decide (x.2.1.length<=100)&&decide (x.1.v.length<=1000))=true->Jt Di gpE 0 (Za Am (Zi (YQ x.1 x.2.1))) BF [] (Yn d5o (encL x)):=by
 rintro⟨b,fs,⟨⟩⟩ hp
 simp only[Bool.and_eq_true,decide_eq_true_eq]at hp
 obtain⟨⟨⟨h1,h2⟩,h3⟩,h4⟩:=hp
 refine e1o gpE b fs ⟨Zk (b,fs,true,⟨⟩,()) rfl (by simp[h1,h2,h3]),Zg (b,fs,true,⟨⟩,()) rfl ?_⟩
 show if (Zj b fs true [] != 0)=true then _ else _
 by_cases h0:Zj b fs true []=0
 ·rw[if_neg (by simp[h0])]
  obtain⟨hv,_⟩:=Xh b fs true [] h0
  have hpt:YQ b fs=(Zv b fs,0):=by unfold YQ;rw[if_pos h0]
  rw[hpt]
  refine⟨?_,rfl,[1,2],[[enc b.v,.int .i64 b.m],[enc fs]],[7],[],⟨Z4 25 0 [(7,.ptr 0 0)],[.obj (.box [.pv (.sl 0 true [])])]⟩,gpI b fs,fun _=>False,rfl,by simp,rfl,?_,by kernel_rfl,DU hv h2 h4,.inl ⟨rfl,rfl⟩,?_,?_,fun σ h=>h.elim⟩
  ·show(WN (List Str) (enc b.v)&&WN (List Fact) (enc fs))=true
   rw[ZR,ZR];rfl
  ·intro j l ps hl hps
   match j with
   | 0=>cases hl;cases hps;rfl
   | 1=>cases hl;cases hps;rfl
   | j+2=>simp at hl
  ·intro k x σ hx hI
   rw[CK,List.getElem?_map]at hx
   obtain⟨p,hp,rfl⟩:=Option.map_eq_some_iff.1 hx
   have e:Sr [(8,18)] (C8 [18,19] ((QC (p,Zf b.v p)).map .pv) (Z4 25 0 [(7,.ptr 0 0)]))=Z4 25 0 [(7,.ptr 0 0),(8,.pv (enc p)),(18,.pv (enc p)),(19,.pv (enc (Zf b.v p)))]:=by kernel_rfl
   have:=b7o b fs hv k p (Zf b.v p) σ hp hI
   rw[<- e]at this
   exact this
  ·intro σ hI
   rw[CK,List.length_map]at hI
   rcases hI with ⟨e,rfl⟩|⟨e,_,rfl⟩
   ·refine c9c gpE b fs ?_
    rw[List.length_eq_zero_iff.1 e]
    exact⟨rfl,rfl⟩
   ·refine d0u gpE b fs (Zv b fs).length ((Zv b fs).take (Zv b fs).length) ⟨by simp,?_⟩
    rw[List.take_length,List.drop_zero,List.take_of_length_le (by simp)]
    exact ZC (x:=((Zv b fs),(0:Int))) rfl
 ·rw[if_pos (by simpa using h0)]
  have hpt:YQ b fs=([],Zj b fs true []):=by unfold YQ;rw[if_neg h0]
  rw[hpt]
  exact⟨rfl,rfl⟩
theorem a3x: ∀ x:BoxT×List Fact×Unit,(ZJ x.1&&Zl x.2.1&&decide (x.2.1.length<=100)&&decide (x.1.v.length<=1000))=true->Ze RG 0 (Za AA (Zi (Ak x.1 x.2.1))) BQ [] (Yn b5c (encL x)):=by
 rintro⟨b,fs,⟨⟩⟩ hp
 refine b8y b fs ⟨Zk (b,fs,()) rfl hp,Zg (b,fs,()) rfl ?_⟩
 rw[List.length_map]
 exact ZC (x:=((((YQ b fs).1.length:Nat):Int),(YQ b fs).2)) rfl
end Go.Pl
