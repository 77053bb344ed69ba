/-
  Texts of mine that belong together (packed by pack.py), for every input: PlGl, TyL, TyM, TyTm, TyN, TyT, GSize, QSize, TyAr, TyTn, TyS, TyU, TyO, TyI, TyTp, TyTw, TyG, TyD, TyH, TyK, QLh, QLn, GLg, GLd, QLd, QLg, QLp, GL1, QL1, QL2, QL3, QL4, QRa, QRk, TyTt, TyTu, TyTe, TyTv, TyTd, TyTq, TyTl, TyPp, TyPz, GPa, GPr.
-/
import Derived.Test.YtbfjgcjjaoaaaaaGreatDoorKP2
import Derived.ChangeShapes
import Derived.ChangeSlices
import Derived.WideShapes
import Derived.RowKit
import Derived.KernelRfl
import Derived.Lib.AtoiAllMem
import Derived.Lib.AtoiAllCases
import Derived.Lib.ItoaNum
import Derived.Lib.Bytealg
import Derived.Lib.Strings
set_option linter.unusedVariables false
set_option linter.unusedSimpArgs false
namespace Go.Pl
open Go.RowKit Go.WideShapes Go.ChangeShapes
def GZ(w:World):ZG:=fun b=>match w.heap[b]? with|some (.cells cs _ _)=>some cs|_=>none
theorem b8r(w:World):Xq (GZ w) w:=fun b cs h=>by
 unfold GZ at h
 split at h
 ·rename_i c T fz hb
  cases h
  exact⟨T,fz,hb⟩
 ·cases h
def QB(P:Program)(e:TypeId)(ps:List PV):PV:=match YW P e with|true=>.agg ps|false=>ps.headD .nilp
def Wo(P:Program):Nat->TypeId->List PV->Prop
 | 0,_,_=>False
 | n+1,t,ps=>match P.underlying t with
  | some .bool=> ∃ b,ps=[.bool b]
  | some (.int k)=> ∃ m,ps=[.int k m]∧(Lit.int k m).wf=true
  | some .string=> ∃ s:List UInt8,ps=[.str s]∧s.length<=maxLen
  | some (.slice e)=> ∃ qs:List (List PV),ps=[.sl (P.cellsOf e) false (qs.map (QB P e))]∧qs.length<=maxLen∧ ∀ q∈qs,q.length=P.cellsOf e∧Wo P n e q
  | some (.struct fs)=>ps.length=P.cellsOf t∧ ∀ f∈fs.toList,Wo P n f.type ((ps.drop f.offset).take (P.cellsOf f.type))
  | some (.array m e)=>ps.length=P.cellsOf t∧ ∀ i<m,Wo P n e ((ps.drop (i*P.cellsOf e)).take (P.cellsOf e))
  | _=>False
def UF(P:Program):Nat->List Field->Nat->Bool
 | o,[],n=>o==n
 | o,f::fs,n=>f.offset==o&&UF P (o+P.cellsOf f.type) fs n
def TS(P:Program)(S:List TypeId):Bool:=S.all fun t=>match P.underlying t with
 | some .bool|some (.int _)|some .string=>P.cellsOf t==1
 | some (.slice e)=>P.cellsOf t==1&&S.contains e&&decide (0<P.cellsOf e)&&(YW P e||P.cellsOf e==1)
 | some (.struct fs)=>UF P 0 fs.toList (P.cellsOf t)&&fs.toList.all fun f=>S.contains f.type
 | some (.array m e)=>S.contains e&&m*P.cellsOf e==P.cellsOf t
 | _=>false
section
variable {H:Type} {enc:TypeId×Value->H} {P:Program} {w:World} {base:Nat} {sp:Nat->Bool} {held:Bool} {S:List TypeId}
theorem R6{α β:Type}{f:α->Option β}: ∀ {l:List α} {r:List β},l.mapM f=some r->r.length=l.length∧ ∀ (j:Nat) x y,l[j]? = some x->r[j]? = some y->f x=some y:=by
 intro l
 induction l with
 | nil=>intro r h;simp at h;subst h;exact⟨rfl,fun j x y h=>by simp at h⟩
 | cons a l ih=>
  intro r h
  simp only[List.mapM_cons,Option.bind_eq_bind,Option.bind_eq_some_iff]at h
  obtain⟨b,hb,bs,hbs,h⟩:=h
  simp at h
  subst h
  obtain⟨h1,h2⟩:=ih hbs
  refine⟨by simp[h1],fun j x y hx hy=> ?_⟩
  cases j with
  | zero=>cases hx;cases hy;exact hb
  | succ j=>exact h2 j x y hx hy
def Cl(w:World)(cs:List Value)(ps:List PV):Prop:=XC (GZ w) cs ps∧Yt cs
theorem Cl.one{v:Value}{p:PV}(h:RP (GZ w) v p)(h1:v.oneCell'=true):Cl w [v] [p]:=⟨⟨rfl,fun j x q hx hq=>match j with
 | 0=>by cases hx;cases hq;exact h
 | j+1=>by simp at hx⟩,fun v hv=>by simp at hv;subst hv;exact h1⟩
theorem Cl.append{cs ds:List Value}{ps qs:List PV}(h:Cl w cs ps)(k:Cl w ds qs):Cl w (cs++ds) (ps++qs):=by
 refine⟨⟨by simp[h.1.1,k.1.1],fun j v p hv hp=> ?_⟩,fun v hv=> ?_⟩
 ·by_cases hj:j<cs.length
  ·rw[List.getElem?_append_left hj]at hv
   rw[List.getElem?_append_left (by rw[<- h.1.1];exact hj)]at hp
   exact h.1.2 j v p hv hp
  ·rw[List.getElem?_append_right (by omega)]at hv
   rw[List.getElem?_append_right (by rw[<- h.1.1];omega),<- h.1.1]at hp
   exact k.1.2 _ v p hv hp
 ·rcases List.mem_append.1 hv with h'|h'
  ·exact h.2 v h'
  ·exact k.2 v h'
theorem Cl.nil:Cl w [] []:=⟨⟨rfl,fun j v p h=>by simp at h⟩,fun v h=>by simp at h⟩
theorem Aa(hS:TS P S=true){t:TypeId}(ht:t∈S):(match P.underlying t with
 | some .bool|some (.int _)|some .string=>P.cellsOf t==1
 | some (.slice e)=>P.cellsOf t==1&&S.contains e&&decide (0<P.cellsOf e)&&(YW P e||P.cellsOf e==1)
 | some (.struct fs)=>UF P 0 fs.toList (P.cellsOf t)&&fs.toList.all fun f=>S.contains f.type
 | some (.array m e)=>S.contains e&&m*P.cellsOf e==P.cellsOf t
 | _=>false)=true:=List.all_eq_true.1 hS t ht
theorem EZ{e:TypeId}{q:List PV}(h:YW P e=true∨P.cellsOf e=1)(hl:q.length=P.cellsOf e)(h1:YW P e=false-> ∀ p∈q,p.cells=[p]):(QB P e q).cells=q:=by
 unfold QB
 cases ha:YW P e with
 | true=>rfl
 | false=>
  rcases h with h|h
  ·rw[h]at ha;cases ha
  ·rw[h]at hl
   match q,hl with
   | [p],_=>exact h1 ha p (by simp)
theorem a5k{n:Nat}{e:TypeId}{q:List PV}(h:Wo P n e q)(ha:YW P e=false): ∀ p∈q,p.cells=[p]:=by
 cases n with
 | zero=>exact h.elim
 | succ n=>
  unfold Wo at h
  unfold YW at ha
  split at h
  ·obtain⟨b,rfl⟩:=h;intro p hp;simp at hp;subst hp;rfl
  ·obtain⟨m,rfl,_⟩:=h;intro p hp;simp at hp;subst hp;rfl
  ·obtain⟨s,rfl,_⟩:=h;intro p hp;simp at hp;subst hp;rfl
  ·obtain⟨s,rfl,_⟩:=h;intro p hp;simp at hp;subst hp;rfl
  ·rename_i hu;rw[hu]at ha;cases ha
  ·rename_i hu;rw[hu]at ha;cases ha
  ·exact h.elim
theorem PT{α:Type}{R:Nat->α->Prop}: ∀ (n:Nat),(∀ i,i<n-> ∃ q,R i q)-> ∃ qs:List α,qs.length=n∧ ∀ (i:Nat) q,qs[i]? = some q->R i q:=by
 intro n
 induction n with
 | zero=>intro _;exact⟨[],rfl,fun i q h=>by simp at h⟩
 | succ n ih=>
  intro h
  obtain⟨qs,h1,h2⟩:=ih fun i hi=>h i (by omega)
  obtain⟨q,hq⟩:=h n (by omega)
  refine⟨qs++[q],by simp[h1],fun i q' hi=> ?_⟩
  by_cases hlt:i<qs.length
  ·rw[List.getElem?_append_left hlt]at hi;exact h2 i q' hi
  ·rw[List.getElem?_append_right (by omega)]at hi
   have:i=n:=by
    have:=(List.getElem?_eq_some_iff.1 hi).1
    simp at this
    omega
   subst this
   rw[h1,Nat.sub_self]at hi
   cases hi
   exact hq
theorem a0b(a:Addr)(i j:Nat):(a.add i).add j=a.add (i+j):=by
 unfold Addr.add
 by_cases hi:i=0 <;> by_cases hj:j=0 <;> simp[hi,hj,Nat.add_assoc]
theorem O7{base n:Nat}{a:Addr}{cs:List Value}(h:w.cells? base a n=some cs):cs.length=n∧ ∀ (r:Nat) v,cs[r]? = some v->w.cell? (a.add r)=some v:=by
 unfold World.cells? at h
 split at h
 ·obtain⟨h1,h2⟩:=R6 h
  refine⟨by simpa using h1,fun r v hv=> ?_⟩
  have hr:=(List.getElem?_eq_some_iff.1 hv).1
  have hr2:r<n:=by rw[h1]at hr;simpa using hr
  exact h2 r r v (by simp[hr2]) hv
 ·cases h
theorem BL{a:Addr}{v:Value}(h:w.cell? a=some v): ∃ b off cs,a=⟨b,off,none⟩∧GZ w b=some cs∧cs[off]? = some v:=by
 obtain⟨b,off,spot⟩:=a
 unfold World.cell? at h
 split at h
 ·rename_i c T fz hb
  split at h
  ·cases h
  ·rename_i hs
   have:spot=none:=by cases spot with|none=>rfl|some=>simp at hs
   subst this
   exact⟨b,off,c,rfl,by simp only[GZ];rw[hb],h⟩
 ·cases h
def QH(P:Program)(t:TypeId):Option (List (Nat×TypeId)):=match P.underlying t with
 | some (.struct fs)=>some (fs.toList.map fun f=>(f.offset,f.type))
 | _=>none
def c1f(P:Program)(n:Nat)(q:List PV):List (Nat×TypeId)->Prop
 | []=>True
 | (o,t)::r=>Wo P n t ((q.drop o).take (P.cellsOf t))∧c1f P n q r
theorem VR{n c:Nat}{t:TypeId}{q:List PV}{l:List (Nat×TypeId)}(hs:QH P t=some l)(hc:P.cellsOf t=c)(h:Wo P n t q): ∃ m,n=m+1∧q.length=c∧c1f P m q l:=by
 cases n with
 | zero=>exact h.elim
 | succ m=>
  unfold QH at hs
  split at hs
  ·rename_i fs hu
   cases hs
   simp only[Wo,hu]at h
   refine⟨m,rfl,by rw[h.1,hc],?_⟩
   have key : ∀ l:List Field,(∀ f∈l,Wo P m f.type ((q.drop f.offset).take (P.cellsOf f.type)))->c1f P m q (l.map fun f=>(f.offset,f.type)):=by
    intro l
    induction l with
    | nil=>intro _;trivial
    | cons f l ih=>intro h;exact⟨h f List.mem_cons_self,ih fun g hg=>h g (List.mem_cons_of_mem _ hg)⟩
   exact key _ h.2
  ·cases hs
theorem Ut{n:Nat}{t:TypeId}{k:IntKind}{q:List PV}(hu:P.underlying t=some (.int k))(h:Wo P n t q): ∃ m,q=[.int k m]∧(Lit.int k m).wf=true:=by
 cases n with
 | zero=>exact h.elim
 | succ m=>simpa only[Wo,hu]using h
theorem Be{n:Nat}{t:TypeId}{q:List PV}(hu:P.underlying t=some .string)(h:Wo P n t q): ∃ s:List UInt8,q=[.str s]∧s.length<=maxLen:=by
 cases n with
 | zero=>exact h.elim
 | succ m=>simpa only[Wo,hu]using h
theorem UZ{n c:Nat}{t e:TypeId}{q:List PV}(hu:P.underlying t=some (.slice e))(hc:P.cellsOf e=c)(h:Wo P n t q): ∃ m,n=m+1∧ ∃ qs:List (List PV),q=[.sl c false (qs.map (QB P e))]∧qs.length<=maxLen∧ ∀ x∈qs,x.length=c∧Wo P m e x:=by
 cases n with
 | zero=>exact h.elim
 | succ m=>
  subst hc
  simp only[Wo,hu]at h
  exact⟨m,rfl,h⟩
theorem EA{n:Nat}{t e:TypeId}{q:List PV}(hu:P.underlying t=some (.slice e))(he:P.underlying e=some (.int .i64))(hc:P.cellsOf e=1)(h:Wo P n t q):
  ∃ zs:List Int,q=[.sl 1 false (Zx zs)]∧zs.length<=maxLen∧ ∀ z∈zs,(Lit.int .i64 z).wf=true:=by
 obtain⟨m,_,qs,rfl,hl,hq⟩:=UZ hu hc h
 have ha:YW P e=false:=by simp[YW,he]
 have : ∃ zs:List Int,qs=zs.map (fun z=>[.int .i64 z])∧ ∀ z∈zs,(Lit.int .i64 z).wf=true:=by
  clear hl h
  induction qs with
  | nil=>exact⟨[],rfl,fun z hz=>by simp at hz⟩
  | cons x qs ih=>
   obtain⟨zs,h1,h2⟩:=ih fun y hy=>hq y (List.mem_cons_of_mem _ hy)
   obtain⟨z,hz,hw⟩:=Ut he (hq x List.mem_cons_self).2
   exact⟨z::zs,by simp[h1,hz],fun y hy=>by rcases List.mem_cons.1 hy with rfl|hy;exact hw;exact h2 y hy⟩
 obtain⟨zs,rfl,hw⟩:=this
 refine⟨zs,?_,by simpa using hl,hw⟩
 simp[Zx,QB,ha]
theorem Fv{Φ:ZG}:XC Φ (#[]:Array Value).toList []:=⟨rfl,fun j v p h=>by simp at h⟩
theorem c1g{Φ:ZG}{v:Value}{vs:List Value}{p:PV}{ps:List PV}(h:RP Φ v p)(k:XC Φ vs ps):XC Φ (v::vs) (p::ps):=
 ⟨by simp[k.1],fun j u q hu hq=>match j with
  | 0=>by cases hu;cases hq;exact h
  | j+1=>k.2 j u q (by simpa using hu) (by simpa using hq)⟩
theorem a0l{f:Nat}{pre:List PV->Bool}{val:List PV->PV}(h:Xj P f pre val){ps:List PV}(hp:pre ps=true)(hv:val ps = .bool true){vs:Array Value}(hL:GlobOK (GZ w))(hr:XC (GZ w) vs.toList ps):
  Calls P f vs w fun e w'=>e = .returned (.bool true)∧Below w.heap.size w w':=by
 refine(h ps hp (GZ w) w vs hL (b8r w) hr).mono ?_
 rintro e w' ⟨v,Φ',rfl,_,_,h1,h2,_⟩
 rw[hv]at h1
 cases h1
 exact⟨rfl,h2⟩
end
end Go.Pl

namespace Go.Pl
open Go.RowKit
open Enc (enc dec is)
open EncL (encL decL isL)
structure Coef where
 v:Str
 c:Int
 deriving DecidableEq
instance:Enc Coef where
 sz:=2
 enc x:=.agg [enc x.v,enc x.c]
 dec | .agg [a,b]=>⟨dec a,dec b⟩|_=>⟨⟨[]⟩,0⟩
 is | .agg [a,b]=>is Str a&&is Int b|_=>false
 is_enc v:=by simp
 dec_enc v:=by simp
 sub p h:=by
  cases p with
  | agg xs=>
   match xs,h with
   | [a,b],h=>
    simp only[Bool.and_eq_true]at h
    exact .agg (.cons (Enc.sub a h.1).2 (.cons (Enc.sub b h.2).2 .nil))
  | _=>cases h
structure Lin where
 k:Int
 t:List Coef
 deriving DecidableEq
instance:Enc Lin where
 sz:=2
 enc x:=.agg [enc x.k,enc x.t]
 dec | .agg [a,b]=>⟨dec a,dec b⟩|_=>⟨0,[]⟩
 is | .agg [a,b]=>is Int a&&is (List Coef) b|_=>false
 is_enc v:=by simp
 dec_enc v:=by simp
 sub p h:=by
  cases p with
  | agg xs=>
   match xs,h with
   | [a,b],h=>
    simp only[Bool.and_eq_true]at h
    exact .agg (.cons (Enc.sub a h.1).2 (.cons (Enc.sub b h.2).2 .nil))
  | _=>cases h
@[simp] theorem c5c (a b : PV) : is Coef (.agg [a, b]) = (is Str a && is Int b) := rfl
@[simp] theorem c4n (a b : PV) : (dec (.agg [a, b]) : Coef) = ⟨dec a, dec b⟩ := rfl
@[simp] theorem c6e (a b : PV) : is Lin (.agg [a, b]) = (is Int a && is (List Coef) b) := rfl
@[simp] theorem c5g (a b : PV) : (dec (.agg [a, b]) : Lin) = ⟨dec a, dec b⟩ := rfl
def digB(c:UInt8):Bool:=decide (48<=c)&&decide (c<=57)
def lowB(c:UInt8):Bool:=decide (97<=c)&&decide (c<=122)
def Yf(s:Str):Bool:=match s.s with
 | []=>false
 | c::r=>if c=95 then r.all digB&& !r.isEmpty&&decide (r.head? ≠ some 48)&&decide (r.length<=9)else lowB c&&r.all (fun c=>lowB c||digB c)&&decide (r.length<=29)
def Yj(n:Int):Bool:=decide (-1000000<=n)&&decide (n<=1000000)
def Bj:List Coef->Bool
 | a::b::l=>decide (a.v.s<b.v.s)&&Bj (b::l)
 | _=>true
def Zw(l:Lin):Bool:=l.t.all (fun t=>Yf t.v&&decide (t.c≠0)&&Yj t.c)&&Bj l.t&&Yj l.k&&decide (l.t.length<=12)
def c5l(m:List (Str×Int)):List (PV×PV):=m.map fun p=>(.str p.1.s,.int .i64 p.2)
end Go.Pl

namespace Go.Pl
open Go.RowKit
open Enc (enc dec is)
open EncL (encL decL isL)
structure Fact where
 eq:Bool
 l:Lin
 deriving DecidableEq
instance:Enc Fact where
 sz:=3
 enc x:=.agg [enc x.eq,enc x.l.k,enc x.l.t]
 dec | .agg [a,b,c]=>⟨dec a,⟨dec b,dec c⟩⟩|_=>⟨false,⟨0,[]⟩⟩
 is | .agg [a,b,c]=>is Bool a&&is Int b&&is (List Coef) c|_=>false
 is_enc v:=by simp
 dec_enc v:=by simp
 sub p h:=by
  cases p with
  | agg xs=>
   match xs,h with
   | [a,b,c],h=>
    simp only[Bool.and_eq_true]at h
    exact .agg (.cons (Enc.sub a h.1.1).2 (.cons (Enc.sub b h.1.2).2 (.cons (Enc.sub c h.2).2 .nil)))
  | _=>cases h
@[simp] theorem c5f (a b c : PV) : is Fact (.agg [a, b, c]) = (is Bool a && is Int b && is (List Coef) c) := rfl
@[simp] theorem c4x (a b c : PV) : (dec (.agg [a, b, c]) : Fact) = ⟨dec a, ⟨dec b, dec c⟩⟩ := rfl
structure Bnd where
 kind:Int
 v:Str
 dim:Lin
 row:Str
 dims:List Lin
 elem:Str
 deriving DecidableEq
instance:Enc Bnd where
 sz:=7
 enc x:=.agg [enc x.kind,enc x.v,enc x.dim.k,enc x.dim.t,enc x.row,enc x.dims,enc x.elem]
 dec | .agg [a,b,c,d,e,f,g]=>⟨dec a,dec b,⟨dec c,dec d⟩,dec e,dec f,dec g⟩|_=>⟨0,⟨[]⟩,⟨0,[]⟩,⟨[]⟩,[],⟨[]⟩⟩
 is | .agg [a,b,c,d,e,f,g]=>is Int a&&is Str b&&is Int c&&is (List Coef) d&&is Str e&&is (List Lin) f&&is Str g|_=>false
 is_enc v:=by simp
 dec_enc v:=by simp
 sub p h:=by
  cases p with
  | agg xs=>
   match xs,h with
   | [a,b,c,d,e,f,g],h=>
    simp only[Bool.and_eq_true]at h
    exact .agg (.cons (Enc.sub a h.1.1.1.1.1.1).2 (.cons (Enc.sub b h.1.1.1.1.1.2).2 (.cons (Enc.sub c h.1.1.1.1.2).2 (.cons (Enc.sub d h.1.1.1.2).2 (.cons (Enc.sub e h.1.1.2).2 (.cons (Enc.sub f h.1.2).2 (.cons (Enc.sub g h.2).2 .nil)))))))
  | _=>cases h
@[simp] theorem c5p (a b c d e f g : PV) : is Bnd (.agg [a, b, c, d, e, f, g]) = (is Int a && is Str b && is Int c && is (List Coef) d && is Str e && is (List Lin) f && is Str g) := rfl
@[simp] theorem c5k (a b c d e f g : PV) : (dec (.agg [a, b, c, d, e, f, g]) : Bnd) = ⟨dec a, dec b, ⟨dec c, dec d⟩, dec e, dec f, dec g⟩ := rfl
inductive Cert where
 | mk (kind:Int) (mults:List Int) (lin:Lin) (kids:List Cert)
mutual
def Hz:Cert->PV
 | .mk k m l ks=>.agg [enc k,enc m,enc l.k,enc l.t,.sl 5 false (WF ks)]
def WF:List Cert->List PV
 | []=>[]
 | c::cs=>Hz c::WF cs
end
mutual
def K3:PV->Cert
 | .agg [a,b,c,d,.sl _ _ ks]=>.mk (dec a) (dec b) ⟨dec c,dec d⟩ (Wv ks)
 | _=>.mk 0 [] ⟨0,[]⟩ []
def Wv:List PV->List Cert
 | []=>[]
 | p::ps=>K3 p::Wv ps
end
mutual
def VT:PV->Bool
 | .agg [a,b,c,d,.sl s _ ks]=>is Int a&&is (List Int) b&&is Int c&&is (List Coef) d&&(ks.isEmpty||s==5)&&V6 ks
 | _=>false
def V6:List PV->Bool
 | []=>true
 | p::ps=>VT p&&V6 ps
end
theorem Fh(cs:List PV):Wv cs=cs.map K3:=by
 induction cs with
 | nil=>simp[Wv]
 | cons c cs ih=>simp[Wv,ih]
theorem MJ(cs:List PV):V6 cs=cs.all VT:=by
 induction cs with
 | nil=>simp[V6]
 | cons c cs ih=>simp[V6,ih]
mutual
theorem OU: ∀ c:Cert,VT (Hz c)=true
 | .mk k m l ks=>by
  have h:=PE ks
  simp only[Hz,VT,Enc.is_enc,Bool.true_and,Bool.and_eq_true,h,and_true]
  simp
theorem PE: ∀ cs:List Cert,V6 (WF cs)=true
 | []=>by simp[WF,V6]
 | c::cs=>by simp[WF,V6,OU c,PE cs]
end
mutual
theorem FJ: ∀ c:Cert,K3 (Hz c)=c
 | .mk k m l ks=>by
  have h:=PY ks
  simp only[Hz,K3,Enc.dec_enc,h]
theorem PY: ∀ cs:List Cert,Wv (WF cs)=cs
 | []=>by simp[WF,Wv]
 | c::cs=>by simp[WF,Wv,FJ c,PY cs]
end
mutual
theorem Pb: ∀ p:PV,VT p=true->VK p (Hz (K3 p))
 | .agg [a,b,c,d,.sl s t ks],h=>by
  simp only[VT,Bool.and_eq_true]at h
  obtain⟨⟨⟨⟨⟨h1,h2⟩,h3⟩,h4⟩,h5⟩,h6⟩:=h
  have hk:=Aw ks h6
  simp only[K3,Hz]
  refine .agg (.cons (Enc.sub a h1).2 (.cons (Enc.sub b h2).2 (.cons (Enc.sub c h3).2 (.cons (Enc.sub d h4).2 (.cons ?_ .nil)))))
  simp only[Bool.or_eq_true,List.isEmpty_iff,beq_iff_eq]at h5
  rcases h5 with rfl|rfl
  ·simp only[Wv,WF]
   exact(VK.sl0 _ _ _).2
  ·exact(VK.sl hk.1 hk.2).2
 | .bool _,h | .int _ _,h | .str _,h | .sl _ _ _,h | .tup _,h | .nilp,h | .nilmap,h | .nilfn,h | .nili,h | .ifc,h | .fn _,h | .rptr _,h=>by simp[VT]at h
 | .agg [],h | .agg [_],h | .agg [_,_],h | .agg [_,_,_],h | .agg [_,_,_,_],h=>by simp[VT]at h
 | .agg (a::b::c::d::e::f::g),h=>by
  have h':VT (.agg (a::b::c::d::e::f::g))=false:=by cases e <;> kernel_rfl
  rw[h']at h;cases h
 | .agg [_,_,_,_,.bool _],h | .agg [_,_,_,_,.int _ _],h | .agg [_,_,_,_,.str _],h | .agg [_,_,_,_,.agg _],h | .agg [_,_,_,_,.tup _],h | .agg [_,_,_,_,.nilp],h | .agg [_,_,_,_,.nilmap],h | .agg [_,_,_,_,.nilfn],h | .agg [_,_,_,_,.nili],h | .agg [_,_,_,_,.ifc],h | .agg [_,_,_,_,.fn _],h | .agg [_,_,_,_,.rptr _],h=>by simp[VT]at h
theorem Aw: ∀ ps:List PV,V6 ps=true->ps.length=(WF (Wv ps)).length∧ ∀ (j:Nat) x y,ps[j]? = some x->(WF (Wv ps))[j]? = some y->VK x y
 | [],_=>⟨by simp[Wv,WF],fun j x y h=>by simp at h⟩
 | p::ps,h=>by
  simp only[V6,Bool.and_eq_true]at h
  have h1:=Pb p h.1
  have h2:=Aw ps h.2
  refine⟨by simp[Wv,WF,<- h2.1],fun j x y hx hy=> ?_⟩
  simp only[Wv,WF]at hy
  cases j with
  | zero=>simp at hx hy;subst hx hy;exact h1
  | succ j=>exact h2.2 j x y (by simpa using hx) (by simpa using hy)
end
instance:Enc Cert where
 sz:=5
 enc:=Hz
 dec:=K3
 is:=VT
 is_enc:=OU
 dec_enc:=FJ
 sub:=Pb
abbrev Cert.kind:Cert->Int | .mk k _ _ _=>k
abbrev Cert.mults:Cert->List Int | .mk _ m _ _=>m
abbrev Cert.lin:Cert->Lin | .mk _ _ l _=>l
abbrev Cert.kids:Cert->List Cert | .mk _ _ _ k=>k
@[simp] theorem c5h (a b c d e : PV) : is Cert (.agg [a, b, c, d, e]) = (is Int a && is (List Int) b && is Int c && is (List Coef) d && is (List Cert) e) := by
 show VT _=_
 cases e <;> simp only[VT] <;> try (simp[is];done)
 rename_i s t ks
 rw[MJ]
 show _=(_&&((ks.isEmpty||s==5)&&ks.all VT))
 rw[Bool.and_assoc]
@[simp] theorem c3y (a b c d e : PV) (h : is (List Cert) e = true) : (dec (.agg [a, b, c, d, e]) : Cert) = .mk (dec a) (dec b) ⟨dec c, dec d⟩ (dec e) := by
 show K3 _=_
 cases e <;> try (cases h;done)
 rw[K3,Fh]
 rfl
end Go.Pl

namespace Go.Pl
open Go.RowKit
open Enc (enc dec is)
open EncL (encL decL isL)
structure Nd where
 kind:Int
 line:Int
 name:Str
 num:Int
 elem:Str
 dims:List Int
 data:List Int
 sizes:List Lin
 ranks:List Int
 deriving DecidableEq
def nd0:Nd:=⟨0,0,⟨[]⟩,0,⟨[]⟩,[],[],[],[]⟩
inductive Tm where
 | mk (n:Nd) (kids:List Tm)
def ndP(n:Nd)(k:PV):List PV:=[enc n.kind,enc n.line,enc n.name,enc n.num,enc n.elem,enc n.dims,enc n.data,enc n.sizes,enc n.ranks,k]
mutual
def Oc:Tm->PV
 | .mk n ks=>.agg (ndP n (.sl 10 false (Ky ks)))
def Ky:List Tm->List PV
 | []=>[]
 | c::cs=>Oc c::Ky cs
end
mutual
def tmD:PV->Tm
 | .agg [a,b,c,d,e,f,g,h,i,.sl _ _ ks]=>.mk ⟨dec a,dec b,dec c,dec d,dec e,dec f,dec g,dec h,dec i⟩ (Nk ks)
 | _=>.mk nd0 []
def Nk:List PV->List Tm
 | []=>[]
 | p::ps=>tmD p::Nk ps
end
mutual
def tmI:PV->Bool
 | .agg [a,b,c,d,e,f,g,h,i,.sl s _ ks]=>is Int a&&is Int b&&is Str c&&is Int d&&is Str e&&is (List Int) f&&is (List Int) g&&is (List Lin) h&&is (List Int) i&&((ks.isEmpty||s==10)&&TI ks)
 | _=>false
def TI:List PV->Bool
 | []=>true
 | p::ps=>tmI p&&TI ps
end
theorem NB(cs:List Tm):Ky cs=cs.map Oc:=by
 induction cs with
 | nil=>simp[Ky]
 | cons c cs ih=>simp[Ky,ih]
theorem Nw(cs:List PV):Nk cs=cs.map tmD:=by
 induction cs with
 | nil=>simp[Nk]
 | cons c cs ih=>simp[Nk,ih]
theorem RH(cs:List PV):TI cs=cs.all tmI:=by
 induction cs with
 | nil=>simp[TI]
 | cons c cs ih=>simp[TI,ih]
mutual
theorem b7d: ∀ c:Tm,tmI (Oc c)=true
 | .mk n ks=>by
  have h:=a2v ks
  rw[Oc,ndP,tmI]
  simp only[Enc.is_enc,Bool.true_and,Bool.and_eq_true,h,and_true]
  simp
theorem a2v: ∀ cs:List Tm,TI (Ky cs)=true
 | []=>by simp[Ky,TI]
 | c::cs=>by simp[Ky,TI,b7d c,a2v cs]
end
mutual
theorem b6z: ∀ c:Tm,tmD (Oc c)=c
 | .mk n ks=>by
  have h:=a3f ks
  rw[Oc,ndP,tmD]
  simp only[Enc.dec_enc,h]
theorem a3f: ∀ cs:List Tm,Nk (Ky cs)=cs
 | []=>by simp[Ky,Nk]
 | c::cs=>by simp[Ky,Nk,b6z c,a3f cs]
end
theorem b9f: ∀ (n:Nat) (p:PV),SizeOf.sizeOf p<n->tmI p=true->VK p (Oc (tmD p)):=by
 intro n
 induction n with
 | zero=>intro p h;omega
 | succ n ih=>
  intro p hn h
  unfold tmI at h
  split at h
  ·rename_i a b c d e f g hh i s t ks
   simp only[Bool.and_eq_true]at h
   obtain⟨⟨⟨⟨⟨⟨⟨⟨⟨h1,h2⟩,h3⟩,h4⟩,h5⟩,h6⟩,h7⟩,h8⟩,h9⟩,h10,h11⟩:=h
   rw[tmD,Oc,ndP]
   refine .agg (.cons (Enc.sub a h1).2 (.cons (Enc.sub b h2).2 (.cons (Enc.sub c h3).2 (.cons (Enc.sub d h4).2 (.cons (Enc.sub e h5).2 (.cons (Enc.sub f h6).2 (.cons (Enc.sub g h7).2 (.cons (Enc.sub hh h8).2 (.cons (Enc.sub i h9).2 (.cons ?_ .nil))))))))))
   rw[RH,List.all_eq_true]at h11
   rw[NB,Nw]
   simp only[Bool.or_eq_true,List.isEmpty_iff,beq_iff_eq]at h10
   rcases h10 with rfl|rfl
   ·exact(VK.sl0 _ _ _).2
   ·refine(VK.sl (by simp) fun j x y hx hy=> ?_).2
    simp only[List.map_map,List.getElem?_map,hx,Option.map_some,Option.some.injEq]at hy
    subst hy
    have hm:=List.mem_of_getElem? hx
    have h12:=List.sizeOf_lt_of_mem hm
    simp only[PV.agg.sizeOf_spec,PV.sl.sizeOf_spec,List.cons.sizeOf_spec]at hn
    exact ih x (by omega) (h11 x hm)
  ·cases h
instance:Enc Tm where
 sz:=10
 enc:=Oc
 dec:=tmD
 is:=tmI
 is_enc:=b7d
 dec_enc:=b6z
 sub p h:=b9f _ p (Nat.lt_succ_self _) h
abbrev Tm.n:Tm->Nd | .mk n _=>n
abbrev Tm.kids:Tm->List Tm | .mk _ k=>k
theorem ZX(n:Nd)(ks:List Tm):(enc (Tm.mk n ks):PV) = .agg [enc n.kind,enc n.line,enc n.name,enc n.num,enc n.elem,enc n.dims,enc n.data,enc n.sizes,enc n.ranks,enc ks]:=by
 show Oc (Tm.mk n ks)=_
 rw[Oc,ndP,NB]
 rfl
theorem c0m(a b c d e f g h i:PV)(s:Nat)(t:Bool)(ks:List PV):tmI (.agg [a,b,c,d,e,f,g,h,i,.sl s t ks])=(is Int a&&is Int b&&is Str c&&is Int d&&is Str e&&is (List Int) f&&is (List Int) g&&is (List Lin) h&&is (List Int) i&&((ks.isEmpty||s==10)&&TI ks)):=by
 rw[tmI]
@[simp] theorem c6i (a b c d e f g h i k : PV) : is Tm (.agg [a, b, c, d, e, f, g, h, i, k]) = (is Int a && is Int b && is Str c && is Int d && is Str e && is (List Int) f && is (List Int) g && is (List Lin) h && is (List Int) i && is (List Tm) k) := by
 show tmI (.agg [a,b,c,d,e,f,g,h,i,k])=_
 cases k <;> try (rw[tmI];simp[is];simp)
 rename_i s t ks
 rw[c0m,RH]
 rfl
@[simp] theorem b9d (a b c d e f g h i k : PV) (hk : is (List Tm) k = true) : (dec (.agg [a, b, c, d, e, f, g, h, i, k]) : Tm) = .mk ⟨dec a, dec b, dec c, dec d, dec e, dec f, dec g, dec h, dec i⟩ (dec k) := by
 show tmD (.agg [a,b,c,d,e,f,g,h,i,k])=_
 cases k <;> try (cases hk;done)
 rw[tmD,Nw]
 rfl
theorem b9o{n:Nd}{ks:List Tm}{k:Tm}(h:k∈ks):SizeOf.sizeOf k<SizeOf.sizeOf (Tm.mk n ks):=by
 have:=List.sizeOf_lt_of_mem h
 simp only[Tm.mk.sizeOf_spec];omega
end Go.Pl

namespace Go.Pl
open Enc (enc dec is)
structure Er where
 b:Bool
 deriving DecidableEq
instance:Enc Er where
 sz:=1
 enc x:=if x.b then .ifc else .nili
 dec | .ifc=>⟨true⟩|_=>⟨false⟩
 is | .ifc=>true | .nili=>true|_=>false
 is_enc v:=by obtain⟨b⟩:=v;cases b <;> rfl
 dec_enc v:=by obtain⟨b⟩:=v;cases b <;> rfl
 sub p h:=by cases p <;> first|exact .refl _|cases h
def Yg(s:Str):Int×Er:=match Lib.atoiAll s.s with
 | .ok v=>(v,⟨false⟩)
 | .range=>(Lib.atoiSat s.s,⟨true⟩)
 | _=>(0,⟨true⟩)
def ZI(n:Int):Str:=⟨Lib.itoa n⟩
abbrev w64(n:Int):Int:=IntKind.i64.wrap n
mutual
def c4d:Cert->Int
 | .mk _ _ _ ks=>a7a 1 ks
def a7a(n:Int):List Cert->Int
 | []=>n
 | c::cs=>a7a (w64 (n+c4d c)) cs
end
def H7(l:Lin):Bool:=decide (l.t.length<=9223372036854775807)
def VN(l:Lin):Bool:=H7 l&&l.t.all fun t=>decide (t.v.s.length<=1000000)
mutual
def cOk:Cert->Bool
 | .mk _ m l ks=>decide (m.length<=9223372036854775807)&&H7 l&&decide (ks.length<=9223372036854775807)&&b2z ks
def b2z:List Cert->Bool
 | []=>true
 | c::cs=>cOk c&&b2z cs
end
mutual
def c5u:Cert->Nat
 | .mk _ _ _ ks=>b7o ks+1
def b7o:List Cert->Nat
 | []=>0
 | c::cs=>max (c5u c) (b7o cs)
end
end Go.Pl

namespace Go.Pl
open Go.RowKit
open Enc (enc dec is)
open EncL (encL decL isL)
theorem Y9{α:Type}[Enc α]{l:List α}{i:Nat}(h:i<l.length){P:α->Prop}(k:P l[i]):
  ∃ y:α,AV.pv (PV.rptr (PV.cells (List.getD (List.map enc l) (Int.toNat (i:Int)) default)))=AV.pv (PV.rptr (PV.cells (enc y)))∧P y:=⟨l[i],by rw[RA enc h],k⟩
theorem Yl{α:Type}[Enc α]{l:List α}{i n:Nat}(h:i<l.length)(hn:Enc.sz α=n):(decide (0<=(i:Int))&&decide (Int.toNat (i:Int)<List.length (List.map (enc:α->PV) l))&&Enc.sz α==n)=true:=by simp[hn,h]
theorem YU{n i:Nat}(h:i<n):decide ((i:Int)<(n:Int))=true:=by simp;omega
theorem YV{n i:Nat}(h : ¬ i<n): ¬ decide ((i:Int)<(n:Int))=true:=by simp;omega
theorem XQ{c:Prop}[Decidable c]{P Q:Prop}(h:c)(k:P):if c then P else Q:=by rw[if_pos h];exact k
theorem XR{c:Prop}[Decidable c]{P Q:Prop}(h : ¬ c)(k:Q):if c then P else Q:=by rw[if_neg h];exact k
theorem Sy{c:Prop}[Decidable c]{P Q:Prop}(h1:c->P)(h2 : ¬ c->Q):if c then P else Q:=by split;exact h1 ‹_›;exact h2 ‹_›
theorem Gj{b:Bool}{P Q:Prop}(h1:b=false->P)(h2:b=true->Q):if (!b)=true then P else Q:=by cases b;exact h1 rfl;exact h2 rfl
theorem WC{b:Bool}{P Q:Prop}(h1:b=true->P)(h2:b=false->Q):if b=true then P else Q:=by cases b;exact h2 rfl;exact h1 rfl
theorem Yp{c:Prop}[Decidable c]{P Q:Prop}(h1:c->P)(h2 : ¬ c->Q):if decide c=true then P else Q:=by by_cases h:c;rw[if_pos (by simpa using h)];exact h1 h;rw[if_neg (by simpa using h)];exact h2 h
theorem ZU{α:Type}[BEq α][LawfulBEq α]{x y:α}{P Q:Prop}(h1:x=y->P)(h2:x≠y->Q):if (x==y)=true then P else Q:=by by_cases h:x=y;rw[if_pos (by simpa using h)];exact h1 h;rw[if_neg (by simpa using h)];exact h2 h
theorem Zt{β:Type}[Enc β]{x y:β}(h:x=y):Zk y (enc x):=⟨Enc.is_enc x,by rw[Enc.dec_enc,h]⟩
theorem Z0{x y:Bool}(h:x=y):Zk y (.bool x):=⟨rfl,h⟩
theorem Jg{x y:Int}(h:x=y):Zk y (.int .i64 x):=⟨rfl,h⟩
section
variable (x:Coef) (f:Fact)
end
theorem UK: ∀ a b:List UInt8,Op.bytesLess a b=decide (a<b)
 | [],[]=>by simp[Op.bytesLess]
 | _::_,[]=>by simp[Op.bytesLess]
 | [],_::_=>by simp[Op.bytesLess]
 | x::a,y::b=>by
  rw[Op.bytesLess,UK a b]
  simp only[List.cons_lt_cons_iff]
  by_cases h1:x<y
  ·simp[h1]
  ·by_cases h2:x=y
   ·subst h2;simp
   ·simp[h1,h2]
theorem Zn.fuel{P:Program}{f:Nat}{α β:Type}[EncL α][Enc β]{pre:α->Bool}{F:α->β}(μ:α->Nat)(h : ∀ N,Zn P f (fun a=>pre a&&decide (μ a<N)) F):Zn P f pre F:=fun ps hps=>by
 refine h (μ (decL ps)+1) ps ?_
 simp only[preT,Bool.and_eq_true,decide_eq_true_eq]at hps ⊢
 exact⟨hps.1,hps.2,by omega⟩
theorem Zn.void{P:Program}{f:Nat}{α β:Type}[EncL α][Enc β]{pre:α->Bool}{F:α->β}(h : ∀ a,pre a=false):Zn P f pre F:=fun ps hps=>by simp[preT,h]at hps
theorem Zn.rec{P:Program}{f:Nat}{α β:Type}[EncL α][Enc β]{pre:α->Bool}{F:α->β}(μ:α->Nat)(h : ∀ N,Zn P f (fun a=>pre a&&decide (μ a<N)) F->Zn P f (fun a=>pre a&&decide (μ a<N+1)) F):Zn P f pre F:=by
 refine Zn.fuel μ fun N=> ?_
 induction N with
 | zero=>exact Zn.void fun a=>by simp
 | succ N ih=>exact h N ih
theorem Zn.or{P:Program}{f:Nat}{α β:Type}[EncL α][Enc β]{pre:α->Bool}{F:α->β}(c:α->Bool)(h1:Zn P f (fun a=>pre a&&c a) F)(h2:Zn P f (fun a=>pre a&& !c a) F):Zn P f pre F:=fun ps hps=>by
 have hps':=hps
 simp only[preT,Bool.and_eq_true]at hps'
 cases hc:c (decL ps)
 ·exact h2 ps (by simp only[preT,hps'.1,hps'.2,hc];rfl)
 ·exact h1 ps (by simp only[preT,hps'.1,hps'.2,hc];rfl)
mutual
def Bf:PV->PV->Bool
 | .bool a,.bool b=>a==b
 | .int k a,.int l b=>Kw k l&&a==b
 | .str a,.str b=>a==b
 | .sl s t xs,.sl s' t' ys=>s==s'&&t==t'&&Gr xs ys
 | .agg xs,.agg ys=>Gr xs ys
 | .tup xs,.tup ys=>Gr xs ys
 | .nilp,.nilp=>true
 | .nilmap,.nilmap=>true
 | .nilfn,.nilfn=>true
 | .nili,.nili=>true
 | .ifc,.ifc=>true
 | .fn a,.fn b=>a==b
 | .rptr xs,.rptr ys=>Gr xs ys
 | _,_=>false
def Gr:List PV->List PV->Bool
 | [],[]=>true
 | x::xs,y::ys=>Bf x y&&Gr xs ys
 | _,_=>false
end
theorem R5(k:IntKind):Kw k k=true:=by cases k <;> rfl
mutual
theorem a5p: ∀ (p q:PV),Bf p q=true->p=q
 | .bool a,q,h=>by cases q <;> simp[Bf]at h;rw[h]
 | .int k a,q,h=>by cases q <;> simp[Bf]at h;rw[QS h.1,h.2]
 | .str a,q,h=>by cases q <;> simp[Bf]at h;rw[h]
 | .sl s t xs,q,h=>by cases q <;> simp[Bf]at h;rw[h.1.1,h.1.2,JG xs _ h.2]
 | .agg xs,q,h=>by cases q <;> simp[Bf]at h;rw[JG xs _ h]
 | .tup xs,q,h=>by cases q <;> simp[Bf]at h;rw[JG xs _ h]
 | .nilp,q,h=>by cases q <;> simp[Bf]at h;rfl
 | .nilmap,q,h=>by cases q <;> simp[Bf]at h;rfl
 | .nilfn,q,h=>by cases q <;> simp[Bf]at h;rfl
 | .nili,q,h=>by cases q <;> simp[Bf]at h;rfl
 | .ifc,q,h=>by cases q <;> simp[Bf]at h;rfl
 | .fn a,q,h=>by cases q <;> simp[Bf]at h;rw[h]
 | .rptr xs,q,h=>by cases q <;> simp[Bf]at h;rw[JG xs _ h]
theorem JG: ∀ (xs ys:List PV),Gr xs ys=true->xs=ys
 | [],ys,h=>by cases ys <;> simp[Gr]at h;rfl
 | x::xs,ys,h=>by
  cases ys with
  | nil=>simp[Gr]at h
  | cons y ys=>simp[Gr]at h;rw[a5p x y h.1,JG xs ys h.2]
end
mutual
theorem Pz: ∀ (p:PV),Bf p p=true
 | .bool a | .str a | .fn a=>by simp[Bf]
 | .int k a=>by simp[Bf,R5]
 | .sl s t xs=>by simp[Bf,JY xs]
 | .agg xs | .tup xs | .rptr xs=>by simp[Bf,JY xs]
 | .nilp | .nilmap | .nilfn | .nili | .ifc=>by simp[Bf]
theorem JY: ∀ (xs:List PV),Gr xs xs=true
 | []=>by simp[Gr]
 | x::xs=>by simp[Gr,Pz x,JY xs]
end
def can(α:Type)[Enc α](p:PV):Bool:=Bf p (enc (dec p:α))
@[simp] theorem GI {α : Type} [Enc α] (a : α) : can α (enc a) = true := by unfold can; rw [Enc.dec_enc]; exact Pz _
theorem NK{α:Type}[Enc α]{p:PV}(h:can α p=true): ∃ a:α,p=enc a:=⟨_,a5p _ _ h⟩
end Go.Pl

namespace Go.Pl
open Go.RowKit
set_option maxRecDepth 100000
def Vo:List PV->PV
 | [.sl _ _ xs,.int _ v]=>.bool (xs.any fun x=>x.asInt==v)
 | _=>.nilp
def Z9:List PV->Bool
 | [.sl 1 _ xs,.int .i64 _]=>xs.all PV.isNum&&decide (xs.length<=1099511627776)
 | _=>false
def YQ:IC:=(.seq (.reg [⟨(some 2),(.mv (.c (.int .i64 0))),0,none⟩,⟨(some 3),(.mv (.c (.int .i64 0))),0,none⟩] none) (.seq (.seq (.reg [⟨(some 9),(.mv (.t 0)),0,none⟩,⟨(some 10),(.len 1 (.t 9)),0,none⟩,⟨(some 11),(.bin .num .gtr (.t 10) (.c (.int .i64 6))),0,none⟩] none) (.cond (.t 11) (.seq (.reg [⟨(some 2),(.mv (.c (.int .i64 0))),0,none⟩,⟨(some 3),(.mv (.c (.int .i64 13))),0,none⟩] none) .ret) .skip)) (.seq (.seq (.reg [⟨(some 12),(.mv (.t 0)),0,none⟩,⟨(some 13),(.len 1 (.t 12)),0,none⟩,⟨(some 14),(.mv (.c (.int .i64 0))),0,none⟩] none) (.block 0 (.loop [14,13,12,0] (.seq (.reg [⟨(some 15),(.bin .num .lss (.t 14) (.t 13)),0,none⟩] none) (.seq (.cond (.t 15) .skip (.exit 0)) (.seq (.block 1 (.seq (.reg [⟨(some 16),(.iaddr 1 (.t 12) (.t 14)),0,none⟩,⟨(some 17),(.load false [(.int .i64)] (.t 16)),0,none⟩,⟨(some 5),(.mv (.t 17)),0,none⟩] none) (.seq (.reg [⟨(some 18),(.mv (.t 5)),0,none⟩,⟨(some 19),(.bin .num .lss (.t 18) (.c (.int .i64 0))),0,none⟩,⟨(some 20),(.mv (.t 19)),0,none⟩,⟨(some 21),(.mv (.t 5)),0,(some (20,false))⟩,⟨(some 22),(.bin .num .gtr (.t 21) (.c (.int .i64 4096))),0,(some (20,false))⟩,⟨(some 23),(.pick (.t 20) (.c (.bool true)) (.t 22)),0,none⟩] none) (.cond (.t 23) (.seq (.reg [⟨(some 2),(.mv (.c (.int .i64 0))),0,none⟩,⟨(some 3),(.mv (.c (.int .i64 2))),0,none⟩] none) .ret) .skip)))) (.reg [⟨(some 24),(.bin .num .add (.t 14) (.c (.int .i64 1))),0,none⟩,⟨(some 14),(.mv (.t 24)),0,none⟩] none))))))) (.seq (.seq (.reg [⟨(some 25),(.mv (.t 0)),0,none⟩,⟨(some 26),(.call (.c (.fn 152)) [(.t 25),(.c (.int .i64 0))]),0,none⟩] none) (.cond (.t 26) (.seq (.reg [⟨(some 2),(.mv (.c (.int .i64 0))),0,none⟩,⟨(some 3),(.mv (.c (.int .i64 0))),0,none⟩] none) .ret) .skip)) (.seq (.reg [⟨(some 6),(.mv (.c (.int .i64 1))),0,none⟩] none) (.seq (.seq (.reg [⟨(some 27),(.mv (.t 0)),0,none⟩,⟨(some 28),(.len 1 (.t 27)),0,none⟩,⟨(some 29),(.mv (.c (.int .i64 0))),0,none⟩] none) (.block 2 (.loop [29,28,27,6] (.seq (.reg [⟨(some 30),(.bin .num .lss (.t 29) (.t 28)),0,none⟩] none) (.seq (.cond (.t 30) .skip (.exit 2)) (.seq (.block 3 (.seq (.reg [⟨(some 31),(.iaddr 1 (.t 27) (.t 29)),0,none⟩,⟨(some 32),(.load false [(.int .i64)] (.t 31)),0,none⟩,⟨(some 8),(.mv (.t 32)),0,none⟩] none) (.seq (.reg [⟨(some 33),(.mv (.t 6)),0,none⟩,⟨(some 34),(.mv (.t 8)),0,none⟩,⟨(some 35),(.bin .num .mul (.t 33) (.t 34)),0,none⟩,⟨(some 6),(.mv (.t 35)),0,none⟩] none) (.seq (.reg [⟨(some 36),(.mv (.t 6)),0,none⟩,⟨(some 37),(.bin .num .gtr (.t 36) (.c (.int .i64 4096))),0,none⟩] none) (.cond (.t 37) (.seq (.reg [⟨(some 2),(.mv (.c (.int .i64 0))),0,none⟩,⟨(some 3),(.mv (.c (.int .i64 3))),0,none⟩] none) .ret) .skip))))) (.reg [⟨(some 38),(.bin .num .add (.t 29) (.c (.int .i64 1))),0,none⟩,⟨(some 29),(.mv (.t 38)),0,none⟩] none))))))) (.seq (.reg [⟨(some 39),(.mv (.t 6)),0,none⟩,⟨(some 2),(.mv (.t 39)),0,none⟩,⟨(some 3),(.mv (.c (.int .i64 0))),0,none⟩] none) .ret)))))))
def YO:List IRes:=[(.tmp 2),(.tmp 3)]
def Xy:ZC:=Xi [(152,.pure Z9 Vo)]
theorem b0f{r:PV}(ns:List Int)(t:Bool)(h0:(decide ((↑(Zx ns).length:Int)>6))=true)(hr:(.tup [(.int .i64 0),(.int .i64 13)])=r):Zc Xy 0 (fun st=>fin st YO=some r) YQ [] (Ye 40 [.sl 1 t (Zx ns)]):=Zc.w (.lit (.ans true (.nil))) (And.intro h0 hr) (by kernel_rfl)
theorem b0y{r:PV}(ns:List Int)(t:Bool)(h0:(decide ((↑(Zx ns).length:Int)>6))=false)(hn:At Xy 0 (fun st=>fin st YO=some r) YQ 0 40 [(0,(.pv (.sl 1 t (Zx ns)))),(12,(.pv (.sl 1 t (Zx ns)))),(13,(.pv (.int .i64 (↑(Zx ns).length:Int)))),(14,(.pv (.int .i64 0)))] []):Zc Xy 0 (fun st=>fin st YO=some r) YQ [] (Ye 40 [.sl 1 t (Zx ns)]):=Zc.w (.lit (.ans false (.nil))) (And.intro h0 hn) (by kernel_rfl)
theorem a0m{r:PV}(ns:List Int)(t:Bool)(i:Int)(h0:(decide (i<(↑(Zx ns).length:Int)))=true)(h1:(decide (0<=i)&&decide (i.toNat<(Zx ns).length)&&1==1)=true)(h2:(decide (0+[Sh.int .i64].length<=((Zx ns).getD i.toNat default).cells.length)&&Y5 ((Zx ns).getD i.toNat default).cells 0 [Sh.int .i64])=true)(h3:(decide ((((Zx ns).getD i.toNat default).cells.getD 0 default).asInt<0))=true)(hr:(.tup [(.int .i64 0),(.int .i64 2)])=r):At Xy 0 (fun st=>fin st YO=some r) YQ 0 40 [(0,.pv (.sl 1 t (Zx ns))),(12,.pv (.sl 1 t (Zx ns))),(13,.pv (.int .i64 (Zx ns).length)),(14,.pv (.int .i64 i))] []:=At.w (.lit (.ans true (.req (.req (.lit (.ans true (.lit (.lit (.lit (.nil)))))))))) (And.intro h0 (And.intro h1 (And.intro h2 (And.intro h3 hr)))) (by kernel_rfl)
theorem a1h{r:PV}(ns:List Int)(t:Bool)(i:Int)(h0:(decide (i<(↑(Zx ns).length:Int)))=true)(h1:(decide (0<=i)&&decide (i.toNat<(Zx ns).length)&&1==1)=true)(h2:(decide (0+[Sh.int .i64].length<=((Zx ns).getD i.toNat default).cells.length)&&Y5 ((Zx ns).getD i.toNat default).cells 0 [Sh.int .i64])=true)(h3:(decide ((((Zx ns).getD i.toNat default).cells.getD 0 default).asInt<0))=false)(h4:(decide ((((Zx ns).getD i.toNat default).cells.getD 0 default).asInt>4096))=true)(hr:(.tup [(.int .i64 0),(.int .i64 2)])=r):At Xy 0 (fun st=>fin st YO=some r) YQ 0 40 [(0,.pv (.sl 1 t (Zx ns))),(12,.pv (.sl 1 t (Zx ns))),(13,.pv (.int .i64 (Zx ns).length)),(14,.pv (.int .i64 i))] []:=At.w (.lit (.ans true (.req (.req (.lit (.ans false (.lit (.lit (.lit (.ans true (.nil))))))))))) (And.intro h0 (And.intro h1 (And.intro h2 (And.intro h3 (And.intro h4 hr))))) (by kernel_rfl)
theorem a0z{r:PV}(ns:List Int)(t:Bool)(i:Int)(h0:(decide (i<(↑(Zx ns).length:Int)))=true)(h1:(decide (0<=i)&&decide (i.toNat<(Zx ns).length)&&1==1)=true)(h2:(decide (0+[Sh.int .i64].length<=((Zx ns).getD i.toNat default).cells.length)&&Y5 ((Zx ns).getD i.toNat default).cells 0 [Sh.int .i64])=true)(h3:(decide ((((Zx ns).getD i.toNat default).cells.getD 0 default).asInt<0))=false)(h4:(decide ((((Zx ns).getD i.toNat default).cells.getD 0 default).asInt>4096))=false)(hn:At Xy 0 (fun st=>fin st YO=some r) YQ 0 40 [(0,(.pv (.sl 1 t (Zx ns)))),(12,(.pv (.sl 1 t (Zx ns)))),(13,(.pv (.int .i64 (↑(Zx ns).length:Int)))),(14,(.pv (.int .i64 (IntKind.i64.wrap (i+1)))))] []):At Xy 0 (fun st=>fin st YO=some r) YQ 0 40 [(0,.pv (.sl 1 t (Zx ns))),(12,.pv (.sl 1 t (Zx ns))),(13,.pv (.int .i64 (Zx ns).length)),(14,.pv (.int .i64 i))] []:=At.w (.lit (.ans true (.req (.req (.lit (.ans false (.lit (.lit (.lit (.ans false (.lit (.nil)))))))))))) (And.intro h0 (And.intro h1 (And.intro h2 (And.intro h3 (And.intro h4 hn))))) (by kernel_rfl)
theorem a0j{r:PV}(ns:List Int)(t:Bool)(i:Int)(h0:(decide (i<(↑(Zx ns).length:Int)))=false)(h1:(Z9 [(.sl 1 t (Zx ns)),(.int .i64 0)])=true)(h2:((Zx ns).any fun x=>x.asInt==0)=true)(hr:(.tup [(.int .i64 0),(.int .i64 0)])=r):At Xy 0 (fun st=>fin st YO=some r) YQ 0 40 [(0,.pv (.sl 1 t (Zx ns))),(12,.pv (.sl 1 t (Zx ns))),(13,.pv (.int .i64 (Zx ns).length)),(14,.pv (.int .i64 i))] []:=At.w (.lit (.ans false (.req (.ans true (.nil))))) (And.intro h0 (And.intro h1 (And.intro h2 hr))) (by kernel_rfl)
theorem a0p{r:PV}(ns:List Int)(t:Bool)(i:Int)(h0:(decide (i<(↑(Zx ns).length:Int)))=false)(h1:(Z9 [(.sl 1 t (Zx ns)),(.int .i64 0)])=true)(h2:((Zx ns).any fun x=>x.asInt==0)=false)(hn:At Xy 0 (fun st=>fin st YO=some r) YQ 1 40 [(6,(.pv (.int .i64 1))),(27,(.pv (.sl 1 t (Zx ns)))),(28,(.pv (.int .i64 (↑(Zx ns).length:Int)))),(29,(.pv (.int .i64 0)))] []):At Xy 0 (fun st=>fin st YO=some r) YQ 0 40 [(0,.pv (.sl 1 t (Zx ns))),(12,.pv (.sl 1 t (Zx ns))),(13,.pv (.int .i64 (Zx ns).length)),(14,.pv (.int .i64 i))] []:=At.w (.lit (.ans false (.req (.ans false (.nil))))) (And.intro h0 (And.intro h1 (And.intro h2 hn))) (by kernel_rfl)
theorem Ei{r:PV}(ns:List Int)(t:Bool)(i n:Int)(h0:(decide (i<(↑(Zx ns).length:Int)))=true)(h1:(decide (0<=i)&&decide (i.toNat<(Zx ns).length)&&1==1)=true)(h2:(decide (0+[Sh.int .i64].length<=((Zx ns).getD i.toNat default).cells.length)&&Y5 ((Zx ns).getD i.toNat default).cells 0 [Sh.int .i64])=true)(h3:(decide (IntKind.i64.wrap (n*(((Zx ns).getD i.toNat default).cells.getD 0 default).asInt)>4096))=true)(hr:(.tup [(.int .i64 0),(.int .i64 3)])=r):At Xy 0 (fun st=>fin st YO=some r) YQ 1 40 [(6,.pv (.int .i64 n)),(27,.pv (.sl 1 t (Zx ns))),(28,.pv (.int .i64 (Zx ns).length)),(29,.pv (.int .i64 i))] []:=At.w (.lit (.ans true (.req (.req (.lit (.lit (.ans true (.nil)))))))) (And.intro h0 (And.intro h1 (And.intro h2 (And.intro h3 hr)))) (by kernel_rfl)
theorem ET{r:PV}(ns:List Int)(t:Bool)(i n:Int)(h0:(decide (i<(↑(Zx ns).length:Int)))=true)(h1:(decide (0<=i)&&decide (i.toNat<(Zx ns).length)&&1==1)=true)(h2:(decide (0+[Sh.int .i64].length<=((Zx ns).getD i.toNat default).cells.length)&&Y5 ((Zx ns).getD i.toNat default).cells 0 [Sh.int .i64])=true)(h3:(decide (IntKind.i64.wrap (n*(((Zx ns).getD i.toNat default).cells.getD 0 default).asInt)>4096))=false)(hn:At Xy 0 (fun st=>fin st YO=some r) YQ 1 40 [(6,(.pv (.int .i64 (IntKind.i64.wrap (n*(((Zx ns).getD i.toNat default).cells.getD 0 default).asInt))))),(27,(.pv (.sl 1 t (Zx ns)))),(28,(.pv (.int .i64 (↑(Zx ns).length:Int)))),(29,(.pv (.int .i64 (IntKind.i64.wrap (i+1)))))] []):At Xy 0 (fun st=>fin st YO=some r) YQ 1 40 [(6,.pv (.int .i64 n)),(27,.pv (.sl 1 t (Zx ns))),(28,.pv (.int .i64 (Zx ns).length)),(29,.pv (.int .i64 i))] []:=At.w (.lit (.ans true (.req (.req (.lit (.lit (.ans false (.lit (.nil))))))))) (And.intro h0 (And.intro h1 (And.intro h2 (And.intro h3 hn)))) (by kernel_rfl)
theorem ER{r:PV}(ns:List Int)(t:Bool)(i n:Int)(h0:(decide (i<(↑(Zx ns).length:Int)))=false)(hr:(.tup [(.int .i64 n),(.int .i64 0)])=r):At Xy 0 (fun st=>fin st YO=some r) YQ 1 40 [(6,.pv (.int .i64 n)),(27,.pv (.sl 1 t (Zx ns))),(28,.pv (.int .i64 (Zx ns).length)),(29,.pv (.int .i64 i))] []:=At.w (.lit (.ans false (.nil))) (And.intro h0 hr) (by kernel_rfl)
end Go.Pl

namespace Go.Pl
open Go.RowKit
def Gq(d:Int):Bool:=decide (0<=d)&&decide (d<=4096)
def Rm:Int->List Int->Option Int
 | p,[]=>some p
 | p,d::l=>bif decide (4096<p*d)then none else Rm (p*d) l
def WI(l:List Int):Int×Int:=
 bif decide (6<l.length)then(0,13)else bif l.all Gq then bif l.any (· == 0)then(0,0)else match Rm 1 l with|some n=>(n,0)|none=>(0,3)else(0,2)
def WY:List PV->PV
 | [.sl _ _ xs]=>.tup [.int .i64 (WI (xs.map PV.asInt)).1,.int .i64 (WI (xs.map PV.asInt)).2]
 | _=>.nilp
def CZ:List PV->Bool
 | [.sl 1 _ xs]=>xs.all PV.isNum
 | _=>false
theorem Fa{r:PV}(ns:List Int)(t:Bool)(h6:ns.length<=6)(ha:ns.all Gq=true): ∀ (m k:Nat) (n:Int),m+k=ns.length->0<=n->n<=4096 ->
  r=(match Rm n (ns.drop k)with|some n=>.tup [.int .i64 n,.int .i64 0]|none=>.tup [.int .i64 0,.int .i64 3]) ->
  At Xy 0 (fun st=>fin st YO=some r) YQ 1 40 [(6,.pv (.int .i64 n)),(27,.pv (.sl 1 t (Zx ns))),(28,.pv (.int .i64 (Zx ns).length)),(29,.pv (.int .i64 k))] []:=by
 intro m
 induction m with
 | zero=>
  intro k n hk h0 h1 hr
  have:ns.drop k=[]:=List.drop_of_length_le (by omega)
  rw[this]at hr
  exact ER ns t k n (by simp;omega) hr.symm
 | succ m ih=>
  intro k n hk h0 h1 hr
  have hlt:k<ns.length:=by omega
  have hd:0<=ns[k]∧ns[k]<=4096:=by
   have:=List.all_eq_true.1 ha _ (List.getElem_mem hlt)
   simpa [Gq]using this
  have hp:0<=n*ns[k]∧n*ns[k]<=4096*4096:=⟨Int.mul_nonneg h0 hd.1,Int.mul_le_mul h1 hd.2 hd.1 (by omega)⟩
  have hw:IntKind.i64.wrap (n*ns[k])=n*ns[k]:=Lu (by omega) (by omega)
  rw[List.drop_eq_getElem_cons hlt,Rm]at hr
  have e:=CK hlt
  by_cases hb:4096<n*ns[k]
  ·simp only[hb,decide_true,cond_true]at hr
   refine Ei ns t k n (by simp;omega) (by simp;omega) (by rw[e];rfl) ?_ hr.symm
   rw[e]
   simpa [PV.cells,PV.asInt,hw]using hb
  ·simp only[hb,decide_false,cond_false]at hr
   refine ET ns t k n (by simp;omega) (by simp;omega) (by rw[e];rfl) ?_ ?_
   ·rw[e]
    simpa [PV.cells,PV.asInt,hw]using Int.not_lt.1 hb
   ·rw[e,next (by omega)]
    simp only[PV.cells,List.getD_cons_zero,PV.asInt,hw]
    exact ih (k+1) (n*ns[k]) (by omega) hp.1 (by omega) hr
theorem Ls(ns:List Int)(t:Bool)(h6:ns.length<=6): ∀ (m k:Nat),m+k=ns.length->(∀ j (hj:j<ns.length),j<k->Gq ns[j]=true) ->
  At Xy 0 (fun st=>fin st YO=some (WY [.sl 1 t (Zx ns)])) YQ 0 40 [(0,.pv (.sl 1 t (Zx ns))),(12,.pv (.sl 1 t (Zx ns))),(13,.pv (.int .i64 (Zx ns).length)),(14,.pv (.int .i64 k))] []:=by
 intro m
 induction m with
 | zero=>
  intro k hk hd
  have ha:ns.all Gq=true:=by
   rw[List.all_eq_true]
   intro x hx
   obtain⟨j,hj,rfl⟩:=List.getElem_of_mem hx
   exact hd j hj (by omega)
  have hpc:Z9 [.sl 1 t (Zx ns),.int .i64 0]=true:=by
   simp only[Z9,a8u,Bool.true_and,decide_eq_true_eq,Hy];omega
  by_cases hz:ns.any (· == 0)=true
  ·refine a0j ns t k (by simp;omega) hpc (by rw[DN];exact hz) ?_
   simp[WY,WI,WL,ha,hz,Nat.not_lt.2 h6]
  ·simp only[Bool.not_eq_true]at hz
   refine a0p ns t k (by simp;omega) hpc (by rw[DN];exact hz) ?_
   refine Fa ns t h6 ha ns.length 0 1 (by omega) (by omega) (by omega) ?_
   simp only[WY,WI,WL,ha,hz,Nat.not_lt.2 h6,decide_false,cond_false,cond_true,List.drop_zero]
   cases Rm 1 ns <;> rfl
 | succ m ih=>
  intro k hk hd
  have hlt:k<ns.length:=by omega
  have e:=CK hlt
  have hbad:Gq ns[k]=false->WY [.sl 1 t (Zx ns)] = .tup [.int .i64 0,.int .i64 2]:=by
   intro hb
   have ha:ns.all Gq=false:=by
    rw[List.all_eq_false]
    exact⟨_,List.getElem_mem hlt,by simp[hb]⟩
   simp[WY,WI,WL,ha,Nat.not_lt.2 h6]
  by_cases h1:ns[k]<0
  ·refine a0m ns t k (by simp;omega) (by simp;omega) (by rw[e];rfl) (by rw[e];simpa [PV.cells,PV.asInt]using h1) (hbad ?_).symm
   simp[Gq];omega
  ·by_cases h2:4096<ns[k]
   ·refine a1h ns t k (by simp;omega) (by simp;omega) (by rw[e];rfl) (by rw[e];simpa [PV.cells,PV.asInt]using h1) (by rw[e];simpa [PV.cells,PV.asInt]using h2) (hbad ?_).symm
    simp[Gq];omega
   ·refine a0z ns t k (by simp;omega) (by simp;omega) (by rw[e];rfl) (by rw[e];simpa [PV.cells,PV.asInt]using h1) (by rw[e];simpa [PV.cells,PV.asInt]using h2) ?_
    rw[next (by omega)]
    refine ih (k+1) (by omega) ?_
    intro j hj hjk
    by_cases he:j=k
    ·subst he
     simp[Gq];omega
    ·exact hd j hj (by omega)
theorem a6y: ∀ ps,CZ ps=true->Zc Xy 0 (fun st=>fin st YO=some (WY ps)) YQ [] (Ye 40 ps):=by
 intro ps hp
 unfold CZ at hp
 split at hp
 ·rename_i t xs
  obtain⟨ns,rfl⟩:=TF hp
  by_cases h6:6<ns.length
  ·refine b0f ns t (by simp;omega) ?_
   simp[WY,WI,WL,h6]
  ·refine b0y ns t (by simp;omega) ?_
   exact Ls ns t (by omega) ns.length 0 (by omega) (fun j hj h=>by omega)
 ·cases hp
end Go.Pl

namespace Go.Pl
open Go.RowKit
open Enc (enc dec is)
open EncL (encL decL isL)
structure Arr where
 e:Str
 d:List Int
 x:List Int
 deriving DecidableEq
instance:Enc Arr where
 sz:=3
 enc v:=.agg [enc v.e,enc v.d,enc v.x]
 dec | .agg [a,b,c]=>⟨dec a,dec b,dec c⟩|_=>⟨⟨[]⟩,[],[]⟩
 is | .agg [a,b,c]=>is Str a&&is (List Int) b&&is (List Int) c|_=>false
 is_enc v:=by simp
 dec_enc v:=by simp
 sub p h:=by
  cases p with
  | agg xs=>
   match xs,h with
   | [a,b,c],h=>
    simp only[Bool.and_eq_true]at h
    exact .agg (.cons (Enc.sub a h.1.1).2 (.cons (Enc.sub b h.1.2).2 (.cons (Enc.sub c h.2).2 .nil)))
  | _=>cases h
@[simp] theorem c2a (a b c : PV) : is Arr (.agg [a, b, c]) = (is Str a && is (List Int) b && is (List Int) c) := rfl
@[simp] theorem b4f (a b c : PV) : (dec (.agg [a, b, c]) : Arr) = ⟨dec a, dec b, dec c⟩ := rfl
def UA:List UInt8:=[105,110,116]
def VW:List UInt8:=[98,111,111,108]
def WE(e:Str)(n:Int):Bool:=if e.s=UA then decide (-2147483648<=n)&&decide (n<=2147483647)else if e.s=VW then n==0||n==1 else false
def Qk(a:Arr):Bool:=decide (a.d.length<=2000000)&&decide (a.x.length<=2000000)
def M6(e:Str)(d x:List Int):Arr×Int:=
 if e.s≠UA∧e.s≠VW then(⟨⟨[]⟩,[],[]⟩,12)else if (WI d).2≠0 then(⟨⟨[]⟩,[],[]⟩,(WI d).2)else if (x.length:Int)≠(WI d).1 then(⟨⟨[]⟩,[],[]⟩,1)else if x.all (WE e)then(⟨e,d,x⟩,0)else(⟨⟨[]⟩,[],[]⟩,2)
def Ud(a:Arr):Bool:=(M6 a.e a.d a.x).2==0
def G7:List AV->List AObj->Bool
 | [.pv (.int .i64 _),.ptr 0 0],[.box [.pv (.str _)]]=>true
 | _,_=>false
def Td:List AV->List AObj->AV×List AObj×List AObj
 | [.pv (.int _ n),.ptr 0 0],[.box [.pv (.str e)]]=>(.pv (.bool (!WE ⟨e⟩ n)),[.box [.pv (.str e)]],[])
 | _,_=>default
def V7(e:Str):List Int->Nat->Int
 | [],_=> -1
 | n::l,k=>if WE e n then V7 e l (k+1)else k
def Wq:List AV->List AObj->Bool
 | [.pv (.sl 1 _ xs),.fn 153 [] [.ptr 0 0]],[.box [.pv (.str _)]]=>xs.all (is Int)&&decide (xs.length<=2000000)
 | _,_=>false
def GR:List AV->List AObj->AV×List AObj×List AObj
 | [.pv (.sl _ _ xs),_],[.box [.pv (.str e)]]=>(.pv (.int .i64 (V7 ⟨e⟩ (xs.map dec) 0)),[.box [.pv (.str e)]],[])
 | _,_=>default
def Si:List AV->List AObj->AV×List AObj×List AObj
 | [.pv (.sl _ _ xs),_],[.box [.pv (.str e)]]=>(.pv (.bool (decide (0<=V7 ⟨e⟩ (xs.map dec) 0))),[.box [.pv (.str e)]],[])
 | _,_=>default
end Go.Pl

namespace Go.Pl
open Go.RowKit
open Enc (enc dec is)
open EncL (encL decL isL)
def Gl:List (List UInt8):=[[98,111,111,108],[100,101,102],[101,120,112,111,114,116],[102,97,108,115,101],[102,111,108,100],[105,109,112,111,114,116],[105,110],[105,110,116],[108,101,116],[109,111,100,117,108,101],[115,99,97,110],[115,105,122,101],[116,114,117,101],[119,104,101,114,101]]
def ldI(c:UInt8):Bool:=digB c||lowB c
def ZZ:List UInt8->Bool
 | []=>false
 | c::r=>lowB c&&r.all ldI&&decide (r.length<=29)&& !Gl.contains (c::r)
def fullI(s:List UInt8):Bool:=match s.dropWhile fun c=>c != 46 with
 | []=>false
 | _::r=>ZZ (s.takeWhile fun c=>c != 46)&&ZZ r
def RS(s:List UInt8):Bool:=ZZ s||fullI s
def Tm.nd:Tm->Nd
 | .mk n _=>n
def Tm.ks:Tm->List Tm
 | .mk _ ks=>ks
def Q7(n:Nd):Arr:=⟨n.elem,n.dims,n.data⟩
def Ta(n:Nd):Bool:=decide (n.elem=⟨[]⟩)&&n.dims.isEmpty&&n.data.isEmpty
def VO(n:Nd):Bool:=if n.name.s=VW then decide (n.num=0)||decide (n.num=1)else decide (n.name.s=UA)&&decide (-2147483648<=n.num)&&decide (n.num<2147483648)
def TP(n:Nd):Bool:=n.sizes.isEmpty&&n.ranks.isEmpty
def XP(l:List Int):Bool:=l.all fun n=>decide (0<=n)&&decide (n<=6)
def Xr(n:Nd)(k:Nat):Bool:=RS n.name.s&&decide (0<=n.num)&&decide (n.num<=64)&&decide (k<=8)&&(n.ranks.isEmpty||decide (n.ranks.length=k))&&decide (n.sizes.length<=4)&&n.sizes.all Zw&&XP n.ranks
def Us(n:Nd)(k:Nat):Bool:=
 if n.kind=1 then Ta n&&ZZ n.name.s&&decide (n.num=0)&&decide (k=0)&&TP n
 else if n.kind=2 then Ta n&&VO n&&decide (k=0)&&TP n
 else if n.kind=3 then decide (n.name=⟨[]⟩)&&decide (n.num=0)&&decide (k=0)&&TP n&&Ud (Q7 n)
 else if n.kind=4 then Ta n&&decide (n.name=⟨[]⟩)&&decide (n.num=0)&&decide (k=0)&&decide (n.sizes.length=1)&&n.sizes.all Zw&&n.ranks.isEmpty
 else if n.kind=5 then Ta n&&ZZ n.name.s&&decide (n.num=0)&&decide (k=2)&&TP n
 else if n.kind=6 then Ta n&&Xr n k
 else if n.kind=7 then Ta n&&decide (n.name=⟨[]⟩)&&decide (n.num=0)&&decide (1<=k)&&decide (k<=16)&&TP n
 else if n.kind=8 then Ta n&&RS n.name.s&&decide (n.num=0)&&decide (k=2)&&TP n
 else if n.kind=9 then Ta n&&RS n.name.s&&decide (n.num=0)&&decide (k=1)&&TP n
 else false
def Vl(n:Nd)(k:Nat):Bool:=decide (0<=n.line)&&decide (n.line<=10000)&&Us n k
mutual
def ZY:Tm->Nat
 | .mk _ ks=>ZF ks+1
def ZF:List Tm->Nat
 | []=>0
 | k::ks=>ZY k+ZF ks
end
mutual
def Yb:Tm->Nat
 | .mk _ ks=>ZP ks+1
def ZP:List Tm->Nat
 | []=>0
 | k::ks=>max (Yb k) (ZP ks)
end
mutual
def ZM(l:Nat):Tm->List (Tm×Int)
 | .mk n ks=>(.mk n ks,(l:Int))::ZK (l+1) ks
def ZK(l:Nat):List Tm->List (Tm×Int)
 | []=>[]
 | k::ks=>ZM l k++ZK l ks
end
def Hl(t:Tm):Bool:=Vl t.nd t.ks.length
def Xd(t:Tm):List Tm:=(ZM 1 t).map (·.1)
def Wj(t:Tm):Bool:=decide (ZY t<=400)&&decide (Yb t<=40)&&(Xd t).all Hl
def K8(t:Tm):List Str:=t.nd.sizes.flatMap fun l=>l.t.map (·.v)
def CB(t:Tm):Bool:=decide (t.nd.name.s.length<=40)&&decide (t.nd.data.length<=30)&&decide (t.nd.dims.length<=8)&&decide (t.nd.sizes.length<=6)&&decide (t.nd.ranks.length<=10)&&t.nd.sizes.all fun l=>decide (l.t.length<=6)
def KS(t:Tm)(n:Int):Bool:=decide (Yb t<=12)&&decide ((ZY t:Int)<=n)&&(Xd t).all CB
def Ja{α:Type}(l:List α):Bool:=decide (l.length<=9223372036854775807)
def c5q(n:Nd):Bool:=Ja n.dims&&Ja n.data&&Ja n.ranks&&Ja n.sizes&&n.sizes.all H7&&decide (n.name.s.length<=9223372036854775807)
mutual
def tOk:Tm->Bool
 | .mk n ks=>c5q n&&Ja ks&&c3j ks
def c3j:List Tm->Bool
 | []=>true
 | k::ks=>tOk k&&c3j ks
end
theorem U4(l:Nat)(ks:List Tm):ZK l ks=ks.flatMap (ZM l):=by
 induction ks with
 | nil=>simp[ZK]
 | cons k ks ih=>simp[ZK,ih]
theorem Kb(ks:List Tm):ZF ks=(ks.map ZY).sum:=by
 induction ks with
 | nil=>simp[ZF]
 | cons k ks ih=>simp[ZF,ih]
mutual
theorem Uh(l:Nat): ∀ t:Tm,(ZM l t).length=ZY t
 | .mk n ks=>by rw[ZM,ZY,List.length_cons,KF (l+1) ks]
theorem KF(l:Nat): ∀ ks:List Tm,(ZK l ks).length=ZF ks
 | []=>by simp[ZK,ZF]
 | k::ks=>by rw[ZK,ZF,List.length_append,Uh l k,KF l ks]
end
mutual
theorem JZ(l:Nat): ∀ t:Tm,(∀ p∈ZM l t,(l:Int)<=p.2∧p.2<((l+Yb t:Nat):Int))∧ ∃ p∈ZM l t,p.2=((l+Yb t - 1:Nat):Int)
 | .mk n ks=>by
  have hk:=Dk (l+1) ks
  rw[ZM,Yb]
  refine⟨fun p hp=> ?_,?_⟩
  ·rcases List.mem_cons.1 hp with rfl|hp
   ·exact⟨Int.le_refl _,by show(l:Int)<_;omega⟩
   ·have:=hk.1 p hp
    omega
  ·cases hks:ks with
   | nil=>exact⟨(.mk n [],(l:Int)),by simp[ZK],by simp[ZP]⟩
   | cons k ks'=>
    obtain⟨p,hp,e⟩:=hk.2 (by rw[hks];simp)
    rw[<- hks]
    exact⟨p,List.mem_cons_of_mem _ hp,by rw[e];congr 1;omega⟩
theorem Dk(l:Nat): ∀ ks:List Tm,(∀ p∈ZK l ks,(l:Int)<=p.2∧p.2<((l+ZP ks:Nat):Int))∧(ks≠[]-> ∃ p∈ZK l ks,p.2=((l+ZP ks - 1:Nat):Int))
 | []=>⟨fun p hp=>by simp[ZK]at hp,fun h=>absurd rfl h⟩
 | k::ks=>by
  have h1:=JZ l k
  have h2:=Dk l ks
  rw[ZK,ZP]
  refine⟨fun p hp=> ?_,fun _=> ?_⟩
  ·rcases List.mem_append.1 hp with hp|hp
   ·have:=h1.1 p hp;omega
   ·have:=h2.1 p hp;omega
  ·by_cases hc:ZP ks<=Yb k
   ·obtain⟨p,hp,e⟩:=h1.2
    exact⟨p,List.mem_append_left _ hp,by rw[e];congr 1;omega⟩
   ·cases hks:ks with
    | nil=>rw[hks]at hc;simp[ZP]at hc
    | cons x xs=>
     obtain⟨p,hp,e⟩:=h2.2 (by rw[hks];simp)
     rw[<- hks]
     exact⟨p,List.mem_append_right _ hp,by rw[e];congr 1;omega⟩
end
end Go.Pl

namespace Go.Pl
open Go.RowKit
open Enc (enc dec is)
open EncL (encL decL isL)
def c3f:AV×List AObj×List AObj:=(.tup [.pv (.int .i64 0),.pv .nilmap,.pv (.bool false)],[],[])
structure FnV (n:Nat) where
 u:Unit:=()
instance (n:Nat):Enc (FnV n) where
  sz:=1
  enc _:=.fn n
  dec _:={}
  is | .fn m=>m==n|_=>false
  is_enc _:=by simp
  dec_enc _:=rfl
  sub p h:=by
    cases p with
    | fn m => have : m = n := by simpa using h
              subst this;exact .refl _
    | _=>cases h
def Y6{α:Type}(p:α->Bool)(l:List α):Int:=match l.findIdx? p with|some i=>i|none=> -1
theorem Uc{α:Type}(p:α->Bool)(l:List α):decide (Y6 p l ≥ 0)=l.any p:=by
 unfold Y6
 cases h:l.findIdx? p with
 | none=>
  rw[List.findIdx?_eq_none_iff]at h
  have:l.any p=false:=by rw[List.any_eq_false];intro x hx;simp[h x hx]
  rw[this];rfl
 | some i=>
  have:l.any p=true:=by
   rw[List.findIdx?_eq_some_iff_getElem]at h
   obtain⟨hi,hp,_⟩:=h
   rw[List.any_eq_true]
   exact⟨_,List.getElem_mem hi,hp⟩
  rw[this]
  exact decide_eq_true (by show(i:Int) ≥ 0;omega)
theorem TK{α:Type}(p:α->Bool)(l:List α)(i:Nat)(hlt:i<l.length)(hno : ∀ j (h:j<l.length),j<i->p l[j]=false)(hp:p l[i]=true):Y6 p l=i:=by
 unfold Y6
 have:l.findIdx? p=some i:=by
  rw[List.findIdx?_eq_some_iff_getElem]
  exact⟨hlt,hp,fun j hj=>by simp[hno j (by omega) hj]⟩
 rw[this]
theorem Sk{α:Type}(p:α->Bool)(l:List α)(hno : ∀ j (h:j<l.length),p l[j]=false):Y6 p l = -1:=by
 unfold Y6
 have:l.findIdx? p=none:=by
  rw[List.findIdx?_eq_none_iff]
  intro x hx
  obtain⟨j,hj,rfl⟩:=List.getElem_of_mem hx
  exact hno j hj
 rw[this]
end Go.Pl

namespace Go.Pl
open Go.RowKit
open Enc (enc dec is)
open EncL (encL decL isL)
mutual
def cSm:Cert->Bool
 | .mk _ m l ks=>decide (m.length<=9223372036854775807)&&VN l&&decide (ks.length<=9223372036854775807)&&b1q ks
def b1q:List Cert->Bool
 | []=>true
 | c::cs=>cSm c&&b1q cs
end
mutual
theorem c1q: ∀ {c:Cert},cSm c=true->cOk c=true
 | .mk k m l ks,h=>by
  simp only[cSm,cOk,VN,Bool.and_eq_true]at h ⊢
  exact⟨⟨⟨h.1.1.1,h.1.1.2.1⟩,h.1.2⟩,Ou h.2⟩
theorem Ou: ∀ {cs:List Cert},b1q cs=true->b2z cs=true
 | [],_=>rfl
 | c::cs,h=>by
  simp only[b1q,b2z,Bool.and_eq_true]at h ⊢
  exact⟨c1q h.1,Ou h.2⟩
end
theorem K7{s:Str}(h:Yf s=true):s.s.length<=30:=by
 unfold Yf at h
 split at h
 ·cases h
 ·rename_i c r hs
  rw[hs]
  split at h
  ·simp only[Bool.and_eq_true,decide_eq_true_eq]at h
   have:=h.2
   simp only[List.length_cons]
   omega
  ·simp only[Bool.and_eq_true,decide_eq_true_eq]at h
   have:=h.2
   simp only[List.length_cons]
   omega
theorem Hr{l:Lin}(h:Zw l=true):l.t.length<=12:=by
 simp only[Zw,Bool.and_eq_true,decide_eq_true_eq]at h
 exact h.2
theorem VE{l:Lin}(h:Zw l=true){t:Coef}(ht:t∈l.t):Yf t.v=true∧t.c≠0∧ -1000000<=t.c∧t.c<=1000000:=by
 simp only[Zw,Bool.and_eq_true,decide_eq_true_eq,List.all_eq_true]at h
 have:=h.1.1.1 t ht
 simp only[Yj,Bool.and_eq_true,decide_eq_true_eq]at this
 exact⟨this.1.1,this.1.2,this.2⟩
theorem O5{l:Lin}(h:Zw l=true): -1000000<=l.k∧l.k<=1000000:=by
 simp only[Zw,Yj,Bool.and_eq_true,decide_eq_true_eq]at h
 exact h.1.2
end Go.Pl

namespace Go.Pl
open Enc (enc dec is)
@[irreducible] def KG (a : Nat) (r : List UInt8) : Nat := r.foldl (fun a c => a * 10 + (c.toNat - 48)) a
theorem Jw(a:Nat):KG a []=a:=by unfold KG;rfl
theorem Uk(a:Nat)(c:UInt8)(r:List UInt8):KG a (c::r)=KG (a*10+(c.toNat - 48)) r:=by unfold KG;rfl
theorem XX{c:UInt8}:digB c=true ↔ 48<=c.toNat∧c.toNat<=57:=by
 simp only[digB,Bool.and_eq_true,decide_eq_true_eq,UInt8.le_iff_toNat_le]
 have e1:(48:UInt8).toNat=48:=rfl
 have e2:(57:UInt8).toNat=57:=rfl
 rw[e1,e2]
theorem FK: ∀ (r:List UInt8) (a:Nat),r.all digB=true->KG a r<(a+1)*10 ^ r.length
 | [],a,_=>by simp[Jw]
 | c::r,a,h=>by
  simp only[List.all_cons,Bool.and_eq_true,XX]at h
  have:=FK r (a*10+(c.toNat - 48)) h.2
  rw[Uk,List.length_cons,Nat.pow_succ]
  refine Nat.lt_of_lt_of_le this ?_
  rw[Nat.mul_comm (10 ^ r.length) 10,<- Nat.mul_assoc]
  exact Nat.mul_le_mul_right _ (by omega)
theorem AO: ∀ (r:List UInt8) (a:Nat),a<=KG a r
 | [],a=>by rw[Jw];exact Nat.le_refl _
 | c::r,a=>by
  have:=AO r (a*10+(c.toNat - 48))
  rw[Uk]
  omega
theorem Ak: ∀ (r:List UInt8) (a:Nat),r.all digB=true->KG a r<1000000000000000000->Lib.parseUint10 a r = .ok (KG a r)
 | [],a,_,_=>by rw[Jw,Lib.parseUint10]
 | c::r,a,h,hv=>by
  simp only[List.all_cons,Bool.and_eq_true,XX]at h
  rw[Uk]at hv ⊢
  have hge:=AO r (a*10+(c.toNat - 48))
  rw[Lib.parseUint10,if_pos h.1,if_neg (by omega),if_neg (by omega)]
  exact Ak r _ h.2 hv
theorem b0x{a d:Nat}(ha:1<=a)(hd:d<=9):Lib.decDigits (a*10+d)=Lib.decDigits a++[UInt8.ofNat (48+d)]:=by
 rw[Lib.decDigits,dif_neg (by omega),show(a*10+d) / 10=a by omega,show(a*10+d) % 10=d by omega]
theorem FV: ∀ (r:List UInt8) (a:Nat),1<=a->r.all digB=true->Lib.decDigits (KG a r)=Lib.decDigits a++r
 | [],a,_,_=>by simp[Jw]
 | c::r,a,ha,h=>by
  simp only[List.all_cons,Bool.and_eq_true,XX]at h
  rw[Uk,FV r _ (by omega) h.2,b0x ha (by omega)]
  have:UInt8.ofNat (48+(c.toNat - 48))=c:=by
   rw[show 48+(c.toNat - 48)=c.toNat by omega]
   exact UInt8.ofNat_toNat
  rw[this]
  simp
theorem a6x{n:Nat}(h:n<256):(UInt8.ofNat n).toNat=n:=by rw[UInt8.toNat_ofNat'];omega
theorem Df: ∀ (u:Nat),1<=u->(Lib.decDigits u).all digB=true∧(Lib.decDigits u).head? ≠ some 48∧Lib.decDigits u≠[]:=by
 intro u
 induction u using Nat.strongRecOn with
 | _ u ih=>
  intro h1
  rw[Lib.decDigits]
  by_cases h:u<10
  ·rw[dif_pos h]
   refine⟨?_,?_,by simp⟩
   ·simp only[List.all_cons,List.all_nil,Bool.and_true]
    rw[XX,a6x (by omega)]
    omega
   ·simp only[List.head?_cons,ne_eq,Option.some.injEq]
    intro e
    have:=congrArg UInt8.toNat e
    rw[a6x (by omega)]at this
    have e48:(48:UInt8).toNat=48:=rfl
    rw[e48]at this
    omega
  ·rw[dif_neg h]
   obtain⟨i1,i2,i3⟩:=ih (u / 10) (by omega) (by omega)
   refine⟨?_,?_,by simp⟩
   ·rw[List.all_append,i1]
    simp only[List.all_cons,List.all_nil,Bool.and_true,Bool.true_and]
    rw[XX,a6x (by omega)]
    omega
   ·cases hd:Lib.decDigits (u / 10)with
    | nil=>exact absurd hd i3
    | cons c r=>rw[hd]at i2;simpa using i2
def Ng(r:List UInt8):Bool:=r.all digB&& !r.isEmpty&&decide (r.head? ≠ some 48)
theorem c1p(b:Bool):VG (enc (⟨b⟩:Er)) = !b:=by cases b <;> rfl
theorem b7v(e:Er):Cy (enc e)=true:=by obtain⟨b⟩:=e;cases b <;> rfl
theorem Od(r:List UInt8)(hr:r.length<=9):(VG (enc (Yg ⟨r⟩).2)&&decide ((Yg ⟨r⟩).1>0)&&(Lib.itoa (Yg ⟨r⟩).1==r))=Ng r:=by
 by_cases hn:Ng r=true
 ·rw[hn]
  simp only[Ng,Bool.and_eq_true,Bool.not_eq_true',decide_eq_true_eq]at hn
  obtain⟨⟨h1,h2⟩,h3⟩:=hn
  cases r with
  | nil=>simp at h2
  | cons c r=>
   have h1':=h1
   simp only[List.all_cons,Bool.and_eq_true,XX]at h1
   have hc:c≠48:=by simpa using h3
   have hc':c.toNat≠48:=fun e=>hc (UInt8.toNat_inj.1 (by rw[e];rfl))
   have hv:=FK (c::r) 0 h1'
   have hp:10 ^ (c::r).length<=10 ^ 9:=Nat.pow_le_pow_right (by omega) hr
   have hpm:=Ak (c::r) 0 h1' (by omega)
   have hat:Lib.atoiAll (c::r) = .ok (KG 0 (c::r):Int):=by
    have e1 : ¬ (c.toNat=43∨c.toNat=45):=by omega
    have e2 : ¬ c.toNat=45:=by omega
    simp only[Lib.atoiAll,if_neg e1,Lib.parseMag,if_neg (show ¬ (c::r=[]) by simp),hpm]
    rw[if_neg (by omega),if_neg (fun e=>e2 e.1),if_neg e2]
   have ha:Yg ⟨c::r⟩=((KG 0 (c::r):Int),⟨false⟩):=by simp only[Yg,hat]
   have hvd:KG 0 (c::r)=KG (c.toNat - 48) r:=by rw[Uk];congr 1;omega
   have hpos:=AO r (c.toNat - 48)
   rw[ha]
   have h4:Lib.itoa (KG 0 (c::r):Int)=c::r:=by
    rw[Lib.itoa,if_neg (by omega),Int.toNat_natCast,hvd,FV r _ (by omega) h1.2,Lib.decDigits,dif_pos (by omega)]
    have:UInt8.ofNat (48+(c.toNat - 48))=c:=by
     rw[show 48+(c.toNat - 48)=c.toNat by omega]
     exact UInt8.ofNat_toNat
    rw[this];rfl
   simp only[c1p,h4,beq_self_eq_true,Bool.and_true,Bool.not_false,Bool.true_and]
   exact decide_eq_true (by omega)
 ·have hn:Ng r=false:=by simpa using hn
  rw[hn]
  by_cases h1:decide ((Yg ⟨r⟩).1>0)=true
  ·by_cases h2:(Lib.itoa (Yg ⟨r⟩).1==r)=true
   ·exfalso
    have h1:(Yg ⟨r⟩).1>0:=by simpa using h1
    have h2:Lib.itoa (Yg ⟨r⟩).1=r:=by simpa using h2
    rw[Lib.itoa,if_neg (by omega)]at h2
    obtain⟨d1,d2,d3⟩:=Df (Yg ⟨r⟩).1.toNat (by omega)
    rw[h2]at d1 d2 d3
    have:Ng r=true:=by simp only[Ng,d1,decide_eq_true d2,Bool.true_and,Bool.and_true];cases r <;> simp at d3 ⊢
    rw[this]at hn;cases hn
   ·simp[h2]
  ·simp[h1]
theorem PR(r:List UInt8):Yf ⟨95::r⟩=(Ng r&&decide (r.length<=9)):=by simp[Yf,Ng]
end Go.Pl

namespace Go.Pl
open Go.RowKit
open Enc (enc dec is)
open EncL (encL decL isL)
def XB(o:List UInt8)(n:Int)(s:List UInt8):List UInt8:=
 (if decide (n ≥ 0)&&decide (o≠[])then o++[43]else o)++((if decide (s≠[])&&(decide (n=1)||decide (n = -1))then Lib.trimSuffix (ZI n).s [49]else(ZI n).s)++s)
def TL(ts:List Coef):List UInt8:=ts.foldl (fun o t=>XB o t.c t.v.s) []
def Ym(l:Lin):List UInt8:=if Zw l then(if decide (l.k≠0)||decide (TL l.t=[])then XB (TL l.t) l.k []else TL l.t)else []
def XF:List AV->List AObj->Bool
 | [.pv (.int .i64 n),.pv (.str s),.ptr 0 0],[.box [.pv (.str o)]]=>decide (-9223372036854775808<=n)&&decide (n<=9223372036854775807)&&decide (s.length<=1000000)&&decide (o.length<=1000000)
 | _,_=>false
def JE:List AV->List AObj->AV×List AObj×List AObj
 | [.pv (.int .i64 n),.pv (.str s),.ptr 0 0],[.box [.pv (.str o)]]=>(.tup [],[.box [.pv (.str (XB o n s))]],[])
 | _,_=>c3f
end Go.Pl

namespace Go.Pl
open Go.RowKit
open Enc (enc dec is)
open EncL (encL decL isL)
structure OpR where
 s:List UInt8
 u:Bool
 n:List UInt8
 l:Int
 deriving DecidableEq
def Xv:List OpR:=[⟨[124,124],false,[111,114],1⟩,⟨[38,38],false,[97,110,100],2⟩,⟨[61,61],false,[101,113],3⟩,⟨[33,61],false,[110,101],3⟩,⟨[60],false,[108,116],3⟩,⟨[60,61],false,[108,101],3⟩,⟨[62],false,[103,116],3⟩,⟨[62,61],false,[103,101],3⟩,⟨[43],false,[97,100,100],4⟩,⟨[45],false,[115,117,98],4⟩,⟨[42],false,[109,117,108],5⟩,⟨[47],false,[100,105,118],5⟩,⟨[37],false,[109,111,100],5⟩,⟨[45],true,[110,101,103],6⟩,⟨[33],true,[110,111,116],6⟩]
def Pk(n:List UInt8):Option OpR:=Xv.find? fun r=>r.n==n
def c6a(s:List UInt8)(u:Bool):Option OpR:=Xv.find? fun r=>r.s==s&&r.u==u
def Bo(n:Nd)(k:Nat):Option OpR:=match Pk n.name.s with
 | none=>none
 | some r=>if n.kind=6∧k=(if r.u then 1 else 2)∧n.sizes=[]∧n.num=0∧n.ranks=[]then some r else none
def Nt(n:Nd)(k:Nat):Int:=if n.kind=5 then 0 else match Bo n k with
 | some r=>r.l
 | none=>if n.kind=2∧n.name.s=UA∧n.num<0 then 6 else 7
def XV(t:Tm):Int:=Nt t.nd t.ks.length
def Vr(b:Bool)(s:List UInt8):List UInt8:=if b then [40]++s++[41]else s
def Yd:List (List UInt8)->List UInt8
 | []=>[]
 | [s]=>s
 | s::r=>s++[44,32]++Yd r
def UD(n:Int):List UInt8:=(ZI n).s
def X9:List Int->List UInt8
 | []=>[]
 | [n]=>UD n
 | n::r=>UD n++[32]++X9 r
def Bd(a:Arr):List UInt8:=(if a.e.s=VW then [35,98,91]else [35,91])++X9 a.d++[58]++a.x.flatMap (fun n=>[32]++UD n)++[93]
def SI(n:Nd):List UInt8:=if n.name.s=UA then UD n.num else if n.num=1 then [116,114,117,101]else [102,97,108,115,101]
def Vj(n:Nd)(ks:List (List UInt8)):List UInt8:=
 n.name.s++(if n.sizes=[]then []else [91]++Yd (n.sizes.map Ym)++[93])++(if n.num=0 then []else [123]++UD n.num++[125])++(if n.ranks=[]then []else [64,40]++Yd (n.ranks.map UD)++[41])++([40]++Yd ks++[41])
def Qo(n:Nd)(ks:List (Int×Bool×List UInt8)):List UInt8:=
 match Bo n ks.length,ks with
 | some r,[k]=>r.s++Vr (decide (k.1<6)||(decide (r.s=[45])&&k.2.1)) k.2.2
 | some r,[a,b]=>Vr (decide (a.1<r.l)||(decide (a.1=3)&&decide (r.l=3))) a.2.2++[32]++r.s++[32]++Vr (decide (b.1<=r.l)) b.2.2
 | _,_=>
  if n.kind=1 then n.name.s
  else if n.kind=2 then SI n
  else if n.kind=4 then [115,105,122,101,91]++(match n.sizes with|[]=>[]|l::_=>Ym l)++[93]
  else if n.kind=5 then [108,101,116,32]++n.name.s++[32,61,32]++(match ks with|[a,b]=>a.2.2++[32,105,110,32]++b.2.2|_=>[])
  else if n.kind=6 then Vj n (ks.map (·.2.2))
  else if n.kind=7 then [91]++Yd (ks.map (·.2.2))++[93]
  else if n.kind=8 then [102,111,108,100,40]++Yd (n.name.s::ks.map (·.2.2))++[41]
  else if n.kind=9 then [115,99,97,110,40]++Yd (n.name.s::ks.map (·.2.2))++[41]
  else Bd (Q7 n)
def Ld(t:Tm):Bool:=decide (t.nd.kind=2)&&decide (t.nd.name.s=UA)&&decide (t.nd.num ≥ 0)
mutual
def ZV:Tm->List UInt8
 | .mk n ks=>Qo n (Yw ks)
def Yw:List Tm->List (Int×Bool×List UInt8)
 | []=>[]
 | k::ks=>(XV k,Ld k,ZV k)::Yw ks
end
theorem VC(ks:List Tm):Yw ks=ks.map fun k=>(XV k,Ld k,ZV k):=by
 induction ks with
 | nil=>simp[Yw]
 | cons k ks ih=>simp[Yw,ih]
end Go.Pl

namespace Go.Pl
open Go.RowKit
open Enc (enc dec is)
open EncL (encL decL isL)
def wCf(c:Coef):Nat:=c.v.s.length+2
def NF(l:Lin):Nat:=(l.t.map wCf).sum+2
def wNd(n:Nd):Nat:=n.name.s.length+n.elem.s.length+n.dims.length+n.data.length+n.ranks.length+(n.sizes.map NF).sum+1
mutual
def KX:Tm->Nat
 | .mk n ks=>wNd n+Vp ks
def Vp:List Tm->Nat
 | []=>0
 | k::ks=>KX k+Vp ks
end
def tW(t:Tm):Bool:=decide (KX t<=1048576)
def NE(ts:List Tm):Bool:=decide (Vp ts<=1048576)
theorem b5x(t:Tm):1<=KX t:=by cases t;rw[KX];unfold wNd;omega
theorem Cz(ks:List Tm):ks.length<=Vp ks:=by
 induction ks with
 | nil=>simp
 | cons k ks ih=>have:=b5x k;rw[Vp,List.length_cons];omega
theorem Pp{ks:List Tm}{k:Tm}(h:k∈ks):KX k<=Vp ks:=by
 induction ks with
 | nil=>cases h
 | cons a ks ih=>
  rw[Vp]
  rcases List.mem_cons.1 h with rfl|h
  ·omega
  ·have:=ih h;omega
mutual
theorem KO: ∀ t:Tm,ZY t<=KX t
 | .mk n ks=>by
  have:=Ac ks
  rw[ZY,KX];unfold wNd;omega
theorem Ac: ∀ ks:List Tm,ZF ks<=Vp ks
 | []=>by simp[ZF,Vp]
 | k::ks=>by
  have h1:=KO k
  have h2:=Ac ks
  rw[ZF,Vp];omega
end
theorem Tu{α:Type}{f:α->Nat}{l:List α}{x:α}(h:x∈l):f x<=(l.map f).sum:=by
 induction l with
 | nil=>cases h
 | cons a l ih=>
  rw[List.map_cons,List.sum_cons]
  rcases List.mem_cons.1 h with rfl|h
  ·omega
  ·have:=ih h;omega
theorem GQ{α:Type}{f:α->Nat}(hf : ∀ x,1<=f x)(l:List α):l.length<=(l.map f).sum:=by
 induction l with
 | nil=>simp
 | cons a l ih=>have:=hf a;rw[List.map_cons,List.sum_cons,List.length_cons];omega
structure NdB (n:Nd) (B:Nat):Prop where
 name:n.name.s.length<=B
 elem:n.elem.s.length<=B
 dims:n.dims.length<=B
 data:n.data.length<=B
 ranks:n.ranks.length<=B
 sizes:n.sizes.length<=B
 lens : ∀ l∈n.sizes,l.t.length<=B
 vars : ∀ l∈n.sizes,∀ c∈l.t,c.v.s.length<=B
theorem ndB{n:Nd}{ks:List Tm}(h:tW (.mk n ks)=true):NdB n 1048576:=by
 have h:=of_decide_eq_true h
 rw[KX]at h
 unfold wNd at h
 have hs:=GQ (f:=NF) (fun x=>by unfold NF;omega) n.sizes
 refine⟨by omega,by omega,by omega,by omega,by omega,by omega,fun l hl=> ?_,fun l hl c hc=> ?_⟩
 ·have h3:NF l<=(n.sizes.map NF).sum:=Tu hl
  have h2:=GQ (f:=wCf) (fun x=>by unfold wCf;omega) l.t
  have h5:NF l=(l.t.map wCf).sum+2:=rfl
  omega
 ·have h3:NF l<=(n.sizes.map NF).sum:=Tu hl
  have h4:wCf c<=(l.t.map wCf).sum:=Tu hc
  have h5:NF l=(l.t.map wCf).sum+2:=rfl
  have h6:wCf c=c.v.s.length+2:=rfl
  omega
theorem GU{n:Nd}{ks:List Tm}(h:tW (.mk n ks)=true):ks.length<=1048575∧ ∀ k∈ks,tW k=true:=by
 have h:=of_decide_eq_true h
 rw[KX]at h
 unfold wNd at h
 have:=Cz ks
 exact⟨by omega,fun k hk=>decide_eq_true (by have:=Pp hk;omega)⟩
def V8(l:Lin):Bool:=H7 l&&l.t.all fun t=>decide (t.v.s.length<=281474976710656)
theorem b0i{n:Nd}{ks:List Tm}(h:tW (.mk n ks)=true): ∀ l∈n.sizes,V8 l=true:=fun l hl=>by
 unfold V8 H7
 rw[decide_eq_true (by have:=(ndB h).lens l hl;omega),Bool.true_and,List.all_eq_true]
 exact fun c hc=>decide_eq_true (by have:=(ndB h).vars l hl c hc;omega)
theorem a6u{n:Nd}{ks:List Tm}(h:tW (.mk n ks)=true):Qk (Q7 n)=true:=by
 have:=ndB h
 show(decide (n.dims.length<=2000000)&&decide (n.data.length<=2000000))=true
 rw[decide_eq_true (by have:=this.dims;omega),decide_eq_true (by have:=this.data;omega)]
 rfl
end Go.Pl

namespace Go.Pl
open Go.RowKit
open Enc (enc dec is)
open EncL (encL decL isL)
def EN(c:UInt8):Bool:=lowB c||c==95||digB c
def rdV(s:List UInt8)(n:Int)(es:List (PV×PV)):List AObj:=[.box [.pv (.str s),.pv (.int .i64 n),.map 1],.map es]
end Go.Pl

namespace Go.Pl
open Go.RowKit
open Enc (enc dec is)
open EncL (encL decL isL)
def atR(s:List UInt8)(n:Int):List UInt8:=s.drop n.toNat
def ldB(c:UInt8):Bool:=digB c||lowB c
end Go.Pl

namespace Go.Pl
open Go.RowKit
open Enc (enc dec is)
open EncL (encL decL isL)
structure RdS where
 s:List UInt8
 n:Int
 m:List (Str×Int)
def RdS.os(r:RdS):List AObj:=rdV r.s r.n (c5l r.m)
end Go.Pl

namespace Go.Pl
open Go.RowKit
end Go.Pl

namespace Go.Pl
open Go.RowKit
open Enc (enc dec is)
open EncL (encL decL isL)
end Go.Pl

namespace Go.Pl
open Go.RowKit
open Enc (enc dec is)
open EncL (encL decL isL)
end Go.Pl

namespace Go.Pl
open Go.RowKit
open Enc (enc dec is)
open EncL (encL decL isL)
set_option maxRecDepth 100000
end Go.Pl

namespace Go.Pl
open Go.RowKit
open Enc (enc dec is)
open EncL (encL decL isL)
set_option maxRecDepth 100000
end Go.Pl

namespace Go.Pl
open Go.RowKit
open Enc (enc dec is)
open EncL (encL decL isL)
end Go.Pl

namespace Go.Pl
open Go.RowKit
open Enc (enc dec is)
open EncL (encL decL isL)
end Go.Pl

namespace Go.Pl
open Go.RowKit
open Enc (enc dec is)
open EncL (encL decL isL)
end Go.Pl

namespace Go.Pl
open Go.RowKit
open Enc (enc dec is)
open EncL (encL decL isL)
set_option maxRecDepth 100000
def M5:IC:=(.seq (.reg [⟨(some 2),(.mv (.c (.bool false))),0,none⟩] none) (.seq (.reg [⟨(some 3),(.mv (.t 0)),0,none⟩,⟨(some 4),(.bin .num .geq (.t 3) (.c (.int .i64 (-1000000)))),0,none⟩,⟨(some 5),(.mv (.t 4)),0,none⟩,⟨(some 6),(.mv (.t 0)),0,(some (5,true))⟩,⟨(some 7),(.bin .num .leq (.t 6) (.c (.int .i64 1000000))),0,(some (5,true))⟩,⟨(some 8),(.pick (.t 5) (.t 7) (.c (.bool false))),0,none⟩,⟨(some 2),(.mv (.t 8)),0,none⟩] none) .ret))
def Fj:List IRes:=[(.tmp 2)]
abbrev c2f:Nat:=9
def b0j:ZC:=Xi []
theorem c3g{G:PV->Prop}(n:Int)(h:if (decide (n ≥ (-1000000:Int)))=true then G ((.bool (decide (n<=1000000))))else(G ((.bool false)))):Zc b0j 0 (Za Fj G) M5 [] (Ye 9 [enc n]):=Zc.tp (.lit (.ask (.lit (.lit (.lit (.nil)))) (.lit (.lit (.nil))))) h (by kernel_rfl)
-- IMPOSSIBLE
end Go.Pl

namespace Go.Pl
open Go.RowKit
open Enc (enc dec is)
open EncL (encL decL isL)
theorem c2t{a b:Bool}{G:PV->Prop}(h:G (.bool (a&&b))):if a=true then G (.bool b)else G (.bool false):=by cases a <;> simpa using h
theorem b4u: ∀ a:Int×Unit,true=true->Zc b0j 0 (Za Fj (Zk (Yj a.1))) M5 [] (Ye c2f (encL a)):=by
 rintro⟨n,⟨⟩⟩ -
 exact c3g n (c2t (Z0 rfl))
end Go.Pl

namespace Go.Pl
open Go.RowKit
open Enc (enc dec is)
open EncL (encL decL isL)
def Gn(prev:Option (List UInt8)):List Coef->Bool
 | []=>true
 | t::r=>Yf t.v&&decide (t.c≠0)&&Yj t.c&&(match prev with|none=>true|some p=>decide (p<t.v.s))&&Gn (some t.v.s) r
theorem KU(p:Option (List UInt8))(t:Coef)(r:List Coef):Gn p (t::r)=(Yf t.v&&decide (t.c≠0)&&Yj t.c&&(match p with|none=>true|some p=>decide (p<t.v.s))&&Gn (some t.v.s) r):=by cases p <;> rfl
theorem Rj: ∀ (l:List Coef) (p:List UInt8),Gn (some p) l=(l.all (fun t=>Yf t.v&&decide (t.c≠0)&&Yj t.c)&&(match l with|[]=>true|t::_=>decide (p<t.v.s))&&Bj l)
 | [],p=>by simp[Gn,Bj]
 | t::r,p=>by
  rw[KU,Rj r]
  cases r with
  | nil=>simp[Bj]
  | cons u r=>
   simp only[List.all_cons,Bj]
   ac_rfl
theorem a5e(l:List Coef):Gn none l=(l.all (fun t=>Yf t.v&&decide (t.c≠0)&&Yj t.c)&&Bj l):=by
 cases l with
 | nil=>simp[Gn,Bj]
 | cons t r=>
  rw[KU,Rj r]
  cases r with
  | nil=>simp[Bj]
  | cons u r=>
   simp only[List.all_cons,Bj,Bool.and_true]
   ac_rfl
theorem Rs(l:Lin):Zw l=(Yj l.k&&decide (l.t.length<=12)&&Gn none l.t):=by
 rw[a5e,Zw]
 ac_rfl
def pvS(ts:List Coef):Nat->Option (List UInt8)
 | 0=>none
 | i+1=>(ts[i]?).map (·.v.s)
theorem OC{k:Nat}(h:k<9223372036854775807):IntKind.i64.wrap (((k+1:Nat):Int) - 1)=(k:Int):=by rw[Lu (by omega) (by omega)];omega
end Go.Pl

namespace Go.Pl
open Go.RowKit
open Enc (enc dec is)
open EncL (encL decL isL)
end Go.Pl

namespace Go.Pl
open Go.RowKit
open Enc (enc dec is)
open EncL (encL decL isL)
end Go.Pl

namespace Go.Pl
open Go.RowKit
end Go.Pl

namespace Go.Pl
open Go.RowKit
end Go.Pl

namespace Go.Pl
open Go.RowKit
open Enc (enc dec is)
open EncL (encL decL isL)
theorem NW{c:UInt8}(h:digB c=true):c≠95:=by
 rintro rfl
 revert h;decide
theorem b5f(c:UInt8):EN c=(ldB c||c==95):=by unfold EN ldB;cases lowB c <;> cases digB c <;> cases (c==95) <;> rfl
end Go.Pl

namespace Go.Pl
open Go.RowKit
open Enc (enc dec is)
open EncL (encL decL isL)
theorem WO{u:Nat}(h:u<10):Lib.decDigits u=[UInt8.ofNat (48+u)]:=by rw[Lib.decDigits,dif_pos h]
theorem b2n{u:Nat}(h : ¬ u<10):Lib.decDigits u=Lib.decDigits (u / 10)++[UInt8.ofNat (48+u % 10)]:=by rw[Lib.decDigits,dif_neg h]
theorem TT: ∀ (k u:Nat),u<10 ^ (k+1)->(Lib.decDigits u).length<=k+1
 | 0,u,h=>by rw[WO (by simpa using h)];simp
 | k+1,u,h=>by
  by_cases hu:u<10
  ·rw[WO hu];simp
  ·rw[b2n hu,List.length_append,List.length_singleton]
   have:=TT k (u / 10) (by rw[Nat.pow_succ]at h;omega)
   omega
theorem Sa(u:Nat):(Lib.decDigits u).all digB=true∧Lib.decDigits u≠[]∧((Lib.decDigits u).length>1->(Lib.decDigits u).headD 0≠48):=by
 by_cases h:1<=u
 ·obtain⟨a,b,c⟩:=Df u h
  refine⟨a,c,fun _ e=>b ?_⟩
  cases hd:Lib.decDigits u with
  | nil=>exact absurd hd c
  | cons x r=>rw[hd]at e;rw[List.head?_cons];exact congrArg some e
 ·obtain rfl:u=0:=by omega
  rw[WO (by omega)]
  exact⟨by decide,by simp,by simp⟩
def Vh(n:Nat)(v:List UInt8):List UInt8:=(if v=[]then Lib.decDigits n else if n>1 then Lib.decDigits n else [])++v
theorem Cu{v:List UInt8}(h:Yf ⟨v⟩=true): ∃ c w,v=c::w∧(lowB c||c==95)=true∧w.all ldB=true∧v.length<=30:=by
 cases v with
 | nil=>cases h
 | cons c w=>
  have hl:=K7 h
  refine⟨c,w,rfl,?_,?_,hl⟩
  ·unfold Yf at h
   simp only at h
   by_cases h95:c=95
   ·subst h95;decide
   ·rw[if_neg h95]at h
    simp only[Bool.and_eq_true]at h
    rw[h.1.1];rfl
  ·unfold Yf at h
   simp only at h
   by_cases h95:c=95
   ·rw[if_pos h95]at h
    simp only[Bool.and_eq_true]at h
    have:=h.1.1.1
    rw[List.all_eq_true]at this ⊢
    intro x hx
    unfold ldB
    rw[this x hx];rfl
   ·rw[if_neg h95]at h
    simp only[Bool.and_eq_true]at h
    have:=h.1.2
    rw[List.all_eq_true]at this ⊢
    intro x hx
    have:=this x hx
    unfold ldB
    rw[Bool.or_comm];exact this
theorem Fy{c:UInt8}(h:(lowB c||c==95)=true):digB c=false∧EN c=true∧c≠32∧c≠43∧c≠45:=by
 have hd:digB c=false:=by
  cases hd:digB c with
  | false=>rfl
  | true=>
   have h2:=NW hd
   rw[XX]at hd
   have:lowB c=false:=by
    unfold lowB
    rw[Bool.and_eq_false_iff]
    left
    rw[decide_eq_false_iff_not,UInt8.le_iff_toNat_le]
    have:(97:UInt8).toNat=97:=rfl
    omega
   rw[this,Bool.false_or]at h
   exact absurd (eq_of_beq h) h2
 refine⟨hd,by unfold EN;rw[h];rfl,?_,?_,?_⟩ <;> (rintro rfl;revert h;decide)
theorem EQ{n:Nat}{v:List UInt8}(hv:v=[]∨Yf ⟨v⟩=true): ∃ c w,Vh n v=c::w∧c≠32∧c≠43∧c≠45:=by
 have hdec : ∃ c w,Lib.decDigits n=c::w∧c≠32∧c≠43∧c≠45:=by
  obtain⟨d1,d2,_⟩:=Sa n
  cases hd:Lib.decDigits n with
  | nil=>exact absurd hd d2
  | cons c w=>
   rw[hd,List.all_cons,Bool.and_eq_true]at d1
   refine⟨c,w,rfl,?_,?_,?_⟩ <;> (rintro rfl;exact absurd d1.1 (by decide))
 obtain⟨c,w,hd,h⟩:=hdec
 unfold Vh
 rcases hv with rfl|hv
 ·exact⟨c,w,by rw[if_pos rfl,List.append_nil,hd],h⟩
 ·obtain⟨x,y,rfl,hc,_,_⟩:=Cu hv
  rw[if_neg (by simp)]
  by_cases hn:n>1
  ·rw[if_pos hn]
   exact⟨c,w++x::y,by rw[hd];rfl,h⟩
  ·rw[if_neg hn]
   exact⟨x,y,rfl,(Fy hc).2.2⟩
def sgT(c:Int):List UInt8:=if c<0 then [45]else [43]
def WB:List (Int×List UInt8)->List UInt8
 | []=>[]
 | q::r=>sgT q.1++(Vh q.1.natAbs q.2++WB r)
def H5:List (Int×List UInt8)->List UInt8
 | []=>[]
 | q::r=>(if q.1<0 then [45]else [])++(Vh q.1.natAbs q.2++WB r)
def b4a(q:Int×List UInt8):Prop:=q.1.natAbs<=1000000∧(q.2=[]∨Yf ⟨q.2⟩=true∧1<=q.1.natAbs)
theorem Fw{q:Int×List UInt8}(h:b4a q):q.2=[]∨Yf ⟨q.2⟩=true:=by
 rcases h.2 with h|h
 ·exact .inl h
 ·exact .inr h.1
theorem P9:Lib.trimSuffix [49] [49]=[]∧Lib.trimSuffix [45,49] [49]=[45]:=by constructor <;> decide
theorem Ux{n:Int}(h:n<0):(ZI n).s=45::Lib.decDigits n.natAbs:=by
 show Lib.itoa n=_
 unfold Lib.itoa;rw[if_pos h]
theorem Uu{n:Int}(h : ¬ n<0):(ZI n).s=Lib.decDigits n.natAbs:=by
 show Lib.itoa n=_
 unfold Lib.itoa
 rw[if_neg h]
 congr 1
 omega
theorem FD{o s:List UInt8}{n:Int}(hs:s≠[])(hn:n≠0):XB o n s=o++((if n<0 then [45]else if o=[]then []else [43])++Vh n.natAbs s):=by
 unfold XB Vh
 rw[if_neg hs,decide_eq_true hs,Bool.true_and]
 by_cases h:n<0
 ·rw[decide_eq_false (show ¬ n ≥ 0 by omega),Bool.false_and,if_neg (by simp),if_pos h,Ux h]
  by_cases h1:n = -1
  ·subst h1
   rw[if_pos (by decide),if_neg (by decide),show(-1:Int).natAbs=1 from rfl,WO (by omega)]
   show o++(Lib.trimSuffix [45,49] [49]++s)=_
   rw[P9.2];rfl
  ·rw[decide_eq_false h1,decide_eq_false (show ¬ n=1 by omega),if_neg (by simp),if_pos (by omega)]
   simp
 ·rw[decide_eq_true (show n ≥ 0 by omega),Bool.true_and,if_neg h,Uu h]
  have e:(if decide (o≠[])=true then o++[43]else o)=o++(if o=[]then []else [43]):=by
   by_cases ho:o=[]
   ·rw[if_neg (by simpa using ho),if_pos ho,List.append_nil]
   ·rw[if_pos (by simpa using ho),if_neg ho]
  rw[e]
  generalize (if o=[]then []else [43]:List UInt8)=z
  by_cases h1:n=1
  ·subst h1
   rw[if_pos (show(decide ((1:Int)=1)||decide ((1:Int) = -1))=true by decide),if_neg (show ¬ (1:Int).natAbs>1 by decide),show(1:Int).natAbs=1 from rfl,WO (by omega)]
   show o++z++(Lib.trimSuffix [49] [49]++s)=_
   rw[P9.1];simp
  ·rw[decide_eq_false h1,decide_eq_false (show ¬ n = -1 by omega),if_neg (show ¬ ((false||false)=true) by simp),if_pos (show n.natAbs>1 by omega)]
   simp
theorem a2z(o:List UInt8)(n:Int):XB o n []=o++((if n<0 then [45]else if o=[]then []else [43])++Vh n.natAbs []):=by
 unfold XB Vh
 rw[if_pos rfl,decide_eq_false (show ¬ ([]:List UInt8)≠[] by simp),Bool.false_and,if_neg (show ¬ (false=true) by simp)]
 by_cases h:n<0
 ·rw[decide_eq_false (show ¬ n ≥ 0 by omega),Bool.false_and,if_neg (show ¬ (false=true) by simp),if_pos h,Ux h]
  simp
 ·rw[decide_eq_true (show n ≥ 0 by omega),Bool.true_and,if_neg h,Uu h]
  have e:(if decide (o≠[])=true then o++[43]else o)=o++(if o=[]then []else [43]):=by
   by_cases ho:o=[]
   ·rw[if_neg (by simpa using ho),if_pos ho,List.append_nil]
   ·rw[if_pos (by simpa using ho),if_neg ho]
  rw[e];simp
theorem Ba: ∀ (x:List Coef) (o:List UInt8),o≠[]->(∀ t∈x,t.c≠0∧t.v.s≠[])->x.foldl (fun o t=>XB o t.c t.v.s) o=o++WB (x.map fun t=>(t.c,t.v.s))
 | [],o,_,_=>by simp[WB]
 | t::x,o,ho,h=>by
  obtain⟨h1,h2⟩:=h t (by simp)
  rw[List.foldl_cons,FD h2 h1,if_neg ho]
  have:(if t.c<0 then [45]else [43]:List UInt8)=sgT t.c:=rfl
  rw[this,Ba x _ (by simp[ho]) fun u hu=>h u (by simp[hu]),List.map_cons,WB]
  simp
theorem a7t(a b:List (Int×List UInt8)):WB (a++b)=WB a++WB b:=by
 induction a with
 | nil=>rfl
 | cons q a ih=>rw[List.cons_append,WB,WB,ih];simp
def VJ(l:Lin):List (Int×List UInt8):=(l.t.map fun t=>(t.c,t.v.s))++if decide (l.k≠0)||l.t.isEmpty then [(l.k,[])]else []
theorem a4m{l:Lin}(h:Zw l=true): ∀ t∈l.t,t.c≠0∧t.v.s≠[]:=fun t ht=>by
 obtain⟨a,b,_⟩:=VE h ht
 refine⟨b,fun e=> ?_⟩
 have:t.v=⟨[]⟩:=by cases hv:t.v;rw[hv]at e;simp at e;rw[e]
 rw[this]at a;cases a
theorem OY{n:Nat}{v:List UInt8}(hv:v=[]∨Yf ⟨v⟩=true):Vh n v≠[]:=by
 obtain⟨c,w,h,_⟩:=EQ (n:=n) hv
 rw[h];simp
theorem D7{l:Lin}(h:Zw l=true):Ym l=H5 (VJ l):=by
 have hn:=a4m h
 unfold Ym VJ TL
 rw[if_pos h]
 cases ht:l.t with
 | nil=>
  rw[List.foldl_nil,decide_eq_true (show([]:List UInt8)=[]from rfl),Bool.or_true,if_pos rfl,a2z]
  show _=H5 (([]:List (Int×List UInt8))++if (decide (l.k≠0)||true)=true then [(l.k,[])]else [])
  rw[Bool.or_true,if_pos rfl]
  show _=(if l.k<0 then [45]else [])++(Vh l.k.natAbs []++[])
  rw[List.append_nil,List.nil_append]
 | cons t x=>
  rw[ht]at hn
  have h1:=hn t (by simp)
  have hv:Yf t.v=true:=(VE h (by rw[ht];simp)).1
  rw[List.foldl_cons,FD h1.2 h1.1,List.nil_append,if_pos rfl]
  have hne:((if t.c<0 then [45]else [])++Vh t.c.natAbs t.v.s:List UInt8)≠[]:=by
   intro e
   exact OY (.inr hv) (List.append_eq_nil_iff.1 e).2
  rw[Ba x _ hne fun u hu=>hn u (by simp[hu])]
  have hne2 : ¬ ((if t.c<0 then [45]else [])++Vh t.c.natAbs t.v.s++WB (x.map fun t=>(t.c,t.v.s)):List UInt8)=[]:=fun e=>hne (List.append_eq_nil_iff.1 e).1
  rw[decide_eq_false hne2,Bool.or_false]
  show _=H5 (((t.c,t.v.s)::x.map fun t=>(t.c,t.v.s))++if (decide (l.k≠0)||false)=true then [(l.k,[])]else [])
  rw[Bool.or_false]
  by_cases hk:l.k=0
  ·rw[decide_eq_false (show ¬ l.k≠0 from fun h=>h hk),if_neg (show ¬ (false=true) by simp),if_neg (show ¬ (false=true) by simp),List.append_nil,H5,List.append_assoc]
  ·rw[decide_eq_true hk,if_pos (show true=true from rfl),if_pos (show true=true from rfl),a2z,if_neg hne2,List.cons_append,H5,a7t]
   have:(if l.k<0 then [45]else [43]:List UInt8)=sgT l.k:=rfl
   rw[this]
   simp[WB]
theorem RI{l:Lin}(h:Zw l=true): ∀ q∈VJ l,b4a q:=by
 intro q hq
 unfold VJ at hq
 rcases List.mem_append.1 hq with hq|hq
 ·obtain⟨t,ht,rfl⟩:=List.mem_map.1 hq
  obtain⟨a,b,c,d⟩:=VE h ht
  exact⟨by show t.c.natAbs<=_;omega,.inr ⟨a,by show 1<=t.c.natAbs;omega⟩⟩
 ·have hk:=O5 h
  split at hq
  ·have:q=(l.k,[]):=by simpa using hq
   subst this
   exact⟨by show l.k.natAbs<=_;omega,.inl rfl⟩
  ·cases hq
theorem a6p{n:Nat}{v:List UInt8}(hn:n<=1000000)(hv:v.length<=30):(Vh n v).length<=37:=by
 have:=TT 6 n (by omega)
 unfold Vh
 rw[List.length_append]
 split
 ·omega
 ·split
  ·omega
  ·rw[List.length_nil];omega
theorem Ae: ∀ r:List (Int×List UInt8),(∀ q∈r,b4a q)->(WB r).length<=r.length*38
 | [],_=>by simp[WB]
 | q::r,h=>by
  have h1:=Ae r fun p hp=>h p (by simp[hp])
  have hq:=h q (by simp)
  have hl:q.2.length<=30:=by
   rcases hq.2 with e|⟨e,_⟩
   ·rw[e];simp
   ·exact K7 e
  have h2:=a6p hq.1 hl
  have h3:(sgT q.1).length=1:=by unfold sgT;split <;> rfl
  rw[WB,List.length_append,List.length_append,h3,List.length_cons]
  omega
theorem Ui(l:Lin):(Ym l).length<=1000:=by
 by_cases h:Zw l=true
 ·rw[D7 h]
  have hok:=RI h
  have hv:=Hr h
  have hl:(VJ l).length<=13:=by
   unfold VJ
   rw[List.length_append,List.length_map]
   split
   ·simp;omega
   ·simp;omega
  have ht:=Ae _ hok
  have:(H5 (VJ l)).length<=(WB (VJ l)).length:=by
   cases VJ l with
   | nil=>exact Nat.le_refl _
   | cons q r=>
    rw[H5,WB]
    simp only[List.length_append]
    have:(if q.1<0 then [45]else []:List UInt8).length<=(sgT q.1).length:=by unfold sgT;split <;> simp
    omega
  omega
 ·unfold Ym
  rw[if_neg h];simp
end Go.Pl

namespace Go.Pl
open Go.RowKit
open Enc (enc dec is)
open EncL (encL decL isL)
def DU(s:Str)(b:Bool):Str:=⟨s.s.takeWhile fun c=>digB c||(b&&lowB c)⟩
def Vv(s:Str):R3 Str Str Bool:=match s.s.dropWhile fun c=>c != 46 with
 | []=>⟨s,⟨[]⟩,false⟩
 | _::r=>⟨⟨s.s.takeWhile fun c=>c != 46⟩,⟨r⟩,true⟩
def Z4(n:Int):Bool:=decide (n<0)||decide (6<n)
def Z8(n:Nd)(a b:Int):Bool:=decide ((n.sizes.length:Int)<=a)&&decide ((n.ranks.length:Int)<=b)&&n.sizes.all Zw
end Go.Pl

namespace Go.Pl
open Go.RowKit
open Enc (enc dec is)
open EncL (encL decL isL)
def WA:List AV->List AObj->Bool
 | [.pv p],[]=>can Tm p
 | _,_=>false
def VY(f:Nat):List AV->List AObj->AV×List AObj×List AObj
 | [.pv p],_=>(.fn f [] [.ptr 0 0],[],[.box (p.cells.map .pv)])
 | _,_=>default
mutual
theorem OW(l:Nat): ∀ t:Tm,∀ p∈ZM l t,KX p.1<=KX t
 | .mk n ks=>fun p hp=>by
  rw[ZM]at hp
  rcases List.mem_cons.1 hp with rfl|hp
  ·exact Nat.le_refl _
  ·have:=Rt (l+1) ks p hp
   rw[KX];omega
theorem Rt(l:Nat): ∀ ks:List Tm,∀ p∈ZK l ks,KX p.1<=Vp ks
 | []=>fun p hp=>by simp[ZK]at hp
 | k::ks=>fun p hp=>by
  rw[ZK]at hp
  rw[Vp]
  rcases List.mem_append.1 hp with hp|hp
  ·have:=OW l k p hp;omega
  ·have:=Rt l ks p hp;omega
end
theorem Jp{l:Nat}{t:Tm}(h:tW t=true){p:Tm×Int}(hp:p∈ZM l t):tW p.1=true:=decide_eq_true (Nat.le_trans (OW l t p hp) (of_decide_eq_true h))
def FT(k:Nat)(p:Tm×Int):Bool:=decide (k<400)&&decide (p.2<=40)&&Hl p.1
theorem EC(t:Tm)(h : ∀ k p,(ZM 1 t)[k]? = some p->FT k p=true):Wj t=true:=by
 have hl:=Uh 1 t
 obtain⟨h1,p,hp,e⟩:=JZ 1 t
 have hpos:1<=ZY t:=by cases t;rw[ZY];omega
 have hlast:FT ((ZM 1 t).length - 1) ((ZM 1 t)[(ZM 1 t).length - 1]'(by omega))=true:=h _ _ (List.getElem?_eq_getElem (by omega))
 unfold FT at hlast
 simp only[Bool.and_eq_true,decide_eq_true_eq]at hlast
 obtain⟨i,hi,hip⟩:=List.getElem_of_mem hp
 have hp2:=h i p (by rw[List.getElem?_eq_getElem hi,hip])
 unfold FT at hp2
 simp only[Bool.and_eq_true,decide_eq_true_eq]at hp2
 unfold Wj
 rw[decide_eq_true (by omega),decide_eq_true (by omega),Bool.true_and,Bool.true_and,List.all_eq_true]
 intro x hx
 unfold Xd at hx
 obtain⟨q,hq,rfl⟩:=List.mem_map.1 hx
 obtain⟨j,hj,hjq⟩:=List.getElem_of_mem hq
 have:=h j q (by rw[List.getElem?_eq_getElem hj,hjq])
 unfold FT at this
 simp only[Bool.and_eq_true]at this
 exact this.2
theorem a6i(t:Tm){k:Nat}{p:Tm×Int}(h:(ZM 1 t)[k]? = some p)(hn:FT k p=false):Wj t=false:=by
 have hl:=Uh 1 t
 have hk:=(List.getElem?_eq_some_iff.1 h).1
 have hm:=List.mem_of_getElem? h
 have h1:=(JZ 1 t).1 p hm
 rw[<- Bool.not_eq_true]
 intro hv
 unfold Wj at hv
 simp only[Bool.and_eq_true,decide_eq_true_eq,List.all_eq_true]at hv
 have h3:Hl p.1=true:=hv.2 _ (List.mem_map.2 ⟨p,hm,rfl⟩)
 unfold FT at hn
 rw[decide_eq_true (by omega),decide_eq_true (by omega),h3]at hn
 cases hn
end Go.Pl

namespace Go.Pl
open Go.RowKit
open Enc (enc dec is)
open EncL (encL decL isL)
def Qh(m:List Str):List (PV×PV):=m.map fun s=>(PV.str s.s,PV.bool true)
def UY(m:List Str)(s:Str):List Str:=if s∈m then m else m++[s]
def QE:List AV->List AObj->Bool
 | [.map 0],[.map _]=>true
 | _,_=>false
def KR(f:Nat):List AV->List AObj->AV×List AObj×List AObj
 | [.map 0],[.map es]=>(.fn f [] [.ptr 1 0],[.map es],[.box [.map 0]])
 | _,_=>default
def Yz(t:Tm):List Str:=(Xd t).flatMap K8
def Ka(l:List Str):List Str:=l.foldl UY []
def WW(t:Tm):List Str:=(XT ((Ka (Yz t)).map (·.s))).map Str.mk
theorem c2s(m:List Str)(s:Str):Oi (.str s.s) (.bool true) (Qh m)=true∧N9 (.str s.s) (.bool true) (Qh m)=Qh (UY m s):=by
 have key:upd (.str s.s) (.bool true) (Qh m)=some (Qh (UY m s)):=by
  induction m with
  | nil=>rfl
  | cons a m ih=>
   show(match DZ (.str s.s) (.str a.s)with|some true=>some ((PV.str s.s,PV.bool true)::Qh m)|some false=>(upd (.str s.s) (.bool true) (Qh m)).map ((PV.str a.s,PV.bool true):: ·)|none=>none)=_
   by_cases h:s=a
   ·subst h
    have:DZ (.str s.s) (.str s.s)=some true:=by simp[DZ]
    rw[this]
    unfold UY
    rw[if_pos (by simp)]
    rfl
   ·have hs:s.s≠a.s:=fun e=>h (by cases s;cases a;simp at e;subst e;rfl)
    have:DZ (.str s.s) (.str a.s)=some false:=by simp[DZ,hs]
    rw[this,ih]
    unfold UY
    by_cases hm:s∈m
    ·rw[if_pos hm,if_pos (by simp[hm])];rfl
    ·rw[if_neg hm,if_neg (by simp[hm,h])];rfl
 exact⟨by unfold Oi;rw[key];rfl,by unfold N9;rw[key];rfl⟩
theorem LP{m:List Str}(h:m.Nodup)(s:Str):(UY m s).Nodup:=by
 unfold UY
 split
 ·exact h
 ·rename_i hs
  exact List.nodup_append.2 ⟨h,by simp,fun a ha b hb=>by simp at hb;subst hb;exact fun e=>hs (e▸ha)⟩
theorem Ga: ∀ (l m:List Str),m.Nodup->(l.foldl UY m).Nodup
 | [],m,h=>h
 | a::l,m,h=>Ga l _ (LP h a)
theorem a3t{m:List Str}{s x:Str}:x∈UY m s ↔ x∈m∨x=s:=by
 unfold UY
 split
 ·rename_i h
  exact⟨.inl,fun k=>k.elim id fun e=>e▸h⟩
 ·simp
theorem QJ: ∀ (l m:List Str) (x:Str),x∈l.foldl UY m ↔ x∈m∨x∈l
 | [],m,x=>by simp
 | a::l,m,x=>by rw[List.foldl_cons,QJ l _ x,a3t];simp[or_assoc]
theorem b0e(m:List Str)(s:Str):(UY m s).length<=m.length+1:=by unfold UY;split <;> simp
theorem JW: ∀ (l m:List Str),(l.foldl UY m).length<=m.length+l.length
 | [],m=>by simp
 | a::l,m=>by
  rw[List.foldl_cons]
  have h1:=JW l (UY m a)
  have h2:=b0e m a
  rw[List.length_cons];omega
theorem b6b(n:Nd)(ks:List Tm):(K8 (.mk n ks)).length<=(n.sizes.map NF).sum:=by
 show(n.sizes.flatMap fun l=>l.t.map (·.v)).length<=_
 generalize n.sizes=l
 induction l with
 | nil=>simp
 | cons a l ih=>
  rw[List.flatMap_cons,List.length_append,List.map_cons,List.sum_cons,List.length_map]
  have:=GQ (f:=wCf) (fun x=>by unfold wCf;omega) a.t
  have:NF a=(a.t.map wCf).sum+2:=rfl
  omega
mutual
theorem DX(l:Nat): ∀ t:Tm,(((ZM l t).map (·.1)).flatMap K8).length<=KX t
 | .mk n ks=>by
  rw[ZM,List.map_cons,List.flatMap_cons,List.length_append,KX]
  have h1:=Ay (l+1) ks
  have h2:=b6b n ks
  have h3:(n.sizes.map NF).sum<=wNd n:=by unfold wNd;omega
  exact Nat.add_le_add (Nat.le_trans h2 h3) h1
theorem Ay(l:Nat): ∀ ks:List Tm,(((ZK l ks).map (·.1)).flatMap K8).length<=Vp ks
 | []=>by simp[ZK]
 | k::ks=>by
  rw[ZK,List.map_append,List.flatMap_append,List.length_append,Vp]
  have h1:=DX l k
  have h2:=Ay l ks
  omega
end
theorem HY{t:Tm}(h:tW t=true): ∀ s∈Yz t,s.s.length<=1048576:=by
 intro s hs
 unfold Yz at hs
 rw[List.mem_flatMap]at hs
 obtain⟨x,hx,hs⟩:=hs
 unfold Xd at hx
 obtain⟨p,hp,rfl⟩:=List.mem_map.1 hx
 have hw:=Jp h hp
 obtain⟨⟨n,ks⟩,v⟩:=p
 have hs:s∈n.sizes.flatMap fun l=>l.t.map (·.v):=hs
 rw[List.mem_flatMap]at hs
 obtain⟨l,hl,hs⟩:=hs
 obtain⟨c,hc,rfl⟩:=List.mem_map.1 hs
 exact(ndB hw).vars l hl c hc
theorem Ht(t:Tm)(p:Str->Bool):(WW t).all p=(Yz t).all p:=by
 rw[Bool.eq_iff_iff,List.all_eq_true,List.all_eq_true]
 have hm : ∀ s,s∈WW t ↔ s∈Yz t:=by
  intro s
  unfold WW XT
  rw[List.mem_map]
  constructor
  ·rintro⟨b,hb,rfl⟩
   rw[(List.mergeSort_perm _ _).mem_iff,List.mem_map]at hb
   obtain⟨x,hx,rfl⟩:=hb
   have:=(QJ (Yz t) [] x).1 hx
   simpa using this
  ·intro hs
   refine⟨s.s,?_,rfl⟩
   rw[(List.mergeSort_perm _ _).mem_iff,List.mem_map]
   exact⟨s,(QJ (Yz t) [] s).2 (.inr hs),rfl⟩
 exact⟨fun h s hs=>h s ((hm s).2 hs),fun h s hs=>h s ((hm s).1 hs)⟩
theorem Ow(m:List Str):(Qh m).map UX=m.map (·.s):=by
 unfold Qh
 rw[List.map_map];rfl
theorem c4w{t:Tm}(h:tW t=true):K4 (Qh (Ka (Yz t)))=true:=by
 have h1:(Qh (Ka (Yz t))).all b7n=true:=by
  rw[List.all_eq_true]
  intro x hx
  unfold Qh at hx
  obtain⟨s,hs,rfl⟩:=List.mem_map.1 hx
  have:=(QJ (Yz t) [] s).1 hs
  exact decide_eq_true (HY h s (by simpa using this))
 have h2:((Qh (Ka (Yz t))).map UX).Nodup:=by
  rw[Ow]
  have:=Ga (Yz t) [] (by simp)
  exact List.pairwise_map.2 (this.imp fun {a b} hab e=>hab (by cases a;cases b;simp at e;subst e;rfl))
 have h3:(Qh (Ka (Yz t))).length<=1048576:=by
  unfold Qh
  rw[List.length_map]
  have h4:=JW (Yz t) []
  have h5:=DX 1 t
  have h6:KX t<=1048576:=of_decide_eq_true h
  have h7:(Yz t).length=(((ZM 1 t).map (·.1)).flatMap K8).length:=rfl
  simp only[List.length_nil,Nat.zero_add]at h4
  unfold Ka
  omega
 unfold K4
 rw[h1,decide_eq_true h2,decide_eq_true h3];rfl
end Go.Pl

namespace Go.Pl
open Go.RowKit
open Enc (enc dec is)
open EncL (encL decL isL)
def XY(c:UInt8):Bool:=decide (33<=c.toNat)&&decide (c.toNat<=126)
def Wp:Bool->List UInt8->Bool
 | p,[]=> !p
 | p,c::r=>if c=32 then !p&&Wp true r else XY c&&Wp false r
theorem QD: ∀ (a b:List UInt8) (p:Bool),Wp p a=true->Wp p (a++b)=Wp false b
 | [],b,p,h=>by cases p <;> simp[Wp]at h ⊢
 | c::r,b,p,h=>by
  rw[List.cons_append]
  unfold Wp at h
  rw[Wp]
  split
  ·rename_i hc
   rw[if_pos hc,Bool.and_eq_true]at h
   rw[h.1,Bool.true_and]
   exact QD r b true h.2
  ·rename_i hc
   rw[if_neg hc,Bool.and_eq_true]at h
   rw[h.1,Bool.true_and]
   exact QD r b false h.2
theorem WZ: ∀ s:List UInt8,Wp true s=true->Wp false s=true
 | [],h=>by simp[Wp]at h
 | c::r,h=>by
  unfold Wp at h ⊢
  split at h
  ·simp at h
  ·rename_i hc;rw[if_neg hc];exact h
theorem Yn{a b:List UInt8}(ha:Wp true a=true)(hb:Wp false b=true):Wp true (a++b)=true:=by rw[QD _ _ _ ha,hb]
theorem Ua{a b:List UInt8}(ha:Wp false a=true)(hb:Wp false b=true):Wp false (a++b)=true:=by rw[QD _ _ _ ha,hb]
theorem Q0{b:List UInt8}(hb:Wp true b=true):Wp false (32::b)=true:=by unfold Wp;rw[if_pos rfl,hb];rfl
theorem b9x{b:List UInt8}(hb:Wp true b=true):Wp false (44::32::b)=true:=by
 unfold Wp;rw[if_neg (by decide),Q0 hb];rfl
theorem a9l: ∀ {s:List UInt8},s.all XY=true->Wp false s=true
 | [],_=>rfl
 | c::r,h=>by
  rw[List.all_cons,Bool.and_eq_true]at h
  unfold Wp
  rw[if_neg (by rintro rfl;exact absurd h.1 (by decide)),h.1,a9l h.2];rfl
theorem Hd{s:List UInt8}(h0:s≠[])(h:s.all XY=true):Wp true s=true:=by
 cases s with
 | nil=>exact absurd rfl h0
 | cons c r=>
  rw[List.all_cons,Bool.and_eq_true]at h
  unfold Wp
  rw[if_neg (by rintro rfl;exact absurd h.1 (by decide)),h.1,a9l h.2];rfl
theorem Ji{c:UInt8}(h:digB c=true):XY c=true:=by
 unfold digB at h
 simp only[Bool.and_eq_true,decide_eq_true_eq,UInt8.le_iff_toNat_le]at h
 unfold XY
 rw[decide_eq_true (by have:(48:UInt8).toNat=48:=rfl;omega),decide_eq_true (by have:(57:UInt8).toNat=57:=rfl;omega)];rfl
theorem Ch{c:UInt8}(h:lowB c=true):XY c=true:=by
 unfold lowB at h
 simp only[Bool.and_eq_true,decide_eq_true_eq,UInt8.le_iff_toNat_le]at h
 unfold XY
 rw[decide_eq_true (by have:(97:UInt8).toNat=97:=rfl;omega),decide_eq_true (by have:(122:UInt8).toNat=122:=rfl;omega)];rfl
theorem Jc{p:UInt8->Bool}(hp : ∀ c,p c=true->XY c=true){s:List UInt8}(h:s.all p=true):s.all XY=true:=by
 rw[List.all_eq_true]at h ⊢
 exact fun c hc=>hp c (h c hc)
theorem a3z(c:UInt8)(h:ldI c=true):XY c=true:=by
 unfold ldI at h
 rcases Bool.or_eq_true _ _▸h with h|h
 ·exact Ji h
 ·exact Ch h
theorem Wh{s:List UInt8}(h:ZZ s=true):s≠[]∧s.all XY=true∧s.length<=30:=by
 cases s with
 | nil=>cases h
 | cons c r=>
  unfold ZZ at h
  simp only[Bool.and_eq_true,decide_eq_true_eq]at h
  refine⟨by simp,?_,by rw[List.length_cons];omega⟩
  rw[List.all_cons,Ch h.1.1.1,Jc a3z h.1.1.2];rfl
theorem c3r: ∀ (s:List UInt8) (c:UInt8) (r:List UInt8),(s.dropWhile fun c=>c != 46)=c::r->c=46
 | [],_,_,h=>by cases h
 | a::s,c,r,h=>by
  rw[List.dropWhile_cons]at h
  split at h
  ·exact c3r s c r h
  ·rename_i ha
   cases h
   simpa using ha
theorem VF{s:List UInt8}(h:RS s=true):s≠[]∧s.all XY=true∧s.length<=61:=by
 unfold RS at h
 rcases Bool.or_eq_true _ _▸h with h|h
 ·have:=Wh h
  exact⟨this.1,this.2.1,by omega⟩
 ·unfold fullI at h
  split at h
  ·cases h
  ·rename_i c r hd
   rw[Bool.and_eq_true]at h
   have h1:=Wh h.1
   have h2:=Wh h.2
   have e:s=(s.takeWhile fun c=>c != 46)++c::r:=by rw[<- hd,List.takeWhile_append_dropWhile]
   have hc:c=46:=c3r s c r hd
   rw[e]
   refine⟨by simp,?_,?_⟩
   ·rw[List.all_append,List.all_cons,h1.2.1,h2.2.1,hc];rfl
   ·rw[List.length_append,List.length_cons]
    omega
theorem OX(n:Int):UD n≠[]∧(UD n).all XY=true:=by
 unfold UD
 have h:=Sa n.natAbs
 have hs:=Jc (fun c=>Ji) h.1
 by_cases hn:n<0
 ·rw[Ux hn]
  exact⟨by simp,by rw[List.all_cons,hs];rfl⟩
 ·rw[Uu hn]
  exact⟨h.2.1,hs⟩
theorem KV(n:Int):Wp true (UD n)=true:=Hd (OX n).1 (OX n).2
theorem V9{n:Int}(h:n.natAbs<18446744073709551616):(UD n).length<=21:=by
 unfold UD
 have:=TT 19 n.natAbs (by omega)
 by_cases hn:n<0
 ·rw[Ux hn,List.length_cons];omega
 ·rw[Uu hn];omega
theorem BD(c:UInt8)(h:EN c=true):XY c=true:=by
 unfold EN at h
 rcases Bool.or_eq_true _ _▸h with h|h
 ·rcases Bool.or_eq_true _ _▸h with h|h
  ·exact Ch h
  ·rw[eq_of_beq h];rfl
 ·exact Ji h
theorem Lr{s:List UInt8}(h:Yf ⟨s⟩=true):s.all XY=true:=by
 obtain⟨c,w,rfl,hc,hw,_⟩:=Cu h
 rw[List.all_cons,Jc (p:=ldB) (fun c hc=>BD c (by rw[b5f,hc];rfl)) hw,BD c (Fy hc).2.1];rfl
theorem Aj{n:Nat}{v:List UInt8}(hv:v=[]∨Yf ⟨v⟩=true):(Vh n v).all XY=true:=by
 have hd:=Jc (fun c=>Ji) (Sa n).1
 have hv:v.all XY=true:=by
  rcases hv with rfl|hv
  ·rfl
  ·exact Lr hv
 unfold Vh
 rw[List.all_append,hv,Bool.and_true]
 split
 ·exact hd
 ·split
  ·exact hd
  ·rfl
theorem Dt: ∀ r:List (Int×List UInt8),(∀ q∈r,b4a q)->(WB r).all XY=true
 | [],_=>rfl
 | q::r,h=>by
  rw[WB,List.all_append,List.all_append,Dt r fun p hp=>h p (by simp[hp]),Aj (Fw (h q (by simp)))]
  unfold sgT
  split <;> rfl
theorem Dl{l:Lin}(h:Zw l=true):Ym l≠[]∧(Ym l).all XY=true:=by
 have hok:=RI h
 rw[D7 h]
 cases hi:VJ l with
 | nil=>
  exfalso
  unfold VJ at hi
  cases ht:l.t with
  | nil=>rw[ht]at hi;simp at hi
  | cons a b=>rw[ht]at hi;simp at hi
 | cons q r=>
  rw[hi]at hok
  have hq:=Fw (hok q (by simp))
  rw[H5]
  refine⟨?_,?_⟩
  ·intro e
   exact OY (n:=q.1.natAbs) hq (List.append_eq_nil_iff.1 (List.append_eq_nil_iff.1 e).2).1
  ·rw[List.all_append,List.all_append,Aj hq,Dt r fun p hp=>hok p (by simp[hp])]
   split <;> rfl
theorem P7{l:Lin}(h:Zw l=true):Wp true (Ym l)=true:=Hd (Dl h).1 (Dl h).2
theorem RV: ∀ {l:List (List UInt8)},l≠[]->(∀ s∈l,Wp true s=true)->Wp true (Yd l)=true
 | [],h0,_=>absurd rfl h0
 | [s],_,h=>h s (by simp)
 | s::t::r,_,h=>by
  rw[Yd,List.append_assoc]
  ·exact Yn (h s (by simp)) (b9x (RV (by simp) fun x hx=>h x (by simp[List.mem_cons.1 hx])))
  ·simp
theorem Qj{l:List (List UInt8)}(h : ∀ s∈l,Wp true s=true):Wp false (Yd l)=true:=by
 cases l with
 | nil=>rfl
 | cons a l=>exact WZ _ (RV (by simp) h)
theorem PD: ∀ l:List Int,Wp false (X9 l)=true
 | []=>rfl
 | [n]=>WZ _ (KV n)
 | n::m::r=>by
  have h:=PD (m::r)
  have hc:Wp true (X9 (m::r))=true:=by
   cases r with
   | nil=>exact KV m
   | cons a r=>
    rw[X9]
    ·rw[List.append_assoc]
     have h2:=h
     rw[X9,List.append_assoc]at h2
     ·rw[QD _ _ _ (WZ _ (KV m))]at h2
      rw[QD _ _ _ (KV m)]
      exact h2
     ·simp
    ·simp
  rw[X9,List.append_assoc]
  ·exact Ua (WZ _ (KV n)) (Q0 hc)
  ·simp
theorem OE: ∀ l:List Int,Wp false (l.flatMap fun n=>[32]++UD n)=true
 | []=>rfl
 | n::l=>by
  rw[List.flatMap_cons]
  exact Ua (Q0 (KV n)) (OE l)
theorem b8p(a:Arr):Wp true (Bd a)=true:=by
 unfold Bd
 refine Yn (Yn (Yn (Yn ?_ (PD _)) (by decide)) (OE _)) (by decide)
 split <;> decide
theorem b9i(n:Nd):Wp true (SI n)=true:=by
 unfold SI
 split
 ·exact KV _
 ·split <;> decide
theorem b6v{n:Nd}{ks:List (List UInt8)}(hn:n.name.s≠[]∧n.name.s.all XY=true)(hs:n.sizes.all Zw=true)(hk : ∀ s∈ks,Wp true s=true):Wp true (Vj n ks)=true:=by
 unfold Vj
 refine Yn (Yn (Yn (Yn (Hd hn.1 hn.2) ?_) ?_) ?_) (Ua (Ua (by decide) (Qj hk)) (by decide))
 ·split
  ·rfl
  ·refine Ua (Ua (by decide) (Qj fun s h=> ?_)) (by decide)
   obtain⟨l,hl,rfl⟩:=List.mem_map.1 h
   exact P7 (List.all_eq_true.1 hs l hl)
 ·split
  ·rfl
  ·exact Ua (Ua (by decide) (WZ _ (KV _))) (by decide)
 ·split
  ·rfl
  ·refine Ua (Ua (by decide) (Qj fun s h=> ?_)) (by decide)
   obtain⟨l,hl,rfl⟩:=List.mem_map.1 h
   exact KV _
theorem Mx{b:Bool}{s:List UInt8}(h:Wp true s=true):Wp true (Vr b s)=true:=by
 unfold Vr
 split
 ·exact Yn (Yn (by decide) (WZ _ h)) (by decide)
 ·exact h
theorem Rw{n:Nd}{k:Nat}{r:OpR}(h:Bo n k=some r):Wp true r.s=true∧r.s.length<=2:=by
 unfold Bo at h
 cases hq:Pk n.name.s with
 | none=>simp[hq]at h
 | some q=>
  simp[hq]at h
  have hm:=List.mem_of_find?_eq_some hq
  have : ∀ r∈Xv,Wp true r.s=true∧r.s.length<=2:=by decide
  rw[<- h.2]
  exact this q hm
theorem b9a{n:Nd}{ks:List (Int×Bool×List UInt8)}(hv:Vl n ks.length=true)(hk : ∀ x∈ks,Wp true x.2.2=true):Wp true (Qo n ks)=true:=by
 have hm : ∀ s∈ks.map (·.2.2),Wp true s=true:=fun s h=>by
  obtain⟨x,hx,rfl⟩:=List.mem_map.1 h
  exact hk x hx
 unfold Vl Us at hv
 simp only[Bool.and_eq_true]at hv
 replace hv:=hv.2
 unfold Qo
 split
 ·rename_i r k ho
  exact Yn (Rw ho).1 (WZ _ (Mx (hk k (by simp))))
 ·rename_i r a b ho
  have ha:=Mx (b:=decide (a.1<r.l)||(decide (a.1=3)&&decide (r.l=3))) (hk a (by simp))
  have hb:=Mx (b:=decide (b.1<=r.l)) (hk b (by simp))
  show Wp true (Vr (decide (a.1<r.l)||(decide (a.1=3)&&decide (r.l=3))) a.2.2++[32]++r.s++[32]++Vr (decide (b.1<=r.l)) b.2.2)=true
  generalize Vr (decide (a.1<r.l)||(decide (a.1=3)&&decide (r.l=3))) a.2.2=x at ha ⊢
  generalize Vr (decide (b.1<=r.l)) b.2.2=y at hb ⊢
  have e:x++[32]++r.s++[32]++y=x++(32::(r.s++(32::y))):=by simp
  rw[e]
  exact Yn ha (Q0 (Yn (Rw ho).1 (Q0 hb)))
 ·rename_i ks o k2 hx1 hx2
  split at hv
  ·rename_i h;rw[if_pos h]
   simp only[Bool.and_eq_true]at hv
   have:=Wh hv.1.1.1.2
   exact Hd this.1 this.2.1
  ·rename_i h;rw[if_neg h]
   split at hv
   ·rename_i h;rw[if_pos h];exact b9i n
   ·rename_i h;rw[if_neg h]
    split at hv
    ·rename_i h
     rw[if_neg (by omega),if_neg (by omega),if_neg (by omega),if_neg (by omega),if_neg (by omega),if_neg (by omega)]
     exact b8p _
    ·split at hv
     ·rename_i h;rw[if_pos h]
      simp only[Bool.and_eq_true]at hv
      refine Yn (Yn (by decide) ?_) (by decide)
      split
      ·rfl
      ·rename_i l r he
       rw[he]at hv
       exact WZ _ (P7 (List.all_eq_true.1 hv.1.2 l (by simp)))
     ·rename_i h;rw[if_neg h]
      split at hv
      ·rename_i h;rw[if_pos h]
       simp only[Bool.and_eq_true,decide_eq_true_eq]at hv
       have hn:=Wh hv.1.1.1.2
       have hl:ks.length=2:=hv.1.2
       match ks,hl,hk with
       | [a,b],_,hk=>
        have ha:=hk a (by simp)
        have hb:=hk b (by simp)
        show Wp true ([108,101,116,32]++n.name.s++[32,61,32]++(a.2.2++[32,105,110,32]++b.2.2))=true
        have e:[108,101,116,32]++n.name.s++[32,61,32]++(a.2.2++[32,105,110,32]++b.2.2)=[108,101,116]++(32::(n.name.s++(32::([61]++(32::(a.2.2++(32::([105,110]++(32::b.2.2))))))))):=by simp
        rw[e]
        exact Yn (by decide) (Q0 (Yn (Hd hn.1 hn.2.1) (Q0 (Yn (by decide) (Q0 (Yn ha (Q0 (Yn (by decide) (Q0 hb)))))))))
      ·rename_i h;rw[if_neg h]
       split at hv
       ·rename_i h;rw[if_pos h]
        unfold Xr at hv
        simp only[Bool.and_eq_true]at hv
        have hn:=VF hv.2.1.1.1.1.1.1.1
        exact b6v ⟨hn.1,hn.2.1⟩ hv.2.1.2 hm
       ·rename_i h;rw[if_neg h]
        split at hv
        ·rename_i h;rw[if_pos h]
         exact Yn (Yn (by decide) (Qj hm)) (by decide)
        ·rename_i h;rw[if_neg h]
         have hc (hf:RS n.name.s=true):Wp false (Yd (n.name.s::ks.map (·.2.2)))=true:=Qj fun s hs=>by
          rcases List.mem_cons.1 hs with rfl|hs
          ·exact Hd (VF hf).1 (VF hf).2.1
          ·exact hm s hs
         split at hv
         ·rename_i h;rw[if_pos h]
          simp only[Bool.and_eq_true]at hv
          exact Yn (Yn (by decide) (hc hv.1.1.1.2)) (by decide)
         ·rename_i h;rw[if_neg h]
          split at hv
          ·rename_i h;rw[if_pos h]
           simp only[Bool.and_eq_true]at hv
           exact Yn (Yn (by decide) (hc hv.1.1.1.2)) (by decide)
          ·cases hv
mutual
def YJ:Tm->Bool
 | .mk n ks=>Vl n ks.length&&Xc ks
def Xc:List Tm->Bool
 | []=>true
 | k::ks=>YJ k&&Xc ks
end
theorem QM(ks:List Tm):Xc ks=ks.all YJ:=by
 induction ks with
 | nil=>simp[Xc]
 | cons k ks ih=>simp[Xc,ih]
mutual
theorem Dm(l:Nat): ∀ t:Tm,((ZM l t).map (·.1)).all Hl=YJ t
 | .mk n ks=>by rw[ZM,List.map_cons,List.all_cons,H8 (l+1) ks,YJ];rfl
theorem H8(l:Nat): ∀ ks:List Tm,((ZK l ks).map (·.1)).all Hl=Xc ks
 | []=>by simp[ZK,Xc]
 | k::ks=>by rw[ZK,List.map_append,List.all_append,Dm l k,H8 l ks,Xc]
end
theorem D6{t:Tm}(h:Wj t=true):YJ t=true:=by
 unfold Wj Xd at h
 rw[Dm]at h
 simp only[Bool.and_eq_true]at h
 exact h.2
theorem Qm{n:Nd}{ks:List Tm}(h:YJ (.mk n ks)=true):Vl n ks.length=true∧ ∀ k∈ks,YJ k=true:=by
 rw[YJ,Bool.and_eq_true,QM,List.all_eq_true]at h
 exact h
mutual
theorem Og: ∀ t:Tm,YJ t=true->Wp true (ZV t)=true
 | .mk n ks,h=>by
  have h2:=Qm h
  rw[ZV]
  refine b9a (by rw[VC,List.length_map];exact h2.1) (PL ks ?_)
  rw[YJ,Bool.and_eq_true]at h
  exact h.2
theorem PL: ∀ ks:List Tm,Xc ks=true-> ∀ x∈Yw ks,Wp true x.2.2=true
 | [],_=>by simp[Yw]
 | k::ks,h=>by
  rw[Xc,Bool.and_eq_true]at h
  intro x hx
  rw[Yw]at hx
  rcases List.mem_cons.1 hx with rfl|hx
  ·exact Og k h.1
  ·exact PL ks h.2 x hx
end
end Go.Pl

namespace Go.Pl
open Go.RowKit
open Enc (enc dec is)
open EncL (encL decL isL)
theorem Y1: ∀ l:List (List UInt8),(Yd l).length<=(l.map fun s=>s.length+2).sum
 | []=>by simp[Yd]
 | [s]=>by simp[Yd]
 | s::t::r=>by
  have h:=Y1 (t::r)
  rw[Yd]
  ·rw[List.length_append,List.length_append,List.map_cons,List.sum_cons]
   show s.length+2+_<=_
   omega
  ·simp
theorem JU{α:Type}{f:α->Nat}{c:Nat}: ∀ {l:List α},(∀ x∈l,f x<=c)->(l.map f).sum<=c*l.length
 | [],_=>by simp
 | a::l,h=>by
  have h1:=h a (by simp)
  have h2:=JU (l:=l) fun x hx=>h x (by simp[hx])
  rw[List.map_cons,List.sum_cons,List.length_cons,Nat.mul_succ]
  omega
theorem BU: ∀ l:List Int,(∀ n∈l,n.natAbs<18446744073709551616)->(X9 l).length<=22*l.length
 | [],_=>by simp[X9]
 | [n],h=>by have:=V9 (h n (by simp));simp only[X9,List.length_cons,List.length_nil];omega
 | n::m::r,h=>by
  have h1:=V9 (h n (by simp))
  have h2:=BU (m::r) fun x hx=>h x (by simp[List.mem_cons.1 hx])
  rw[X9]
  ·rw[List.length_append,List.length_append,List.length_cons (a:=n)]
   show _+1+_<=_
   omega
  ·simp
theorem ND: ∀ l:List Int,(∀ n∈l,n.natAbs<18446744073709551616)->(l.flatMap fun n=>[32]++UD n).length<=22*l.length
 | [],_=>by simp
 | n::l,h=>by
  have h1:=V9 (h n (by simp))
  have h2:=ND l fun x hx=>h x (by simp[hx])
  rw[List.flatMap_cons,List.length_append,List.length_append,List.length_cons (a:=n)]
  show 1+_+_<=_
  omega
theorem Oy{a:Arr}(h:Ud a=true):(∀ n∈a.d,n.natAbs<9223372036854775808)∧ ∀ n∈a.x,n.natAbs<9223372036854775808:=by
 unfold Ud M6 at h
 split at h
 ·cases h
 ·split at h
  ·rename_i h1 h2;rw[eq_of_beq h]at h2;exact absurd rfl h2
  ·rename_i h1 h2
   split at h
   ·cases h
   ·split at h
    ·rename_i h3 h4
     refine⟨?_,fun n hn=> ?_⟩
     ·have h2:(WI a.d).2=0:=Classical.not_not.1 h2
      unfold WI at h2
      cases h5:decide (6<a.d.length)with
      | true=>rw[h5]at h2;cases h2
      | false=>
       rw[h5]at h2
       cases h6:a.d.all Gq with
       | false=>rw[h6]at h2;cases h2
       | true=>
        intro n hn
        have:=List.all_eq_true.1 h6 n hn
        unfold Gq at this
        simp only[Bool.and_eq_true,decide_eq_true_eq]at this
        omega
     ·have h:=List.all_eq_true.1 h4 n hn
      unfold WE at h
      split at h
      ·simp only[Bool.and_eq_true,decide_eq_true_eq]at h
       omega
      ·split at h
       ·simp only[Bool.or_eq_true,beq_iff_eq]at h
        omega
       ·cases h
    ·cases h
theorem Pm{a:Arr}(h:Ud a=true):(∀ n∈a.d,n.natAbs<18446744073709551616)∧ ∀ n∈a.x,n.natAbs<18446744073709551616:=by
 have:=Oy h
 exact⟨fun n hn=>by have:=this.1 n hn;omega,fun n hn=>by have:=this.2 n hn;omega⟩
theorem b3v{a:Arr}(h:Ud a=true):(Bd a).length<=10+22*(a.d.length+a.x.length):=by
 have h1:=BU a.d (Pm h).1
 have h2:=ND a.x (Pm h).2
 have h3:(if a.e.s=VW then [35,98,91]else [35,91]:List UInt8).length<=3:=by split <;> decide
 unfold Bd
 rw[List.length_append,List.length_append,List.length_append,List.length_append]
 show _+_+1+_+1<=_
 omega
theorem b5p{n:Nd}(h:VO n=true):(SI n).length<=21:=by
 unfold SI
 split
 ·rename_i hs
  refine V9 ?_
  unfold VO at h
  rw[if_neg (by rw[hs];decide)]at h
  simp only[Bool.and_eq_true,decide_eq_true_eq]at h
  omega
 ·split <;> decide
theorem QF(b:Bool)(s:List UInt8):(Vr b s).length<=s.length+2:=by
 unfold Vr
 split
 ·rw[List.length_append,List.length_append];show 1+_+1<=_;omega
 ·omega
theorem a1r{n:Nd}{k:Nat}{ks:List (List UInt8)}(h:Xr n k=true):(Vj n ks).length<=150+1002*n.sizes.length+23*n.ranks.length+(ks.map fun s=>s.length+2).sum:=by
 unfold Xr at h
 simp only[Bool.and_eq_true,decide_eq_true_eq]at h
 have h1:=(VF h.1.1.1.1.1.1.1).2.2
 have h2:=Y1 ks
 have h3:(if n.sizes=[]then []else [91]++Yd (n.sizes.map Ym)++[93]:List UInt8).length<=2+1002*n.sizes.length:=by
  split
  ·simp
  ·have:=Y1 (n.sizes.map Ym)
   rw[List.map_map]at this
   have h4:=JU (f:=(fun s:List UInt8=>s.length+2) ∘ Ym) (c:=1002) (l:=n.sizes) fun x _=>by
    have:=Ui x
    show(Ym x).length+2<=_
    omega
   rw[List.length_append,List.length_append]
   show 1+_+1<=_
   omega
 have h5:(if n.num=0 then []else [123]++UD n.num++[125]:List UInt8).length<=23:=by
  split
  ·simp
  ·have:=V9 (n:=n.num) (by omega)
   rw[List.length_append,List.length_append]
   show 1+_+1<=_
   omega
 have h6:(if n.ranks=[]then []else [64,40]++Yd (n.ranks.map UD)++[41]:List UInt8).length<=3+23*n.ranks.length:=by
  split
  ·simp
  ·have:=Y1 (n.ranks.map UD)
   rw[List.map_map]at this
   have h4:=JU (f:=(fun s:List UInt8=>s.length+2) ∘ UD) (c:=23) (l:=n.ranks) fun x hx=>by
    have h7:=List.all_eq_true.1 h.2 x hx
    simp only[Bool.and_eq_true,decide_eq_true_eq]at h7
    have:=V9 (n:=x) (by omega)
    show(UD x).length+2<=_
    omega
   rw[List.length_append,List.length_append]
   show 2+_+1<=_
   omega
 unfold Vj
 rw[List.length_append,List.length_append,List.length_append,List.length_append,List.length_append,List.length_append]
 show _+_+_+_+(1+_+1)<=_
 omega
theorem Sn{α β:Type}(f:β->Nat)(g:α->β)(l:List α):((l.map g).map f).sum=(l.map fun x=>f (g x)).sum:=by rw[List.map_map];rfl
theorem Db{α:Type}{f g:α->Nat}: ∀ {l:List α},(∀ x∈l,f x<=g x)->(l.map f).sum<=(l.map g).sum
 | [],_=>Nat.le_refl _
 | a::l,h=>by
  have h1:=h a (by simp)
  have h2:=Db (l:=l) fun x hx=>h x (by simp[hx])
  rw[List.map_cons,List.sum_cons,List.map_cons,List.sum_cons];omega
theorem b5w{n:Nd}{ks:List (Int×Bool×List UInt8)}(hv:Vl n ks.length=true):(Qo n ks).length<=200+1002*n.sizes.length+23*n.ranks.length+22*(n.dims.length+n.data.length)+(ks.map fun x=>x.2.2.length+4).sum:=by
 have hm:((ks.map (·.2.2)).map fun s=>s.length+2).sum<=(ks.map fun x=>x.2.2.length+4).sum:=by
  rw[Sn]
  exact Db fun x _=>by omega
 have hc (s:List UInt8):(Yd (s::ks.map (·.2.2))).length<=s.length+2+(ks.map fun x=>x.2.2.length+4).sum:=by
  have:=Y1 (s::ks.map (·.2.2))
  rw[List.map_cons,List.sum_cons]at this
  omega
 have hc0:=Y1 (ks.map (·.2.2))
 unfold Vl Us at hv
 simp only[Bool.and_eq_true]at hv
 replace hv:=hv.2
 unfold Qo
 split
 ·rename_i r k ho
  have h1:=(Rw ho).2
  have h2:=QF (decide (k.1<6)||(decide (r.s=[45])&&k.2.1)) k.2.2
  rw[List.length_append,List.map_cons,List.sum_cons]
  omega
 ·rename_i r a b ho
  have h1:=(Rw ho).2
  have h2:=QF (decide (a.1<r.l)||(decide (a.1=3)&&decide (r.l=3))) a.2.2
  have h3:=QF (decide (b.1<=r.l)) b.2.2
  rw[List.length_append,List.length_append,List.length_append,List.length_append,List.map_cons,List.sum_cons,List.map_cons,List.sum_cons]
  show _+1+_+1+_<=_
  omega
 ·rename_i ks o k2 hx1 hx2
  split at hv
  ·rename_i h;rw[if_pos h]
   simp only[Bool.and_eq_true]at hv
   have:=(Wh hv.1.1.1.2).2.2
   omega
  ·rename_i h;rw[if_neg h]
   split at hv
   ·rename_i h;rw[if_pos h]
    simp only[Bool.and_eq_true]at hv
    have:=b5p hv.1.1.2
    omega
   ·rename_i h;rw[if_neg h]
    split at hv
    ·rename_i h
     simp only[Bool.and_eq_true]at hv
     rw[if_neg (by omega),if_neg (by omega),if_neg (by omega),if_neg (by omega),if_neg (by omega),if_neg (by omega)]
     have:(Bd (Q7 n)).length<=10+22*(n.dims.length+n.data.length):=b3v hv.2
     show(Bd (Q7 n)).length<=_
     omega
    ·split at hv
     ·rename_i h;rw[if_pos h]
      rw[List.length_append,List.length_append]
      simp only[Bool.and_eq_true,decide_eq_true_eq]at hv
      have h1:n.sizes.length=1:=hv.1.1.2
      show 5+_+1<=_
      split
      ·simp;omega
      ·rename_i l _ _
       have:=Ui l
       omega
     ·rename_i h;rw[if_neg h]
      split at hv
      ·rename_i h;rw[if_pos h]
       simp only[Bool.and_eq_true,decide_eq_true_eq]at hv
       have hn:=(Wh hv.1.1.1.2).2.2
       have hl:ks.length=2:=hv.1.2
       match ks,hl with
       | [a,b],_=>
        rw[List.length_append,List.length_append,List.length_append,List.map_cons,List.sum_cons,List.map_cons,List.sum_cons]
        show 4+_+3+(a.2.2++[32,105,110,32]++b.2.2).length<=_
        rw[List.length_append,List.length_append]
        show 4+_+3+(_+4+_)<=_
        omega
      ·rename_i h;rw[if_neg h]
       split at hv
       ·rename_i h;rw[if_pos h]
        rw[Bool.and_eq_true]at hv
        have:=a1r (ks:=ks.map (·.2.2)) hv.2
        omega
       ·rename_i h;rw[if_neg h]
        split at hv
        ·rename_i h;rw[if_pos h]
         rw[List.length_append,List.length_append]
         show 1+_+1<=_
         omega
        ·rename_i h;rw[if_neg h]
         split at hv
         ·rename_i h;rw[if_pos h]
          simp only[Bool.and_eq_true]at hv
          have h1:=(VF hv.1.1.1.2).2.2
          have h2:=hc n.name.s
          rw[List.length_append,List.length_append]
          show 5+_+1<=_
          omega
         ·rename_i h;rw[if_neg h]
          split at hv
          ·rename_i h;rw[if_pos h]
           simp only[Bool.and_eq_true]at hv
           have h1:=(VF hv.1.1.1.2).2.2
           have h2:=hc n.name.s
           rw[List.length_append,List.length_append]
           show 5+_+1<=_
           omega
          ·cases hv
mutual
theorem Na: ∀ t:Tm,YJ t=true->(ZV t).length+8<=1100*KX t
 | .mk n ks,h=>by
  have h2:=Qm h
  have h3:=b5w (n:=n) (ks:=Yw ks) (by rw[VC,List.length_map];exact h2.1)
  rw[YJ,Bool.and_eq_true]at h
  have h4:=J3 ks h.2
  have h5:=GQ (f:=NF) (fun x=>by unfold NF;omega) n.sizes
  rw[ZV,KX]
  unfold wNd
  omega
theorem J3: ∀ ks:List Tm,Xc ks=true->((Yw ks).map fun x=>x.2.2.length+4).sum<=1100*Vp ks
 | [],_=>by simp[Yw]
 | k::ks,h=>by
  rw[Xc,Bool.and_eq_true]at h
  have h1:=Na k h.1
  have h2:=J3 ks h.2
  rw[Yw,Vp,List.map_cons,List.sum_cons]
  show(ZV k).length+4+_<=_
  omega
end
theorem MH{t:Tm}(hw:tW t=true)(h:YJ t=true):(ZV t).length<=1153433592:=by
 have h1:=Na t h
 have h2:KX t<=1048576:=of_decide_eq_true hw
 omega
end Go.Pl

namespace Go.Pl
open Go.RowKit
open Enc (enc dec is)
open EncL (encL decL isL)
def Xz(t:Tm):Bool:=Wj t&&(WW t).all fun s=>ZZ s.s
def Zr(t:Tm):Str:=⟨ZV t⟩
def Dv(s:Str):Str×Int:=if (s.s.length:Int)>20000 then(⟨[]⟩,3)else(s,0)
def XZ(t:Tm):Str×Int:=if Xz t then Dv (Zr t)else(⟨[]⟩,1)
def Zz:PV:=.agg (Xv.flatMap fun r=>[.str r.s,.bool r.u,.str r.n,.int .i64 r.l])
def Gw:List PV->Bool
 | []=>true
 | _=>false
def GY:List PV->PV:=fun _=>Zz
def NQ(n:Str):R3 Str Bool Bool:=match Pk n.s with
 | some r=>⟨⟨r.s⟩,r.u,true⟩
 | none=>⟨⟨[]⟩,false,false⟩
def En(s:Str)(u:Bool):R3 Str Int Bool:=match c6a s.s u with
 | some r=>⟨⟨r.n⟩,r.l,true⟩
 | none=>⟨⟨[]⟩,0,false⟩
def Ra(n:Nd)(k:Nat):Str×Int:=match Bo n k with
 | some r=>(⟨r.s⟩,if r.u then 1 else 2)
 | none=>(⟨[]⟩,0)
def UM(t:Tm):Str×Int:=Ra t.nd t.ks.length
def Yi(l:List Str):Str:=⟨Yd (l.map (·.s))⟩
def Vk(l:List Str):Bool:=decide (l.length<=1048576)&&l.all fun s=>decide (s.s.length<=1048576)
def Y8(l:List Str):Bool:=decide (l.length<=1048576)&&decide ((Yd (l.map (·.s))).length<=1099511627776)
def b5h(b:Bool):Str:=⟨if b then [116,114,117,101]else [102,97,108,115,101]⟩
def Yx(l:Lin):Str:=⟨Ym l⟩
def P8(n:Nd):Str:=⟨SI n⟩
def Ce(t:Tm):Str:=⟨Vj t.nd (t.ks.map ZV)⟩
def Ri(a:Arr):Str×Int:=(⟨Bd a⟩,0)
def c6c(t:Tm)(k:Int)(b:Bool):Str:=⟨Vr (!b) (ZV (t.ks.getD k.toNat (.mk nd0 [])))⟩
def NC:List AV->Option Tm
 | [.pv a,.pv b,.pv c,.pv d,.pv e,.pv f,.pv g,.pv h,.pv i,.pv j]=>if can Tm (.agg [a,b,c,d,e,f,g,h,i,j])then some (dec (.agg [a,b,c,d,e,f,g,h,i,j]))else none
 | _=>none
@[irreducible] def YC (xs : List AV) (k : Int) (b : Bool) : List UInt8 := (c6c ((NC xs).getD (.mk nd0 [])) k b).s
@[irreducible] def Ck (N : Nat) (xs : List AV) (k : Int) : Bool := match NC xs with
 | some t=>tW t&&YJ t&&decide (ZP t.ks<N)&&decide (0<=k)&&decide (k<t.ks.length)
 | none=>false
def YP(N:Nat):List AV->List AObj->Bool
 | [.pv (.int .i64 k),.pv (.bool _),.ptr 0 0],[.box xs]=>Ck N xs k
 | _,_=>false
def TZ:List AV->List AObj->AV×List AObj×List AObj
 | [.pv (.int _ k),.pv (.bool b),_],[.box xs]=>(.pv (.str (YC xs k b)),[.box xs],[])
 | _,_=>default
def ZN(n:Nd)(ks:List Tm):List AV:=[.pv (.int .i64 n.kind),.pv (.int .i64 n.line),.pv (.str n.name.s),.pv (.int .i64 n.num),.pv (.str n.elem.s),.pv (.sl 1 false (n.dims.map enc)),.pv (.sl 1 false (n.data.map enc)),.pv (.sl 2 false (n.sizes.map enc)),.pv (.sl 1 false (n.ranks.map enc)),.pv (.sl 10 false (ks.map enc))]
theorem Nz(n:Nd)(ks:List Tm):NC (ZN n ks)=some (.mk n ks):=by
 show(if can Tm (.agg [enc n.kind,enc n.line,enc n.name,enc n.num,enc n.elem,enc n.dims,enc n.data,enc n.sizes,enc n.ranks,enc ks])then some (dec (.agg [enc n.kind,enc n.line,enc n.name,enc n.num,enc n.elem,enc n.dims,enc n.data,enc n.sizes,enc n.ranks,enc ks]))else none)=_
 rw[<- ZX,GI,Enc.dec_enc];rfl
theorem UV(n:Nd)(ks:List Tm)(k:Int)(b:Bool):YC (ZN n ks) k b=Vr (!b) (ZV (ks.getD k.toNat (.mk nd0 []))):=by unfold YC;rw[Nz];rfl
theorem CU{N:Nat}{n:Nd}{ks:List Tm}{k:Int}(h1:tW (.mk n ks)=true)(h2:YJ (.mk n ks)=true)(h3:ZP ks<N)(h4:0<=k)(h5:k<ks.length):Ck N (ZN n ks) k=true:=by
 unfold Ck
 rw[Nz]
 show(tW (.mk n ks)&&YJ (.mk n ks)&&decide (ZP ks<N)&&decide (0<=k)&&decide (k<(ks.length:Int)))=true
 rw[h1,h2,decide_eq_true h3,decide_eq_true h4,decide_eq_true h5];rfl
def Qg(y0:Tm):List PV:=[(.agg [(.int .i64 (PV.asInt (List.getD (PV.cells (enc y0)) 0 default))),(.int .i64 (PV.asInt (List.getD (PV.cells (enc y0)) (0+1) default))),(.str (PV.asStr (List.getD (PV.cells (enc y0)) (0+1+1) default))),(.int .i64 (PV.asInt (List.getD (PV.cells (enc y0)) (0+1+1+1) default))),(.str (PV.asStr (List.getD (PV.cells (enc y0)) (0+1+1+1+1) default))),(.sl 1 (PV.asT (List.getD (PV.cells (enc y0)) (0+1+1+1+1+1) default)) (PV.asXs (List.getD (PV.cells (enc y0)) (0+1+1+1+1+1) default))),(.sl 1 (PV.asT (List.getD (PV.cells (enc y0)) (0+1+1+1+1+1+1) default)) (PV.asXs (List.getD (PV.cells (enc y0)) (0+1+1+1+1+1+1) default))),(.sl 2 (PV.asT (List.getD (PV.cells (enc y0)) (0+1+1+1+1+1+1+1) default)) (PV.asXs (List.getD (PV.cells (enc y0)) (0+1+1+1+1+1+1+1) default))),(.sl 1 (PV.asT (List.getD (PV.cells (enc y0)) (0+1+1+1+1+1+1+1+1) default)) (PV.asXs (List.getD (PV.cells (enc y0)) (0+1+1+1+1+1+1+1+1) default))),(.sl 10 (PV.asT (List.getD (PV.cells (enc y0)) (0+1+1+1+1+1+1+1+1+1) default)) (PV.asXs (List.getD (PV.cells (enc y0)) (0+1+1+1+1+1+1+1+1+1) default)))])]
def NG(y0:Tm):Bool:=(decide (0+List.length [Sh.int .i64,Sh.int .i64,Sh.str,Sh.int .i64,Sh.str,Sh.sl 1,Sh.sl 1,Sh.sl 2,Sh.sl 1,Sh.sl 10]<=List.length (PV.cells (enc y0)))&&Y5 (PV.cells (enc y0)) 0 [Sh.int .i64,Sh.int .i64,Sh.str,Sh.int .i64,Sh.str,Sh.sl 1,Sh.sl 1,Sh.sl 2,Sh.sl 1,Sh.sl 10])
theorem Z7(t:Tm):Qg t=encL (t,()):=by
 obtain⟨n,ks⟩:=t
 show _=[enc (Tm.mk n ks)]
 unfold Qg
 rw[ZX]
 rfl
theorem Ww(t:Tm):NG t=true:=by
 obtain⟨n,ks⟩:=t
 unfold NG
 rw[ZX]
 rfl
def BZ(n:Nd)(ks:List Tm):List PV:=[.agg [.int .i64 n.kind,.int .i64 n.line,.str n.name.s,.int .i64 n.num,.str n.elem.s,.sl 1 false (n.dims.map enc),.sl 1 false (n.data.map enc),.sl 2 false (n.sizes.map enc),.sl 1 false (n.ranks.map enc),.sl 10 false (ks.map enc)]]
theorem Yy(n:Nd)(ks:List Tm):BZ n ks=encL (Tm.mk n ks,()):=by
 show _=[enc (Tm.mk n ks)]
 rw[ZX]
 rfl
theorem BB(l:List Lin):(Yi (l.map Yx)).s=Yd (l.map Ym):=by unfold Yi;rw[List.map_map];rfl
theorem a2h(l:List Int):(Yi (l.map ZI)).s=Yd (l.map UD):=by unfold Yi;rw[List.map_map];rfl
theorem JF(l:List Tm):(Yi (l.map Zr)).s=Yd (l.map ZV):=by unfold Yi;rw[List.map_map];rfl
def vT(s:Str):Tm:=.mk {nd0 with kind:=1,name:=s} []
def cT(s:Str)(ks:List Tm):Tm:=.mk {nd0 with kind:=6,name:=s} ks
def nT(n:Int):Tm:=.mk {nd0 with kind:=2,name:=⟨UA⟩,num:=n} []
end Go.Pl

namespace Go.Pl
open Go.RowKit
open Enc (enc dec is)
open EncL (encL decL isL)
mutual
theorem PU: ∀ t:Tm,Yb t<=ZY t
 | .mk n ks=>by have:=BA ks;rw[Yb,ZY];omega
theorem BA: ∀ ks:List Tm,ZP ks<=ZF ks
 | []=>Nat.le_refl _
 | k::ks=>by
  have h1:=PU k
  have h2:=BA ks
  rw[ZP,ZF]
  omega
end
theorem Gz{t:Tm}(h:tW t=true):ZY t<=1048576:=Nat.le_trans (KO t) (of_decide_eq_true h)
theorem a1q(l:List Tm)(k:Tm):ZP (l++[k])=max (ZP l) (Yb k):=by
 induction l with
 | nil=>simp[ZP]
 | cons a l ih=>rw[List.cons_append,ZP,ih,ZP];omega
theorem U6(l:List Tm)(k:Tm):ZF (l++[k])=ZF l+ZY k:=by
 induction l with
 | nil=>simp[ZF]
 | cons a l ih=>rw[List.cons_append,ZF,ih,ZF];omega
theorem HZ(ks:List Tm)(i:Nat):ZF (ks.take i)<=ZF ks:=by
 induction ks generalizing i with
 | nil=>simp
 | cons a ks ih=>
  cases i with
  | zero=>simp[ZF]
  | succ i=>have:=ih i;rw[List.take_succ_cons,ZF,ZF];omega
mutual
theorem BS(l m:Nat): ∀ t:Tm,(ZM l t).map (·.1)=(ZM m t).map (·.1)
 | .mk n ks=>by rw[ZM,ZM,List.map_cons,List.map_cons,Cg (l+1) (m+1) ks]
theorem Cg(l m:Nat): ∀ ks:List Tm,(ZK l ks).map (·.1)=(ZK m ks).map (·.1)
 | []=>by simp[ZK]
 | k::ks=>by rw[ZK,ZK,List.map_append,List.map_append,BS l m k,Cg l m ks]
end
theorem a0k(l:Nat)(ks:List Tm):(ZK l ks).map (·.1)=ks.flatMap Xd:=by
 induction ks with
 | nil=>simp[ZK]
 | cons k ks ih=>rw[ZK,List.map_append,ih,List.flatMap_cons,BS l 1 k];rfl
theorem b2v(n:Nd)(ks:List Tm):Xd (.mk n ks) = .mk n ks::ks.flatMap Xd:=by
 unfold Xd
 rw[ZM,List.map_cons]
 exact congrArg (Tm.mk n ks:: ·) (a0k 2 ks)
theorem DC(t:Tm):(Xd t).length=ZY t:=by unfold Xd;rw[List.length_map,Uh]
theorem TA(ks:List Tm):(ks.flatMap Xd).length=ZF ks:=by
 induction ks with
 | nil=>simp[ZF]
 | cons k ks ih=>rw[List.flatMap_cons,List.length_append,DC,ih,ZF]
theorem QN{α:Type}{l:List α}{i:Nat}(h:i<l.length):l.take (i+1)=l.take i++[l[i]]:=by rw[List.take_add_one];simp[h]
def FU(s:List UInt8)(i:Nat):Bool:=decide (i=0)||(s.getD (i - 1) 0==32)
theorem a3u{p:Bool}{c:UInt8}{r:List UInt8}(h:Wp p (c::r)=true):(c=32∧p=false∧Wp true r=true)∨(c≠32∧33<=c.toNat∧c.toNat<=126∧Wp false r=true):=by
 unfold Wp at h
 split at h
 ·rename_i hc
  rw[Bool.and_eq_true]at h
  exact .inl ⟨hc,by simpa using h.1,h.2⟩
 ·rename_i hc
  unfold XY at h
  simp only[Bool.and_eq_true,decide_eq_true_eq]at h
  exact .inr ⟨hc,h.1.1,h.1.2,h.2⟩
theorem b7l{s:List UInt8}(h:Wp true s=true):s≠[]:=by rintro rfl;cases h
def ex1:Tm:=cT ⟨[115,117,98]⟩ [vT ⟨[97]⟩,cT ⟨[115,117,98]⟩ [vT ⟨[98]⟩,cT ⟨[110,101,103]⟩ [nT 5]]]
def ex2:Tm:=cT ⟨[109,117,108]⟩ [cT ⟨[97,100,100]⟩ [vT ⟨[97]⟩,vT ⟨[98]⟩],nT (-2)]
def tx1:List UInt8:=[97,32,45,32,40,98,32,45,32,45,40,53,41,41]
def tx2:List UInt8:=[40,97,32,43,32,98,41,32,42,32,45,50]
theorem Ew:Xz ex1=true:=by
 unfold Xz
 rw[Ht]
 kernel_rfl
theorem a0s:Xz ex2=true:=by
 unfold Xz
 rw[Ht]
 kernel_rfl
theorem c3h:tW ex1=true:=by kernel_rfl
theorem c3n:tW ex2=true:=by kernel_rfl
theorem c4s:UD 5=[53]:=by
 unfold UD
 rw[Uu (by decide)]
 exact WO (by decide)
theorem c0u:UD (-2)=[45,50]:=by
 unfold UD
 rw[Ux (by decide)]
 exact congrArg (45:: ·) (WO (u:=2) (by decide))
theorem c4i(s:Str):ZV (vT s)=s.s:=by
 have h:Bo {nd0 with kind:=1,name:=s} 0=none:=by
  unfold Bo
  cases Pk s.s with
  | none=>rfl
  | some r=>rfl
 unfold vT
 rw[ZV]
 simp only[Yw]
 unfold Qo
 rw[show([]:List (Int×Bool×List UInt8)).length=0 from rfl,h]
 rfl
theorem c4f(n:Int):ZV (nT n)=UD n:=by
 unfold nT
 rw[ZV]
 simp only[Yw]
 unfold Qo
 rw[show Bo {nd0 with kind:=2,name:=⟨UA⟩,num:=n} ([]:List (Int×Bool×List UInt8)).length=none from rfl]
 rfl
theorem a9e:ZV ex1=tx1:=by
 unfold ex1 cT
 rw[ZV]
 simp only[Yw,ZV,c4i]
 have e1:ZV (nT 5)=[53]:=by rw[c4f,c4s]
 rw[e1]
 show _=tx1
 kernel_rfl
theorem a6t:ZV ex2=tx2:=by
 unfold ex2 cT
 rw[ZV]
 simp only[Yw,ZV,c4i]
 have e1:ZV (nT (-2))=[45,50]:=by rw[c4f,c0u]
 rw[e1]
 show _=tx2
 kernel_rfl
theorem b0u:XZ ex1=(⟨tx1⟩,0):=by
 unfold XZ Zr
 rw[Ew,a9e]
 rfl
theorem a8s:XZ ex2=(⟨tx2⟩,0):=by
 unfold XZ Zr
 rw[a0s,a6t]
 rfl
end Go.Pl

namespace Go.Pl
open Go.RowKit
open Enc (enc dec is)
open EncL (encL decL isL)
set_option maxRecDepth 100000
def LG:IC:=(.seq (.reg [⟨(some 6),(.mv (.c (.sl 0 true []))),0,none⟩] none) (.seq (.reg [⟨(some 8),(.mv (.t 1)),0,none⟩,⟨(some 9),(.conv .u64 (.t 8)),0,none⟩,⟨(some 7),(.mv (.t 9)),0,none⟩] none) (.seq (.seq (.reg [⟨(some 10),(.mv (.t 1)),0,none⟩,⟨(some 11),(.bin .num .lss (.t 10) (.c (.int .i64 0))),0,none⟩] none) (.cond (.t 11) (.seq (.reg [⟨(some 12),(.mv (.t 0)),0,none⟩,⟨(some 13),(.bslice 5 1 1 (.int .u8 0) [(0,(.c (.int .u8 45)))]),0,none⟩,⟨(some 14),(.append 5 1 1 (.t 12) (.t 13)),1,none⟩,⟨(some 0),(.mv (.t 14)),2,none⟩] none) (.reg [⟨(some 15),(.mv (.t 7)),0,none⟩,⟨(some 16),(.un .neg (.t 15)),0,none⟩,⟨(some 7),(.mv (.t 16)),0,none⟩] none)) .skip)) (.seq (.reg [⟨(some 17),(.mv (.t 0)),0,none⟩,⟨(some 18),(.mv (.t 7)),0,none⟩,⟨(some 19),(.mv (.t 2)),0,none⟩,⟨(some 20),(.call (.c (.fn 120)) [(.t 17),(.t 18),(.t 19)]),0,none⟩,⟨(some 6),(.mv (.t 20)),2,none⟩] none) .ret))))
def NV:List IRes:=[(.tmp 6)]
abbrev c1m:Nat:=21
def b0s:ZC:=Xi [(120,.own (KD 5) TN)]
theorem c3x{G:AV×List AObj×List AObj->Prop}(n:Nat)(i:Int)(xs:List PV)(h:if (decide (i<0))=true then(List.length xs==n&&n==n&&decide ((n+List.length (List.drop 0 (List.take 1 [PV.int IntKind.u8 45])))*1<=1099511627776)&&decide (n+List.length (List.drop 0 (List.take 1 [PV.int IntKind.u8 45]))<=1099511627776))=true∧((KD 5 [(.row 0 (n+List.length (List.drop 0 (List.take 1 [PV.int IntKind.u8 45]))) 0 (n+List.length (List.drop 0 (List.take 1 [PV.int IntKind.u8 45])))),(.pv (.int IntKind.u64 (IntKind.wrap IntKind.u64 (-IntKind.wrap IntKind.u64 i)))),(.pv (.int .i64 10))] [(.row false 5 1 (xs++List.drop 0 (List.take 1 [PV.int IntKind.u8 45])))])=true∧(G (((.row 0 (n+List.length (List.drop 0 (List.take 1 [PV.int IntKind.u8 45]))+List.length (Lib.decDigits (Int.toNat (IntKind.wrap IntKind.u64 (-IntKind.wrap IntKind.u64 i))))) 0 (n+List.length (List.drop 0 (List.take 1 [PV.int IntKind.u8 45]))+List.length (Lib.decDigits (Int.toNat (IntKind.wrap IntKind.u64 (-IntKind.wrap IntKind.u64 i)))))),([(.row false 5 1 (xs++List.drop 0 (List.take 1 [PV.int IntKind.u8 45])++Zd (Lib.decDigits (Int.toNat (IntKind.wrap IntKind.u64 (-IntKind.wrap IntKind.u64 i))))))],[])))))else((KD 5 [(.row 0 n 0 n),(.pv (.int IntKind.u64 (IntKind.wrap IntKind.u64 i))),(.pv (.int .i64 10))] [(.row false 5 1 xs)])=true∧(G (((.row 0 (n+List.length (Lib.decDigits (Int.toNat (IntKind.wrap IntKind.u64 i)))) 0 (n+List.length (Lib.decDigits (Int.toNat (IntKind.wrap IntKind.u64 i))))),([(.row false 5 1 (xs++Zd (Lib.decDigits (Int.toNat (IntKind.wrap IntKind.u64 i)))))],[])))))):Zc b0s 1 (YB 1 NV G) LG [] (Vb 21 [.row 0 n 0 n,.pv (.int .i64 i),.pv (.int .i64 10)] [.row false 5 1 xs]):=Zc.to (.lit (.ask (.lit (.lit (.req (.req (.keep (.nil)))))) (.req (.keep (.nil))))) h (by kernel_rfl)
def Le:IC:=(.seq (.reg [⟨(some 6),(.mv (.c (.sl 0 true []))),0,none⟩] none) (.seq (.reg [⟨(some 7),(.mv (.t 0)),0,none⟩,⟨(some 8),(.mv (.t 1)),0,none⟩,⟨(some 9),(.mv (.t 2)),0,none⟩,⟨(some 10),(.call (.c (.fn 97)) [(.t 7),(.t 8),(.t 9)]),0,none⟩,⟨(some 6),(.mv (.t 10)),2,none⟩] none) .ret))
def LX:List IRes:=[(.tmp 6)]
abbrev b8k:Nat:=11
def a2t:ZC:=Xi [(97,.own (Vd 5) JM)]
theorem c4r{G:AV×List AObj×List AObj->Prop}(n:Nat)(i:Int)(xs:List PV)(h:(Vd 5 [(.row 0 n 0 n),(.pv (.int .i64 i)),(.pv (.int .i64 10))] [(.row false 5 1 xs)])=true∧(G (((.row 0 (n+List.length (Lib.itoa i)) 0 (n+List.length (Lib.itoa i))),([(.row false 5 1 (xs++Zd (Lib.itoa i)))],[]))))):Zc a2t 1 (YB 1 LX G) Le [] (Vb 11 [.row 0 n 0 n,.pv (.int .i64 i),.pv (.int .i64 10)] [.row false 5 1 xs]):=Zc.to (.req (.keep (.nil))) h (by kernel_rfl)
def Mf:IC:=(.seq (.seq (.reg [⟨(some 5),(.mv (.t 1)),0,none⟩] none) (.cond (.t 5) (.reg [⟨(some 6),(.load false [(.sl 1)] (.t 2)),0,none⟩,⟨(some 7),(.bslice 5 1 1 (.int .u8 0) [(0,(.c (.int .u8 32)))]),0,none⟩,⟨(some 8),(.append 5 1 1 (.t 6) (.t 7)),1,none⟩,⟨none,(.store 1 (.t 2) (.t 8)),2,none⟩] none) .skip)) (.reg [⟨(some 9),(.load false [(.sl 1)] (.t 2)),0,none⟩,⟨(some 10),(.mv (.t 0)),0,none⟩,⟨(some 11),(.call (.c (.fn 61)) [(.t 9),(.t 10),(.c (.int .i64 10))]),0,none⟩,⟨none,(.store 1 (.t 2) (.t 11)),2,none⟩] none))
def M0:List IRes:=[]
abbrev c2w:Nat:=12
def a2i:ZC:=Xi [(61,.own (Vd 5) JM)]
theorem c3v{G:AV×List AObj×List AObj->Prop}(n:Nat)(i:Int)(s:Bool)(xs:List PV)(h:if (s)=true then(List.length xs==n&&n==n&&decide ((n+List.length (List.drop 0 (List.take 1 [PV.int IntKind.u8 32])))*1<=1099511627776)&&decide (n+List.length (List.drop 0 (List.take 1 [PV.int IntKind.u8 32]))<=1099511627776))=true∧((Vd 5 [(.row 0 (n+List.length (List.drop 0 (List.take 1 [PV.int IntKind.u8 32]))) 0 (n+List.length (List.drop 0 (List.take 1 [PV.int IntKind.u8 32])))),(.pv (.int .i64 i)),(.pv (.int .i64 10))] [(.row false 5 1 (xs++List.drop 0 (List.take 1 [PV.int IntKind.u8 32])))])=true∧(G (((.tup []),([(.box [(.row 1 (n+List.length (List.drop 0 (List.take 1 [PV.int IntKind.u8 32]))+List.length (Lib.itoa i)) 0 (n+List.length (List.drop 0 (List.take 1 [PV.int IntKind.u8 32]))+List.length (Lib.itoa i)))]),(.row false 5 1 (xs++List.drop 0 (List.take 1 [PV.int IntKind.u8 32])++Zd (Lib.itoa i)))],[])))))else((Vd 5 [(.row 0 n 0 n),(.pv (.int .i64 i)),(.pv (.int .i64 10))] [(.row false 5 1 xs)])=true∧(G (((.tup []),([(.box [(.row 1 (n+List.length (Lib.itoa i)) 0 (n+List.length (Lib.itoa i)))]),(.row false 5 1 (xs++Zd (Lib.itoa i)))],[])))))):Zc a2i 2 (YB 2 M0 G) Mf [] (Vb 12 [.pv (.int .i64 i),.pv (.bool s),.ptr 0 0] [.box [.row 1 n 0 n],.row false 5 1 xs]):=Zc.to (.ask (.lit (.lit (.req (.req (.keep (.nil)))))) (.req (.keep (.nil)))) h (by kernel_rfl)
def YH:IC:=(.seq (.reg [⟨(some 1),(.box 3 (.t 0)),0,none⟩,⟨(some 2),(.mv (.c (.str []))),1,none⟩,⟨(some 3),(.mv (.c (.int .i64 0))),1,none⟩] none) (.seq (.seq (.reg [⟨(some 8),(.load true [.str,(.sl 1),(.sl 1)] (.t 1)),0,none⟩,⟨(some 9),(.call (.c (.fn 59)) [(.t 8)]),0,none⟩,⟨(some 10),(.un .not (.t 9)),2,none⟩] none) (.cond (.t 10) (.seq (.reg [⟨(some 2),(.mv (.c (.str []))),0,none⟩,⟨(some 3),(.mv (.c (.int .i64 1))),0,none⟩] none) .ret) .skip)) (.seq (.reg [⟨(some 11),(.bslice 5 1 2 (.int .u8 0) [(0,(.c (.int .u8 35))),(1,(.c (.int .u8 91)))]),0,none⟩,⟨(some 12),(.sslice (.t 11)),1,none⟩,⟨(some 4),(.alloc (.sl 0 true [])),1,none⟩,⟨none,(.store 1 (.t 4) (.t 12)),2,none⟩] none) (.seq (.seq (.reg [⟨(some 13),(.faddr 0 (.t 1)),0,none⟩,⟨(some 14),(.load false [.str] (.t 13)),0,none⟩,⟨(some 15),(.bin .num .eql (.t 14) (.c (.str [98,111,111,108]))),0,none⟩] none) (.cond (.t 15) (.reg [⟨(some 16),(.bslice 5 1 3 (.int .u8 0) [(0,(.c (.int .u8 35))),(1,(.c (.int .u8 98))),(2,(.c (.int .u8 91)))]),0,none⟩,⟨(some 17),(.sslice (.t 16)),1,none⟩,⟨none,(.store 1 (.t 4) (.t 17)),1,none⟩] none) .skip)) (.seq (.reg [⟨(some 18),(.mkfn 60 [] [(.t 4)]),0,none⟩,⟨(some 5),(.mv (.t 18)),0,none⟩] none) (.seq (.seq (.reg [⟨(some 19),(.faddr 1 (.t 1)),0,none⟩,⟨(some 20),(.load false [(.sl 1)] (.t 19)),0,none⟩,⟨(some 21),(.len 1 (.t 20)),0,none⟩,⟨(some 22),(.mv (.c (.int .i64 0))),0,none⟩] none) (.block 0 (.loop [22,21,5,1,4] (.seq (.reg [⟨(some 23),(.bin .num .lss (.t 22) (.t 21)),0,none⟩] none) (.seq (.cond (.t 23) .skip (.exit 0)) (.seq (.block 1 (.seq (.reg [⟨(some 24),(.mv (.t 22)),0,none⟩,⟨(some 6),(.mv (.t 24)),0,none⟩] none) (.reg [⟨(some 25),(.mv (.t 5)),0,none⟩,⟨(some 26),(.faddr 1 (.t 1)),0,none⟩,⟨(some 27),(.load false [(.sl 1)] (.t 26)),0,none⟩,⟨(some 28),(.mv (.t 6)),0,none⟩,⟨(some 29),(.iaddr 1 (.t 27) (.t 28)),0,none⟩,⟨(some 30),(.load false [(.int .i64)] (.t 29)),0,none⟩,⟨(some 31),(.mv (.t 6)),0,none⟩,⟨(some 32),(.bin .num .gtr (.t 31) (.c (.int .i64 0))),0,none⟩,⟨(some 33),(.call (.t 25) [(.t 30),(.t 32)]),0,none⟩] none))) (.reg [⟨(some 34),(.bin .num .add (.t 22) (.c (.int .i64 1))),0,none⟩,⟨(some 22),(.mv (.t 34)),0,none⟩] none))))))) (.seq (.reg [⟨(some 35),(.load false [(.sl 1)] (.t 4)),0,none⟩,⟨(some 36),(.bslice 5 1 1 (.int .u8 0) [(0,(.c (.int .u8 58)))]),0,none⟩,⟨(some 37),(.append 5 1 1 (.t 35) (.t 36)),1,none⟩,⟨none,(.store 1 (.t 4) (.t 37)),2,none⟩] none) (.seq (.seq (.reg [⟨(some 38),(.faddr 2 (.t 1)),0,none⟩,⟨(some 39),(.load false [(.sl 1)] (.t 38)),0,none⟩,⟨(some 40),(.len 1 (.t 39)),0,none⟩,⟨(some 41),(.mv (.c (.int .i64 0))),0,none⟩] none) (.block 2 (.loop [41,40,5,1,4] (.seq (.reg [⟨(some 42),(.bin .num .lss (.t 41) (.t 40)),0,none⟩] none) (.seq (.cond (.t 42) .skip (.exit 2)) (.seq (.block 3 (.seq (.reg [⟨(some 43),(.mv (.t 41)),0,none⟩,⟨(some 7),(.mv (.t 43)),0,none⟩] none) (.reg [⟨(some 44),(.mv (.t 5)),0,none⟩,⟨(some 45),(.faddr 2 (.t 1)),0,none⟩,⟨(some 46),(.load false [(.sl 1)] (.t 45)),0,none⟩,⟨(some 47),(.mv (.t 7)),0,none⟩,⟨(some 48),(.iaddr 1 (.t 46) (.t 47)),0,none⟩,⟨(some 49),(.load false [(.int .i64)] (.t 48)),0,none⟩,⟨(some 50),(.call (.t 44) [(.t 49),(.c (.bool true))]),0,none⟩] none))) (.reg [⟨(some 51),(.bin .num .add (.t 41) (.c (.int .i64 1))),0,none⟩,⟨(some 41),(.mv (.t 51)),0,none⟩] none))))))) (.seq (.reg [⟨(some 52),(.load false [(.sl 1)] (.t 4)),0,none⟩,⟨(some 53),(.bslice 5 1 1 (.int .u8 0) [(0,(.c (.int .u8 93)))]),0,none⟩,⟨(some 54),(.append 5 1 1 (.t 52) (.t 53)),1,none⟩,⟨(some 55),(.bstr (.t 54)),2,none⟩,⟨(some 2),(.mv (.t 55)),2,none⟩,⟨(some 3),(.mv (.c (.int .i64 0))),2,none⟩] none) .ret)))))))))
def YI:List IRes:=[(.tmp 2),(.tmp 3)]
abbrev a0c:Nat:=56
def Xg:ZC:=Xi [(59,.pure (preT (fun x:Arr×Unit=>Qk x.1)) (Zf (fun x:Arr×Unit=>Ud x.1))),(60,.own (U3 5) SH)]
theorem a3e{G:PV->Prop}(a:Arr)(h:(Go.Pl.preT (fun(x:Arr×Unit)=>Qk x.1) [(.agg [(.str (Str.s (Arr.e a))),(.sl 1 false (List.map enc (Arr.d a))),(.sl 1 false (List.map enc (Arr.x a)))])])=true∧(∃ y0:Bool,AV.pv (Zf (fun(x:Arr×Unit)=>Ud x.1) [(.agg [(.str (Str.s (Arr.e a))),(.sl 1 false (List.map enc (Arr.d a))),(.sl 1 false (List.map enc (Arr.x a)))])])=AV.pv (enc y0)∧(if (!y0)=true then G ((.tup [(.str []),(.int .i64 1)]))else(if (Str.s (Arr.e a)==[(98:UInt8),(111:UInt8),(111:UInt8),(108:UInt8)])=true then At Xg 0 (Za YI G) YH 0 56 [(1,(.ptr 0 0)),(4,(.ptr 1 0)),(5,(.fn 60 [] [(.ptr 1 0)])),(21,(.pv (.int .i64 (↑(List.length (List.map enc (Arr.d a))):Int)))),(22,(.pv (.int .i64 0)))] [(.obj (.box [(.pv (.str (Str.s (Arr.e a)))),(.pv (.sl 1 false (List.map enc (Arr.d a)))),(.pv (.sl 1 false (List.map enc (Arr.x a))))])),(.obj (.box [(.row 2 3 0 3)])),(.obj (.row false 5 1 [(.int IntKind.u8 35),(.int IntKind.u8 98),(.int IntKind.u8 91)]))]else(At Xg 0 (Za YI G) YH 0 56 [(1,(.ptr 0 0)),(4,(.ptr 1 0)),(5,(.fn 60 [] [(.ptr 1 0)])),(21,(.pv (.int .i64 (↑(List.length (List.map enc (Arr.d a))):Int)))),(22,(.pv (.int .i64 0)))] [(.obj (.box [(.pv (.str (Str.s (Arr.e a)))),(.pv (.sl 1 false (List.map enc (Arr.d a)))),(.pv (.sl 1 false (List.map enc (Arr.x a))))])),(.obj (.box [(.row 2 2 0 2)])),(.obj (.row false 5 1 [(.int IntKind.u8 35),(.int IntKind.u8 91)]))]))))):Zc Xg 0 (Za YI G) YH [] (Ye 56 [.agg [enc a.e,enc a.d,enc a.x]]):=Zc.tp (.req (.abs (Bool) (fun YY=>AV.pv (enc YY)) (.ask (.nil) (.lit (.lit (.lit (.ask (.lit (.lit (.nil))) (.nil)))))))) h (by kernel_rfl)
theorem BI{G:PV->Prop}(a:Arr)(n:Nat)(i:Int)(xs:List PV)(h:if (decide (i<(↑(List.length (Arr.d a)):Int)))=true then(decide (0<=i)&&decide (Int.toNat i<List.length (List.map enc (Arr.d a)))&&Enc.sz Int==1)=true∧(∃ y0:Int,AV.pv (PV.rptr (PV.cells (List.getD (List.map enc (Arr.d a)) (Int.toNat i) default)))=AV.pv (PV.rptr (PV.cells ((enc) y0)))∧((U3 5 [(.pv (.int .i64 (PV.asInt (List.getD (PV.cells (enc y0)) 0 default)))),(.pv (.bool (decide (i>0)))),(.ptr 0 0)] [(.box [(.row 1 n 0 n)]),(.row false 5 1 xs)])=true∧(At Xg 0 (Za YI G) YH 0 56 [(1,(.ptr 0 0)),(4,(.ptr 1 0)),(5,(.fn 60 [] [(.ptr 1 0)])),(21,(.pv (.int .i64 (↑(List.length (Arr.d a)):Int)))),(22,(.pv (.int .i64 (IntKind.wrap IntKind.i64 (i+1)))))] [(.obj (.box [(.pv (.str (Str.s (Arr.e a)))),(.pv (.sl 1 false (List.map enc (Arr.d a)))),(.pv (.sl 1 false (List.map enc (Arr.x a))))])),(.obj (.box [(.row 2 (n+List.length (Vg (decide (i>0)) (PV.asInt (List.getD (PV.cells (enc y0)) 0 default)))) 0 (n+List.length (Vg (decide (i>0)) (PV.asInt (List.getD (PV.cells (enc y0)) 0 default)))))])),(.obj (.row false 5 1 (xs++Zd (Vg (decide (i>0)) (PV.asInt (List.getD (PV.cells (enc y0)) 0 default))))))])))else((List.length xs==n&&n==n&&decide ((n+List.length (List.drop 0 (List.take 1 [PV.int IntKind.u8 58])))*1<=1099511627776)&&decide (n+List.length (List.drop 0 (List.take 1 [PV.int IntKind.u8 58]))<=1099511627776))=true∧(At Xg 0 (Za YI G) YH 1 56 [(1,(.ptr 0 0)),(4,(.ptr 1 0)),(5,(.fn 60 [] [(.ptr 1 0)])),(40,(.pv (.int .i64 (↑(List.length (List.map enc (Arr.x a))):Int)))),(41,(.pv (.int .i64 0)))] [(.obj (.box [(.pv (.str (Str.s (Arr.e a)))),(.pv (.sl 1 false (List.map enc (Arr.d a)))),(.pv (.sl 1 false (List.map enc (Arr.x a))))])),(.obj (.box [(.row 2 (n+List.length (List.drop 0 (List.take 1 [PV.int IntKind.u8 58]))) 0 (n+List.length (List.drop 0 (List.take 1 [PV.int IntKind.u8 58]))))])),(.obj (.row false 5 1 (xs++List.drop 0 (List.take 1 [PV.int IntKind.u8 58]))))]))):At Xg 0 (Za YI G) YH 0 56 [(1,.ptr 0 0),(4,.ptr 1 0),(5,.fn 60 [] [.ptr 1 0]),(21,.pv (.int .i64 a.d.length)),(22,.pv (.int .i64 i))] [.obj (.box [.pv (enc a.e),.pv (enc a.d),.pv (enc a.x)]),.obj (.box [.row 2 n 0 n]),.obj (.row false 5 1 xs)]:=At.tp (.lit (.ask (.req (.abs (Int) (fun YY=>AV.pv (PV.rptr (PV.cells ((enc) YY)))) (.lit (.lit (.req (.keep (.lit (.nil)))))))) (.lit (.lit (.req (.nil)))))) h (by kernel_rfl)
theorem Al{G:PV->Prop}(a:Arr)(n:Nat)(i:Int)(xs:List PV)(h:if (decide (i<(↑(List.length (Arr.x a)):Int)))=true then(decide (0<=i)&&decide (Int.toNat i<List.length (List.map enc (Arr.x a)))&&Enc.sz Int==1)=true∧(∃ y0:Int,AV.pv (PV.rptr (PV.cells (List.getD (List.map enc (Arr.x a)) (Int.toNat i) default)))=AV.pv (PV.rptr (PV.cells ((enc) y0)))∧((U3 5 [(.pv (.int .i64 (PV.asInt (List.getD (PV.cells (enc y0)) 0 default)))),(.pv (.bool true)),(.ptr 0 0)] [(.box [(.row 1 n 0 n)]),(.row false 5 1 xs)])=true∧(At Xg 0 (Za YI G) YH 1 56 [(1,(.ptr 0 0)),(4,(.ptr 1 0)),(5,(.fn 60 [] [(.ptr 1 0)])),(40,(.pv (.int .i64 (↑(List.length (Arr.x a)):Int)))),(41,(.pv (.int .i64 (IntKind.wrap IntKind.i64 (i+1)))))] [(.obj (.box [(.pv (.str (Str.s (Arr.e a)))),(.pv (.sl 1 false (List.map enc (Arr.d a)))),(.pv (.sl 1 false (List.map enc (Arr.x a))))])),(.obj (.box [(.row 2 (n+List.length (Vg true (PV.asInt (List.getD (PV.cells (enc y0)) 0 default)))) 0 (n+List.length (Vg true (PV.asInt (List.getD (PV.cells (enc y0)) 0 default)))))])),(.obj (.row false 5 1 (xs++Zd (Vg true (PV.asInt (List.getD (PV.cells (enc y0)) 0 default))))))])))else((List.length xs==n&&n==n&&decide ((n+List.length (List.drop 0 (List.take 1 [PV.int IntKind.u8 93])))*1<=1099511627776)&&decide (n+List.length (List.drop 0 (List.take 1 [PV.int IntKind.u8 93]))<=1099511627776))=true∧((List.length (xs++List.drop 0 (List.take 1 [PV.int IntKind.u8 93]))==n+List.length (List.drop 0 (List.take 1 [PV.int IntKind.u8 93]))&&List.all (xs++List.drop 0 (List.take 1 [PV.int IntKind.u8 93])) Bq&&1==1)=true∧(G ((.tup [(.str (XA (List.drop 0 (List.take (n+List.length (List.drop 0 (List.take 1 [PV.int IntKind.u8 93]))) (xs++List.drop 0 (List.take 1 [PV.int IntKind.u8 93])))))),(.int .i64 0)])))))):At Xg 0 (Za YI G) YH 1 56 [(1,.ptr 0 0),(4,.ptr 1 0),(5,.fn 60 [] [.ptr 1 0]),(40,.pv (.int .i64 a.x.length)),(41,.pv (.int .i64 i))] [.obj (.box [.pv (enc a.e),.pv (enc a.d),.pv (enc a.x)]),.obj (.box [.row 2 n 0 n]),.obj (.row false 5 1 xs)]:=At.tp (.lit (.ask (.req (.abs (Int) (fun YY=>AV.pv (PV.rptr (PV.cells ((enc) YY)))) (.lit (.req (.keep (.lit (.nil))))))) (.lit (.lit (.req (.req (.nil))))))) h (by kernel_rfl)
end Go.Pl

namespace Go.Pl
open Go.RowKit
open Enc (enc dec is)
open EncL (encL decL isL)
set_option maxRecDepth 100000
def AX:IC:=(.seq (.reg [⟨(some 2),(.mv (.c (.bool false))),0,none⟩] none) (.seq (.reg [⟨(some 3),(.mv (.t 0)),0,none⟩,⟨(some 4),(.call (.c (.fn 46)) [(.t 3)]),0,none⟩,⟨(some 5),(.un .not (.t 4)),2,none⟩,⟨(some 2),(.mv (.t 5)),2,none⟩] none) .ret))
def Tj:List IRes:=[(.tmp 2)]
abbrev b4k:Nat:=6
def ME:ZC:=Xi [(46,.pure (preT (fun x:Str×Unit=>decide (x.1.s.length<=1048576))) (Zf (fun x:Str×Unit=>ZZ x.1.s)))]
theorem c0l{G:PV->Prop}(s:List UInt8)(h:(Go.Pl.preT (fun(x:Str×Unit)=>decide (List.length (Str.s x.1)<=1048576)) [(.str s)])=true∧(∃ y0:Bool,AV.pv (Zf (fun(x:Str×Unit)=>ZZ (Str.s x.1)) [(.str s)])=AV.pv (enc y0)∧(G ((.bool !y0))))):Zc ME 0 (Za Tj G) AX [] (Ye 6 [.str s]):=Zc.tp (.req (.abs (Bool) (fun YY=>AV.pv (enc YY)) (.nil))) h (by kernel_rfl)
def Kz:IC:=(.seq (.reg [⟨(some 4),(.mv (.c (.int .i64 0))),0,none⟩] none) (.seq (.seq (.reg [⟨(some 6),(.mv (.t 0)),0,none⟩,⟨(some 7),(.len 1 (.t 6)),0,none⟩,⟨(some 8),(.mv (.c (.int .i64 0))),0,none⟩] none) (.block 0 (.loop [8,7,1,0] (.seq (.reg [⟨(some 9),(.bin .num .lss (.t 8) (.t 7)),0,none⟩] none) (.seq (.cond (.t 9) .skip (.exit 0)) (.seq (.block 1 (.seq (.reg [⟨(some 10),(.mv (.t 8)),0,none⟩,⟨(some 5),(.mv (.t 10)),0,none⟩] none) (.seq (.reg [⟨(some 11),(.mv (.t 1)),0,none⟩,⟨(some 12),(.mv (.t 0)),0,none⟩,⟨(some 13),(.mv (.t 5)),0,none⟩,⟨(some 14),(.iaddr 1 (.t 12) (.t 13)),0,none⟩,⟨(some 15),(.load false [.str] (.t 14)),0,none⟩,⟨(some 16),(.call (.t 11) [(.t 15)]),0,none⟩] none) (.cond (.t 16) (.seq (.reg [⟨(some 17),(.mv (.t 5)),0,none⟩,⟨(some 4),(.mv (.t 17)),0,none⟩] none) .ret) .skip)))) (.reg [⟨(some 18),(.bin .num .add (.t 8) (.c (.int .i64 1))),0,none⟩,⟨(some 8),(.mv (.t 18)),0,none⟩] none))))))) (.seq (.reg [⟨(some 4),(.mv (.c (.int .i64 (-1)))),0,none⟩] none) .ret)))
def Ki:List IRes:=[(.tmp 4)]
abbrev b7z:Nat:=19
def Dj:ZC:=Xi [(45,.pure (preT (fun x:Str×Unit=>decide (x.1.s.length<=1048576))) (Zf (fun x:Str×Unit=> !(ZZ x.1.s))))]
theorem c3d{G:PV->Prop}(l:List Str)(h:At Dj 0 (Za Ki G) Kz 0 19 [(0,(.pv (.sl 1 false (List.map enc l)))),(1,(.pv (.fn 45))),(7,(.pv (.int .i64 (↑(List.length (List.map enc l)):Int)))),(8,(.pv (.int .i64 0)))] []):Zc Dj 0 (Za Ki G) Kz [] (Ye 19 [enc l,.fn 45]):=Zc.tp (.nil) h (by kernel_rfl)
theorem b0c{G:PV->Prop}(l:List Str)(i:Int)(h:if (decide (i<(↑(List.length l):Int)))=true then(decide (0<=i)&&decide (Int.toNat i<List.length (List.map enc l))&&Enc.sz Str==1)=true∧(∃ y0:Str,AV.pv (PV.rptr (PV.cells (List.getD (List.map enc l) (Int.toNat i) default)))=AV.pv (PV.rptr (PV.cells ((enc) y0)))∧((Go.Pl.preT (fun(x:Str×Unit)=>decide (List.length (Str.s x.1)<=1048576)) [(.str (PV.asStr (List.getD (PV.cells (enc y0)) 0 default)))])=true∧(∃ y1:Bool,AV.pv (Zf (fun(x:Str×Unit)=> !ZZ (Str.s x.1)) [(.str (PV.asStr (List.getD (PV.cells (enc y0)) 0 default)))])=AV.pv (enc y1)∧(if (y1)=true then G ((.int .i64 i))else(At Dj 0 (Za Ki G) Kz 0 19 [(0,(.pv (.sl 1 false (List.map enc l)))),(1,(.pv (.fn 45))),(7,(.pv (.int .i64 (↑(List.length l):Int)))),(8,(.pv (.int .i64 (IntKind.wrap IntKind.i64 (i+1)))))] [])))))else(G ((.int .i64 (-1))))):At Dj 0 (Za Ki G) Kz 0 19 [(0,.pv (enc l)),(1,.pv (.fn 45)),(7,.pv (.int .i64 l.length)),(8,.pv (.int .i64 i))] []:=At.tp (.lit (.ask (.req (.abs (Str) (fun YY=>AV.pv (PV.rptr (PV.cells ((enc) YY)))) (.lit (.req (.abs (Bool) (fun YY=>AV.pv (enc YY)) (.ask (.nil) (.lit (.nil)))))))) (.nil))) h (by kernel_rfl)
def NZ:IC:=(.seq (.reg [⟨(some 4),(.mv (.c (.bool false))),0,none⟩] none) (.seq (.reg [⟨(some 5),(.mv (.t 0)),0,none⟩,⟨(some 6),(.mv (.t 1)),0,none⟩,⟨(some 7),(.call (.c (.fn 80)) [(.t 5),(.t 6)]),0,none⟩,⟨(some 8),(.bin .num .geq (.t 7) (.c (.int .i64 0))),2,none⟩,⟨(some 4),(.mv (.t 8)),2,none⟩] none) .ret))
def Mi:List IRes:=[(.tmp 4)]
abbrev c2j:Nat:=9
def b1b:ZC:=Xi [(80,.pure (preT (fun x:List Str×FnV 45×Unit=>Vk x.1)) (Zf (fun x:List Str×FnV 45×Unit=>Y6 (fun s:Str=> !(ZZ s.s)) x.1)))]
theorem c4h{G:PV->Prop}(l:List Str)(h:(Go.Pl.preT (fun(x:List Str×FnV 45×Unit)=>Vk x.1) [(.sl 1 false (List.map enc l)),(.fn 45)])=true∧(∃ y0:Int,AV.pv (Zf (fun(x:List Str×FnV 45×Unit)=>Y6 (fun(s:Str)=> !ZZ (Str.s s)) x.1) [(.sl 1 false (List.map enc l)),(.fn 45)])=AV.pv (enc y0)∧(G ((.bool (decide (y0 ≥ 0))))))):Zc b1b 0 (Za Mi G) NZ [] (Ye 9 [enc l,.fn 45]):=Zc.tp (.req (.abs (Int) (fun YY=>AV.pv (enc YY)) (.lit (.nil)))) h (by kernel_rfl)
def JV:IC:=(.seq (.reg [⟨(some 2),(.mv (.c (.bool false))),0,none⟩] none) (.seq (.reg [⟨(some 3),(.mv (.t 0)),0,none⟩,⟨(some 4),(.call (.c (.fn 44)) [(.t 3),(.c (.fn 45))]),0,none⟩,⟨(some 5),(.un .not (.t 4)),2,none⟩,⟨(some 2),(.mv (.t 5)),2,none⟩] none) .ret))
def Hg:List IRes:=[(.tmp 2)]
abbrev EI:Nat:=6
def DD:ZC:=Xi [(44,.pure (preT (fun x:List Str×FnV 45×Unit=>Vk x.1)) (Zf (fun x:List Str×FnV 45×Unit=>x.1.any fun s:Str=> !(ZZ s.s))))]
theorem a8k{G:PV->Prop}(l:List Str)(h:(Go.Pl.preT (fun(x:List Str×FnV 45×Unit)=>Vk x.1) [(.sl 1 false (List.map enc l)),(.fn 45)])=true∧(∃ y0:Bool,AV.pv (Zf (fun(x:List Str×FnV 45×Unit)=>List.any x.1 fun(s:Str)=> !ZZ (Str.s s)) [(.sl 1 false (List.map enc l)),(.fn 45)])=AV.pv (enc y0)∧(G ((.bool !y0))))):Zc DD 0 (Za Hg G) JV [] (Ye 6 [enc l]):=Zc.tp (.req (.abs (Bool) (fun YY=>AV.pv (enc YY)) (.nil))) h (by kernel_rfl)
def J5:IC:=(.seq (.reg [⟨(some 1),(.box 10 (.t 0)),0,none⟩,⟨(some 2),(.mv (.c (.bool false))),1,none⟩] none) (.seq (.reg [⟨(some 3),(.load true [(.int .i64),(.int .i64),.str,(.int .i64),.str,(.sl 1),(.sl 1),(.sl 2),(.sl 1),(.sl 10)] (.t 1)),0,none⟩,⟨(some 4),(.call (.c (.fn 19)) [(.t 3)]),0,none⟩,⟨(some 5),(.mv (.t 4)),2,none⟩,⟨(some 6),(.load true [(.int .i64),(.int .i64),.str,(.int .i64),.str,(.sl 1),(.sl 1),(.sl 2),(.sl 1),(.sl 10)] (.t 1)),2,(some (5,true))⟩,⟨(some 7),(.call (.c (.fn 21)) [(.t 6)]),2,(some (5,true))⟩,⟨(some 8),(.call (.c (.fn 20)) [(.t 7)]),4,(some (5,true))⟩,⟨(some 9),(.pick (.t 5) (.t 8) (.c (.bool false))),6,none⟩,⟨(some 2),(.mv (.t 9)),6,none⟩] none) .ret))
def QG:List IRes:=[(.tmp 2)]
abbrev a0e:Nat:=10
def K9:ZC:=Xi [(19,.pure (preT (fun x:Tm×Unit=>tW x.1)) (Zf (fun x:Tm×Unit=>Wj x.1))),(21,.pure (preT (fun x:Tm×Unit=>tW x.1)) (Zf (fun x:Tm×Unit=>WW x.1))),(20,.pure (preT (fun x:List Str×Unit=>Vk x.1)) (Zf (fun x:List Str×Unit=>x.1.all fun s:Str=>ZZ s.s)))]
theorem a2x{G:PV->Prop}(n:Nd)(ks:List Tm)(h:(Go.Pl.preT (fun(x:Tm×Unit)=>tW x.1) [(.agg [(.int .i64 (Nd.kind n)),(.int .i64 (Nd.line n)),(.str (Str.s (Nd.name n))),(.int .i64 (Nd.num n)),(.str (Str.s (Nd.elem n))),(.sl 1 false (List.map enc (Nd.dims n))),(.sl 1 false (List.map enc (Nd.data n))),(.sl 2 false (List.map enc (Nd.sizes n))),(.sl 1 false (List.map enc (Nd.ranks n))),(.sl 10 false (List.map enc ks))])])=true∧(∃ y0:Bool,AV.pv (Zf (fun(x:Tm×Unit)=>Wj x.1) [(.agg [(.int .i64 (Nd.kind n)),(.int .i64 (Nd.line n)),(.str (Str.s (Nd.name n))),(.int .i64 (Nd.num n)),(.str (Str.s (Nd.elem n))),(.sl 1 false (List.map enc (Nd.dims n))),(.sl 1 false (List.map enc (Nd.data n))),(.sl 2 false (List.map enc (Nd.sizes n))),(.sl 1 false (List.map enc (Nd.ranks n))),(.sl 10 false (List.map enc ks))])])=AV.pv (enc y0)∧(if (y0)=true then(Go.Pl.preT (fun(x:Tm×Unit)=>tW x.1) [(.agg [(.int .i64 (Nd.kind n)),(.int .i64 (Nd.line n)),(.str (Str.s (Nd.name n))),(.int .i64 (Nd.num n)),(.str (Str.s (Nd.elem n))),(.sl 1 false (List.map enc (Nd.dims n))),(.sl 1 false (List.map enc (Nd.data n))),(.sl 2 false (List.map enc (Nd.sizes n))),(.sl 1 false (List.map enc (Nd.ranks n))),(.sl 10 false (List.map enc ks))])])=true∧(∃ y1:List Str,AV.pv (Zf (fun(x:Tm×Unit)=>WW x.1) [(.agg [(.int .i64 (Nd.kind n)),(.int .i64 (Nd.line n)),(.str (Str.s (Nd.name n))),(.int .i64 (Nd.num n)),(.str (Str.s (Nd.elem n))),(.sl 1 false (List.map enc (Nd.dims n))),(.sl 1 false (List.map enc (Nd.data n))),(.sl 2 false (List.map enc (Nd.sizes n))),(.sl 1 false (List.map enc (Nd.ranks n))),(.sl 10 false (List.map enc ks))])])=AV.pv (enc y1)∧((Go.Pl.preT (fun(x:List Str×Unit)=>Vk x.1) [(.sl 1 false (List.map enc y1))])=true∧(∃ y2:Bool,AV.pv (Zf (fun(x:List Str×Unit)=>List.all x.1 fun(s:Str)=>ZZ (Str.s s)) [(.sl 1 false (List.map enc y1))])=AV.pv (enc y2)∧(G ((.bool y2))))))else(G ((.bool false)))))):Zc K9 0 (Za QG G) J5 [] (Ye 10 [.agg [enc n.kind,enc n.line,enc n.name,enc n.num,enc n.elem,enc n.dims,enc n.data,enc n.sizes,enc n.ranks,enc ks]]):=Zc.tp (.req (.abs (Bool) (fun YY=>AV.pv (enc YY)) (.ask (.lit (.req (.abs (List Str) (fun YY=>AV.pv (enc YY)) (.lit (.req (.abs (Bool) (fun YY=>AV.pv (enc YY)) (.lit (.nil)))))))) (.lit (.lit (.lit (.nil))))))) h (by kernel_rfl)
def Sb:IC:=(.seq (.reg [⟨(some 2),(.mv (.c (.str []))),0,none⟩,⟨(some 3),(.mv (.c (.int .i64 0))),0,none⟩] none) (.seq (.seq (.reg [⟨(some 4),(.mv (.t 0)),0,none⟩,⟨(some 5),(.len 0 (.t 4)),0,none⟩,⟨(some 6),(.bin .num .gtr (.t 5) (.c (.int .i64 20000))),0,none⟩] none) (.cond (.t 6) (.seq (.reg [⟨(some 2),(.mv (.c (.str []))),0,none⟩,⟨(some 3),(.mv (.c (.int .i64 3))),0,none⟩] none) .ret) .skip)) (.seq (.reg [⟨(some 7),(.mv (.t 0)),0,none⟩,⟨(some 2),(.mv (.t 7)),0,none⟩,⟨(some 3),(.mv (.c (.int .i64 0))),0,none⟩] none) .ret)))
def SA:List IRes:=[(.tmp 2),(.tmp 3)]
abbrev b3s:Nat:=8
def NM:ZC:=Xi []
theorem b9h{G:PV->Prop}(s:List UInt8)(h:if (decide ((↑(List.length s):Int)>20000))=true then G ((.tup [(.str []),(.int .i64 3)]))else(G ((.tup [(.str s),(.int .i64 0)])))):Zc NM 0 (Za SA G) Sb [] (Ye 8 [.str s]):=Zc.tp (.lit (.ask (.nil) (.nil))) h (by kernel_rfl)
def Ti:IC:=(.seq (.reg [⟨(some 0),(.alloc (.agg [(.str []),(.bool false),(.str []),(.int .i64 0),(.str []),(.bool false),(.str []),(.int .i64 0),(.str []),(.bool false),(.str []),(.int .i64 0),(.str []),(.bool false),(.str []),(.int .i64 0),(.str []),(.bool false),(.str []),(.int .i64 0),(.str []),(.bool false),(.str []),(.int .i64 0),(.str []),(.bool false),(.str []),(.int .i64 0),(.str []),(.bool false),(.str []),(.int .i64 0),(.str []),(.bool false),(.str []),(.int .i64 0),(.str []),(.bool false),(.str []),(.int .i64 0),(.str []),(.bool false),(.str []),(.int .i64 0),(.str []),(.bool false),(.str []),(.int .i64 0),(.str []),(.bool false),(.str []),(.int .i64 0),(.str []),(.bool false),(.str []),(.int .i64 0),(.str []),(.bool false),(.str []),(.int .i64 0)])),0,none⟩] none) (.seq (.reg [⟨(some 1),(.build [(.str []),(.bool false),(.str []),(.int .i64 0)] [(0,(1,(.c (.str [124,124])))),(1,(1,(.c (.bool false)))),(2,(1,(.c (.str [111,114])))),(3,(1,(.c (.int .i64 1))))]),0,none⟩,⟨(some 2),(.build [(.str []),(.bool false),(.str []),(.int .i64 0)] [(0,(1,(.c (.str [38,38])))),(1,(1,(.c (.bool false)))),(2,(1,(.c (.str [97,110,100])))),(3,(1,(.c (.int .i64 2))))]),0,none⟩,⟨(some 3),(.build [(.str []),(.bool false),(.str []),(.int .i64 0)] [(0,(1,(.c (.str [61,61])))),(1,(1,(.c (.bool false)))),(2,(1,(.c (.str [101,113])))),(3,(1,(.c (.int .i64 3))))]),0,none⟩,⟨(some 4),(.build [(.str []),(.bool false),(.str []),(.int .i64 0)] [(0,(1,(.c (.str [33,61])))),(1,(1,(.c (.bool false)))),(2,(1,(.c (.str [110,101])))),(3,(1,(.c (.int .i64 3))))]),0,none⟩,⟨(some 5),(.build [(.str []),(.bool false),(.str []),(.int .i64 0)] [(0,(1,(.c (.str [60])))),(1,(1,(.c (.bool false)))),(2,(1,(.c (.str [108,116])))),(3,(1,(.c (.int .i64 3))))]),0,none⟩,⟨(some 6),(.build [(.str []),(.bool false),(.str []),(.int .i64 0)] [(0,(1,(.c (.str [60,61])))),(1,(1,(.c (.bool false)))),(2,(1,(.c (.str [108,101])))),(3,(1,(.c (.int .i64 3))))]),0,none⟩,⟨(some 7),(.build [(.str []),(.bool false),(.str []),(.int .i64 0)] [(0,(1,(.c (.str [62])))),(1,(1,(.c (.bool false)))),(2,(1,(.c (.str [103,116])))),(3,(1,(.c (.int .i64 3))))]),0,none⟩,⟨(some 8),(.build [(.str []),(.bool false),(.str []),(.int .i64 0)] [(0,(1,(.c (.str [62,61])))),(1,(1,(.c (.bool false)))),(2,(1,(.c (.str [103,101])))),(3,(1,(.c (.int .i64 3))))]),0,none⟩,⟨(some 9),(.build [(.str []),(.bool false),(.str []),(.int .i64 0)] [(0,(1,(.c (.str [43])))),(1,(1,(.c (.bool false)))),(2,(1,(.c (.str [97,100,100])))),(3,(1,(.c (.int .i64 4))))]),0,none⟩,⟨(some 10),(.build [(.str []),(.bool false),(.str []),(.int .i64 0)] [(0,(1,(.c (.str [45])))),(1,(1,(.c (.bool false)))),(2,(1,(.c (.str [115,117,98])))),(3,(1,(.c (.int .i64 4))))]),0,none⟩,⟨(some 11),(.build [(.str []),(.bool false),(.str []),(.int .i64 0)] [(0,(1,(.c (.str [42])))),(1,(1,(.c (.bool false)))),(2,(1,(.c (.str [109,117,108])))),(3,(1,(.c (.int .i64 5))))]),0,none⟩,⟨(some 12),(.build [(.str []),(.bool false),(.str []),(.int .i64 0)] [(0,(1,(.c (.str [47])))),(1,(1,(.c (.bool false)))),(2,(1,(.c (.str [100,105,118])))),(3,(1,(.c (.int .i64 5))))]),0,none⟩,⟨(some 13),(.build [(.str []),(.bool false),(.str []),(.int .i64 0)] [(0,(1,(.c (.str [37])))),(1,(1,(.c (.bool false)))),(2,(1,(.c (.str [109,111,100])))),(3,(1,(.c (.int .i64 5))))]),0,none⟩,⟨(some 14),(.build [(.str []),(.bool false),(.str []),(.int .i64 0)] [(0,(1,(.c (.str [45])))),(1,(1,(.c (.bool true)))),(2,(1,(.c (.str [110,101,103])))),(3,(1,(.c (.int .i64 6))))]),0,none⟩,⟨(some 15),(.build [(.str []),(.bool false),(.str []),(.int .i64 0)] [(0,(1,(.c (.str [33])))),(1,(1,(.c (.bool true)))),(2,(1,(.c (.str [110,111,116])))),(3,(1,(.c (.int .i64 6))))]),0,none⟩,⟨(some 16),(.build [(.str []),(.bool false),(.str []),(.int .i64 0),(.str []),(.bool false),(.str []),(.int .i64 0),(.str []),(.bool false),(.str []),(.int .i64 0),(.str []),(.bool false),(.str []),(.int .i64 0),(.str []),(.bool false),(.str []),(.int .i64 0),(.str []),(.bool false),(.str []),(.int .i64 0),(.str []),(.bool false),(.str []),(.int .i64 0),(.str []),(.bool false),(.str []),(.int .i64 0),(.str []),(.bool false),(.str []),(.int .i64 0),(.str []),(.bool false),(.str []),(.int .i64 0),(.str []),(.bool false),(.str []),(.int .i64 0),(.str []),(.bool false),(.str []),(.int .i64 0),(.str []),(.bool false),(.str []),(.int .i64 0),(.str []),(.bool false),(.str []),(.int .i64 0),(.str []),(.bool false),(.str []),(.int .i64 0)] [(0,(4,(.t 1))),(4,(4,(.t 2))),(8,(4,(.t 3))),(12,(4,(.t 4))),(16,(4,(.t 5))),(20,(4,(.t 6))),(24,(4,(.t 7))),(28,(4,(.t 8))),(32,(4,(.t 9))),(36,(4,(.t 10))),(40,(4,(.t 11))),(44,(4,(.t 12))),(48,(4,(.t 13))),(52,(4,(.t 14))),(56,(4,(.t 15)))]),0,none⟩,⟨none,(.store 60 (.t 0) (.t 16)),0,none⟩] none) .ret))
def Su:List IRes:=[(.cell true 60 0)]
abbrev b2c:Nat:=17
def Mr:ZC:=Xi []
theorem c2b{G:PV->Prop}(h:G ((.agg [(.str [(124:UInt8),(124:UInt8)]),(.bool false),(.str [(111:UInt8),(114:UInt8)]),(.int .i64 1),(.str [(38:UInt8),(38:UInt8)]),(.bool false),(.str [(97:UInt8),(110:UInt8),(100:UInt8)]),(.int .i64 2),(.str [(61:UInt8),(61:UInt8)]),(.bool false),(.str [(101:UInt8),(113:UInt8)]),(.int .i64 3),(.str [(33:UInt8),(61:UInt8)]),(.bool false),(.str [(110:UInt8),(101:UInt8)]),(.int .i64 3),(.str [(60:UInt8)]),(.bool false),(.str [(108:UInt8),(116:UInt8)]),(.int .i64 3),(.str [(60:UInt8),(61:UInt8)]),(.bool false),(.str [(108:UInt8),(101:UInt8)]),(.int .i64 3),(.str [(62:UInt8)]),(.bool false),(.str [(103:UInt8),(116:UInt8)]),(.int .i64 3),(.str [(62:UInt8),(61:UInt8)]),(.bool false),(.str [(103:UInt8),(101:UInt8)]),(.int .i64 3),(.str [(43:UInt8)]),(.bool false),(.str [(97:UInt8),(100:UInt8),(100:UInt8)]),(.int .i64 4),(.str [(45:UInt8)]),(.bool false),(.str [(115:UInt8),(117:UInt8),(98:UInt8)]),(.int .i64 4),(.str [(42:UInt8)]),(.bool false),(.str [(109:UInt8),(117:UInt8),(108:UInt8)]),(.int .i64 5),(.str [(47:UInt8)]),(.bool false),(.str [(100:UInt8),(105:UInt8),(118:UInt8)]),(.int .i64 5),(.str [(37:UInt8)]),(.bool false),(.str [(109:UInt8),(111:UInt8),(100:UInt8)]),(.int .i64 5),(.str [(45:UInt8)]),(.bool true),(.str [(110:UInt8),(101:UInt8),(103:UInt8)]),(.int .i64 6),(.str [(33:UInt8)]),(.bool true),(.str [(110:UInt8),(111:UInt8),(116:UInt8)]),(.int .i64 6)]))):Zc Mr 0 (Za Su G) Ti [] (Ye 17 []):=Zc.tp (.nil) h (by kernel_rfl)
def Zv:IC:=(.seq (.reg [⟨(some 2),(.mv (.c (.str []))),0,none⟩,⟨(some 3),(.mv (.c (.bool false))),0,none⟩,⟨(some 4),(.mv (.c (.bool false))),0,none⟩] none) (.seq (.seq (.reg [⟨(some 7),(.call (.c (.fn 87)) []),0,none⟩,⟨(some 8),(.mv (.c (.int .i64 0))),2,none⟩] none) (.block 0 (.loop [8,7,0] (.seq (.reg [⟨(some 9),(.bin .num .lss (.t 8) (.c (.int .i64 15))),0,none⟩] none) (.seq (.cond (.t 9) .skip (.exit 0)) (.seq (.block 1 (.seq (.reg [⟨(some 10),(.indexA 15 4 (.t 7) (.t 8)),0,none⟩,⟨(some 6),(.alloc (.agg [(.str []),(.bool false),(.str []),(.int .i64 0)])),0,none⟩,⟨none,(.store 4 (.t 6) (.t 10)),1,none⟩] none) (.seq (.reg [⟨(some 11),(.faddr 2 (.t 6)),0,none⟩,⟨(some 12),(.load false [.str] (.t 11)),0,none⟩,⟨(some 13),(.mv (.t 0)),0,none⟩,⟨(some 14),(.bin .num .eql (.t 12) (.t 13)),0,none⟩] none) (.cond (.t 14) (.seq (.reg [⟨(some 15),(.faddr 0 (.t 6)),0,none⟩,⟨(some 16),(.load false [.str] (.t 15)),0,none⟩,⟨(some 17),(.faddr 1 (.t 6)),0,none⟩,⟨(some 18),(.load false [.bool] (.t 17)),0,none⟩,⟨(some 2),(.mv (.t 16)),0,none⟩,⟨(some 3),(.mv (.t 18)),0,none⟩,⟨(some 4),(.mv (.c (.bool true))),0,none⟩] (some [[],[0],[],[2],[1,0],[3,4,0,1,2],[5,0,1,2,3,4]])) .ret) .skip)))) (.reg [⟨(some 19),(.bin .num .add (.t 8) (.c (.int .i64 1))),0,none⟩,⟨(some 8),(.mv (.t 19)),0,none⟩] none))))))) (.seq (.reg [⟨(some 2),(.mv (.c (.str []))),0,none⟩,⟨(some 3),(.mv (.c (.bool false))),0,none⟩,⟨(some 4),(.mv (.c (.bool false))),0,none⟩] none) .ret)))
def Zu:List IRes:=[(.tmp 2),(.tmp 3),(.tmp 4)]
abbrev b5i:Nat:=20
def ZA:ZC:=Xi [(87,.pure Gw GY)]
theorem c1k{G:PV->Prop}(s:List UInt8)(h:At ZA 0 (Za Zu G) Zv 0 20 [(0,(.pv (.str s))),(7,(.pv Zz)),(8,(.pv (.int .i64 0)))] []):Zc ZA 0 (Za Zu G) Zv [] (Ye 20 [.str s]):=Zc.tp (.lit (.keep (.nil))) h (by kernel_rfl)
theorem a9o{G:PV->Prop}(s:List UInt8)(h:if (OpR.n (OpR.mk [(124:UInt8),(124:UInt8)] false [(111:UInt8),(114:UInt8)] 1)==s)=true then G ((.tup [(.str (OpR.s (OpR.mk [(124:UInt8),(124:UInt8)] false [(111:UInt8),(114:UInt8)] 1))),(.bool false),(.bool true)]))else(At ZA 0 (Za Zu G) Zv 0 20 [(0,(.pv (.str s))),(7,(.pv Zz)),(8,(.pv (.int .i64 1)))] [])):At ZA 0 (Za Zu G) Zv 0 20 [(0,.pv (.str s)),(7,.pv Zz),(8,.pv (.int .i64 0))] []:=At.tp (.lit (.lit (.lit (.lit (.ask (.nil) (.lit (.nil))))))) h (by kernel_rfl)
theorem a3v{G:PV->Prop}(s:List UInt8)(h:if (OpR.n (OpR.mk [(38:UInt8),(38:UInt8)] false [(97:UInt8),(110:UInt8),(100:UInt8)] 2)==s)=true then G ((.tup [(.str (OpR.s (OpR.mk [(38:UInt8),(38:UInt8)] false [(97:UInt8),(110:UInt8),(100:UInt8)] 2))),(.bool false),(.bool true)]))else(At ZA 0 (Za Zu G) Zv 0 20 [(0,(.pv (.str s))),(7,(.pv Zz)),(8,(.pv (.int .i64 2)))] [])):At ZA 0 (Za Zu G) Zv 0 20 [(0,.pv (.str s)),(7,.pv Zz),(8,.pv (.int .i64 1))] []:=At.tp (.lit (.lit (.lit (.lit (.ask (.nil) (.lit (.nil))))))) h (by kernel_rfl)
theorem b0p{G:PV->Prop}(s:List UInt8)(h:if (OpR.n (OpR.mk [(61:UInt8),(61:UInt8)] false [(101:UInt8),(113:UInt8)] 3)==s)=true then G ((.tup [(.str (OpR.s (OpR.mk [(61:UInt8),(61:UInt8)] false [(101:UInt8),(113:UInt8)] 3))),(.bool false),(.bool true)]))else(At ZA 0 (Za Zu G) Zv 0 20 [(0,(.pv (.str s))),(7,(.pv Zz)),(8,(.pv (.int .i64 3)))] [])):At ZA 0 (Za Zu G) Zv 0 20 [(0,.pv (.str s)),(7,.pv Zz),(8,.pv (.int .i64 2))] []:=At.tp (.lit (.lit (.lit (.lit (.ask (.nil) (.lit (.nil))))))) h (by kernel_rfl)
theorem a4z{G:PV->Prop}(s:List UInt8)(h:if (OpR.n (OpR.mk [(33:UInt8),(61:UInt8)] false [(110:UInt8),(101:UInt8)] 3)==s)=true then G ((.tup [(.str (OpR.s (OpR.mk [(33:UInt8),(61:UInt8)] false [(110:UInt8),(101:UInt8)] 3))),(.bool false),(.bool true)]))else(At ZA 0 (Za Zu G) Zv 0 20 [(0,(.pv (.str s))),(7,(.pv Zz)),(8,(.pv (.int .i64 4)))] [])):At ZA 0 (Za Zu G) Zv 0 20 [(0,.pv (.str s)),(7,.pv Zz),(8,.pv (.int .i64 3))] []:=At.tp (.lit (.lit (.lit (.lit (.ask (.nil) (.lit (.nil))))))) h (by kernel_rfl)
theorem a8m{G:PV->Prop}(s:List UInt8)(h:if (OpR.n (OpR.mk [(60:UInt8)] false [(108:UInt8),(116:UInt8)] 3)==s)=true then G ((.tup [(.str (OpR.s (OpR.mk [(60:UInt8)] false [(108:UInt8),(116:UInt8)] 3))),(.bool false),(.bool true)]))else(At ZA 0 (Za Zu G) Zv 0 20 [(0,(.pv (.str s))),(7,(.pv Zz)),(8,(.pv (.int .i64 5)))] [])):At ZA 0 (Za Zu G) Zv 0 20 [(0,.pv (.str s)),(7,.pv Zz),(8,.pv (.int .i64 4))] []:=At.tp (.lit (.lit (.lit (.lit (.ask (.nil) (.lit (.nil))))))) h (by kernel_rfl)
theorem a6a{G:PV->Prop}(s:List UInt8)(h:if (OpR.n (OpR.mk [(60:UInt8),(61:UInt8)] false [(108:UInt8),(101:UInt8)] 3)==s)=true then G ((.tup [(.str (OpR.s (OpR.mk [(60:UInt8),(61:UInt8)] false [(108:UInt8),(101:UInt8)] 3))),(.bool false),(.bool true)]))else(At ZA 0 (Za Zu G) Zv 0 20 [(0,(.pv (.str s))),(7,(.pv Zz)),(8,(.pv (.int .i64 6)))] [])):At ZA 0 (Za Zu G) Zv 0 20 [(0,.pv (.str s)),(7,.pv Zz),(8,.pv (.int .i64 5))] []:=At.tp (.lit (.lit (.lit (.lit (.ask (.nil) (.lit (.nil))))))) h (by kernel_rfl)
theorem a3h{G:PV->Prop}(s:List UInt8)(h:if (OpR.n (OpR.mk [(62:UInt8)] false [(103:UInt8),(116:UInt8)] 3)==s)=true then G ((.tup [(.str (OpR.s (OpR.mk [(62:UInt8)] false [(103:UInt8),(116:UInt8)] 3))),(.bool false),(.bool true)]))else(At ZA 0 (Za Zu G) Zv 0 20 [(0,(.pv (.str s))),(7,(.pv Zz)),(8,(.pv (.int .i64 7)))] [])):At ZA 0 (Za Zu G) Zv 0 20 [(0,.pv (.str s)),(7,.pv Zz),(8,.pv (.int .i64 6))] []:=At.tp (.lit (.lit (.lit (.lit (.ask (.nil) (.lit (.nil))))))) h (by kernel_rfl)
theorem a6n{G:PV->Prop}(s:List UInt8)(h:if (OpR.n (OpR.mk [(62:UInt8),(61:UInt8)] false [(103:UInt8),(101:UInt8)] 3)==s)=true then G ((.tup [(.str (OpR.s (OpR.mk [(62:UInt8),(61:UInt8)] false [(103:UInt8),(101:UInt8)] 3))),(.bool false),(.bool true)]))else(At ZA 0 (Za Zu G) Zv 0 20 [(0,(.pv (.str s))),(7,(.pv Zz)),(8,(.pv (.int .i64 8)))] [])):At ZA 0 (Za Zu G) Zv 0 20 [(0,.pv (.str s)),(7,.pv Zz),(8,.pv (.int .i64 7))] []:=At.tp (.lit (.lit (.lit (.lit (.ask (.nil) (.lit (.nil))))))) h (by kernel_rfl)
theorem a6s{G:PV->Prop}(s:List UInt8)(h:if (OpR.n (OpR.mk [(43:UInt8)] false [(97:UInt8),(100:UInt8),(100:UInt8)] 4)==s)=true then G ((.tup [(.str (OpR.s (OpR.mk [(43:UInt8)] false [(97:UInt8),(100:UInt8),(100:UInt8)] 4))),(.bool false),(.bool true)]))else(At ZA 0 (Za Zu G) Zv 0 20 [(0,(.pv (.str s))),(7,(.pv Zz)),(8,(.pv (.int .i64 9)))] [])):At ZA 0 (Za Zu G) Zv 0 20 [(0,.pv (.str s)),(7,.pv Zz),(8,.pv (.int .i64 8))] []:=At.tp (.lit (.lit (.lit (.lit (.ask (.nil) (.lit (.nil))))))) h (by kernel_rfl)
theorem a5n{G:PV->Prop}(s:List UInt8)(h:if (OpR.n (OpR.mk [(45:UInt8)] false [(115:UInt8),(117:UInt8),(98:UInt8)] 4)==s)=true then G ((.tup [(.str (OpR.s (OpR.mk [(45:UInt8)] false [(115:UInt8),(117:UInt8),(98:UInt8)] 4))),(.bool false),(.bool true)]))else(At ZA 0 (Za Zu G) Zv 0 20 [(0,(.pv (.str s))),(7,(.pv Zz)),(8,(.pv (.int .i64 10)))] [])):At ZA 0 (Za Zu G) Zv 0 20 [(0,.pv (.str s)),(7,.pv Zz),(8,.pv (.int .i64 9))] []:=At.tp (.lit (.lit (.lit (.lit (.ask (.nil) (.lit (.nil))))))) h (by kernel_rfl)
theorem b0z{G:PV->Prop}(s:List UInt8)(h:if (OpR.n (OpR.mk [(42:UInt8)] false [(109:UInt8),(117:UInt8),(108:UInt8)] 5)==s)=true then G ((.tup [(.str (OpR.s (OpR.mk [(42:UInt8)] false [(109:UInt8),(117:UInt8),(108:UInt8)] 5))),(.bool false),(.bool true)]))else(At ZA 0 (Za Zu G) Zv 0 20 [(0,(.pv (.str s))),(7,(.pv Zz)),(8,(.pv (.int .i64 11)))] [])):At ZA 0 (Za Zu G) Zv 0 20 [(0,.pv (.str s)),(7,.pv Zz),(8,.pv (.int .i64 10))] []:=At.tp (.lit (.lit (.lit (.lit (.ask (.nil) (.lit (.nil))))))) h (by kernel_rfl)
theorem a6b{G:PV->Prop}(s:List UInt8)(h:if (OpR.n (OpR.mk [(47:UInt8)] false [(100:UInt8),(105:UInt8),(118:UInt8)] 5)==s)=true then G ((.tup [(.str (OpR.s (OpR.mk [(47:UInt8)] false [(100:UInt8),(105:UInt8),(118:UInt8)] 5))),(.bool false),(.bool true)]))else(At ZA 0 (Za Zu G) Zv 0 20 [(0,(.pv (.str s))),(7,(.pv Zz)),(8,(.pv (.int .i64 12)))] [])):At ZA 0 (Za Zu G) Zv 0 20 [(0,.pv (.str s)),(7,.pv Zz),(8,.pv (.int .i64 11))] []:=At.tp (.lit (.lit (.lit (.lit (.ask (.nil) (.lit (.nil))))))) h (by kernel_rfl)
theorem a4h{G:PV->Prop}(s:List UInt8)(h:if (OpR.n (OpR.mk [(37:UInt8)] false [(109:UInt8),(111:UInt8),(100:UInt8)] 5)==s)=true then G ((.tup [(.str (OpR.s (OpR.mk [(37:UInt8)] false [(109:UInt8),(111:UInt8),(100:UInt8)] 5))),(.bool false),(.bool true)]))else(At ZA 0 (Za Zu G) Zv 0 20 [(0,(.pv (.str s))),(7,(.pv Zz)),(8,(.pv (.int .i64 13)))] [])):At ZA 0 (Za Zu G) Zv 0 20 [(0,.pv (.str s)),(7,.pv Zz),(8,.pv (.int .i64 12))] []:=At.tp (.lit (.lit (.lit (.lit (.ask (.nil) (.lit (.nil))))))) h (by kernel_rfl)
theorem a6v{G:PV->Prop}(s:List UInt8)(h:if (OpR.n (OpR.mk [(45:UInt8)] true [(110:UInt8),(101:UInt8),(103:UInt8)] 6)==s)=true then G ((.tup [(.str (OpR.s (OpR.mk [(45:UInt8)] true [(110:UInt8),(101:UInt8),(103:UInt8)] 6))),(.bool true),(.bool true)]))else(At ZA 0 (Za Zu G) Zv 0 20 [(0,(.pv (.str s))),(7,(.pv Zz)),(8,(.pv (.int .i64 14)))] [])):At ZA 0 (Za Zu G) Zv 0 20 [(0,.pv (.str s)),(7,.pv Zz),(8,.pv (.int .i64 13))] []:=At.tp (.lit (.lit (.lit (.lit (.ask (.nil) (.lit (.nil))))))) h (by kernel_rfl)
theorem a5d{G:PV->Prop}(s:List UInt8)(h:if (OpR.n (OpR.mk [(33:UInt8)] true [(110:UInt8),(111:UInt8),(116:UInt8)] 6)==s)=true then G ((.tup [(.str (OpR.s (OpR.mk [(33:UInt8)] true [(110:UInt8),(111:UInt8),(116:UInt8)] 6))),(.bool true),(.bool true)]))else(At ZA 0 (Za Zu G) Zv 0 20 [(0,(.pv (.str s))),(7,(.pv Zz)),(8,(.pv (.int .i64 15)))] [])):At ZA 0 (Za Zu G) Zv 0 20 [(0,.pv (.str s)),(7,.pv Zz),(8,.pv (.int .i64 14))] []:=At.tp (.lit (.lit (.lit (.lit (.ask (.nil) (.lit (.nil))))))) h (by kernel_rfl)
theorem a4l{G:PV->Prop}(s:List UInt8)(h:G ((.tup [(.str []),(.bool false),(.bool false)]))):At ZA 0 (Za Zu G) Zv 0 20 [(0,.pv (.str s)),(7,.pv Zz),(8,.pv (.int .i64 15))] []:=At.tp (.lit (.lit (.nil))) h (by kernel_rfl)
def Zm:IC:=(.seq (.reg [⟨(some 4),(.mv (.c (.str []))),0,none⟩,⟨(some 5),(.mv (.c (.int .i64 0))),0,none⟩,⟨(some 6),(.mv (.c (.bool false))),0,none⟩] none) (.seq (.seq (.reg [⟨(some 9),(.call (.c (.fn 87)) []),0,none⟩,⟨(some 10),(.mv (.c (.int .i64 0))),2,none⟩] none) (.block 0 (.loop [10,9,0,1] (.seq (.reg [⟨(some 11),(.bin .num .lss (.t 10) (.c (.int .i64 15))),0,none⟩] none) (.seq (.cond (.t 11) .skip (.exit 0)) (.seq (.block 1 (.seq (.reg [⟨(some 12),(.indexA 15 4 (.t 9) (.t 10)),0,none⟩,⟨(some 8),(.alloc (.agg [(.str []),(.bool false),(.str []),(.int .i64 0)])),0,none⟩,⟨none,(.store 4 (.t 8) (.t 12)),1,none⟩] none) (.seq (.reg [⟨(some 13),(.faddr 0 (.t 8)),0,none⟩,⟨(some 14),(.load false [.str] (.t 13)),0,none⟩,⟨(some 15),(.mv (.t 0)),0,none⟩,⟨(some 16),(.bin .num .eql (.t 14) (.t 15)),0,none⟩,⟨(some 17),(.mv (.t 16)),0,none⟩,⟨(some 18),(.faddr 1 (.t 8)),0,(some (17,true))⟩,⟨(some 19),(.load false [.bool] (.t 18)),0,(some (17,true))⟩,⟨(some 20),(.mv (.t 1)),0,(some (17,true))⟩,⟨(some 21),(.bin .bool .eql (.t 19) (.t 20)),0,(some (17,true))⟩,⟨(some 22),(.pick (.t 17) (.t 21) (.c (.bool false))),0,none⟩] none) (.cond (.t 22) (.seq (.reg [⟨(some 23),(.faddr 2 (.t 8)),0,none⟩,⟨(some 24),(.load false [.str] (.t 23)),0,none⟩,⟨(some 25),(.faddr 3 (.t 8)),0,none⟩,⟨(some 26),(.load false [(.int .i64)] (.t 25)),0,none⟩,⟨(some 4),(.mv (.t 24)),0,none⟩,⟨(some 5),(.mv (.t 26)),0,none⟩,⟨(some 6),(.mv (.c (.bool true))),0,none⟩] (some [[],[0],[],[2],[1,0],[3,4,0,1,2],[5,0,1,2,3,4]])) .ret) .skip)))) (.reg [⟨(some 27),(.bin .num .add (.t 10) (.c (.int .i64 1))),0,none⟩,⟨(some 10),(.mv (.t 27)),0,none⟩] none))))))) (.seq (.reg [⟨(some 4),(.mv (.c (.str []))),0,none⟩,⟨(some 5),(.mv (.c (.int .i64 0))),0,none⟩,⟨(some 6),(.mv (.c (.bool false))),0,none⟩] none) .ret)))
def Zl:List IRes:=[(.tmp 4),(.tmp 5),(.tmp 6)]
abbrev b1o:Nat:=28
def Zq:ZC:=Xi [(87,.pure Gw GY)]
theorem b8t{G:PV->Prop}(s:List UInt8)(u:Bool)(h:At Zq 0 (Za Zl G) Zm 0 28 [(0,(.pv (.str s))),(1,(.pv (.bool u))),(9,(.pv Zz)),(10,(.pv (.int .i64 0)))] []):Zc Zq 0 (Za Zl G) Zm [] (Ye 28 [.str s,.bool u]):=Zc.tp (.lit (.keep (.nil))) h (by kernel_rfl)
theorem b0l{G:PV->Prop}(s:List UInt8)(u:Bool)(h:if (OpR.s (OpR.mk [(124:UInt8),(124:UInt8)] false [(111:UInt8),(114:UInt8)] 1)==s)=true then if (OpR.u (OpR.mk [(124:UInt8),(124:UInt8)] false [(111:UInt8),(114:UInt8)] 1)==u)=true then G ((.tup [(.str (OpR.n (OpR.mk [(124:UInt8),(124:UInt8)] false [(111:UInt8),(114:UInt8)] 1))),(.int .i64 1),(.bool true)]))else(At Zq 0 (Za Zl G) Zm 0 28 [(0,(.pv (.str s))),(1,(.pv (.bool u))),(9,(.pv Zz)),(10,(.pv (.int .i64 1)))] [])else(At Zq 0 (Za Zl G) Zm 0 28 [(0,(.pv (.str s))),(1,(.pv (.bool u))),(9,(.pv Zz)),(10,(.pv (.int .i64 1)))] [])):At Zq 0 (Za Zl G) Zm 0 28 [(0,.pv (.str s)),(1,.pv (.bool u)),(9,.pv Zz),(10,.pv (.int .i64 0))] []:=At.tp (.lit (.lit (.lit (.lit (.ask (.lit (.lit (.lit (.lit (.lit (.ask (.nil) (.lit (.nil)))))))) (.lit (.lit (.lit (.lit (.lit (.lit (.nil)))))))))))) h (by kernel_rfl)
theorem a6o{G:PV->Prop}(s:List UInt8)(u:Bool)(h:if (OpR.s (OpR.mk [(38:UInt8),(38:UInt8)] false [(97:UInt8),(110:UInt8),(100:UInt8)] 2)==s)=true then if (OpR.u (OpR.mk [(38:UInt8),(38:UInt8)] false [(97:UInt8),(110:UInt8),(100:UInt8)] 2)==u)=true then G ((.tup [(.str (OpR.n (OpR.mk [(38:UInt8),(38:UInt8)] false [(97:UInt8),(110:UInt8),(100:UInt8)] 2))),(.int .i64 2),(.bool true)]))else(At Zq 0 (Za Zl G) Zm 0 28 [(0,(.pv (.str s))),(1,(.pv (.bool u))),(9,(.pv Zz)),(10,(.pv (.int .i64 2)))] [])else(At Zq 0 (Za Zl G) Zm 0 28 [(0,(.pv (.str s))),(1,(.pv (.bool u))),(9,(.pv Zz)),(10,(.pv (.int .i64 2)))] [])):At Zq 0 (Za Zl G) Zm 0 28 [(0,.pv (.str s)),(1,.pv (.bool u)),(9,.pv Zz),(10,.pv (.int .i64 1))] []:=At.tp (.lit (.lit (.lit (.lit (.ask (.lit (.lit (.lit (.lit (.lit (.ask (.nil) (.lit (.nil)))))))) (.lit (.lit (.lit (.lit (.lit (.lit (.nil)))))))))))) h (by kernel_rfl)
theorem a8r{G:PV->Prop}(s:List UInt8)(u:Bool)(h:if (OpR.s (OpR.mk [(61:UInt8),(61:UInt8)] false [(101:UInt8),(113:UInt8)] 3)==s)=true then if (OpR.u (OpR.mk [(61:UInt8),(61:UInt8)] false [(101:UInt8),(113:UInt8)] 3)==u)=true then G ((.tup [(.str (OpR.n (OpR.mk [(61:UInt8),(61:UInt8)] false [(101:UInt8),(113:UInt8)] 3))),(.int .i64 3),(.bool true)]))else(At Zq 0 (Za Zl G) Zm 0 28 [(0,(.pv (.str s))),(1,(.pv (.bool u))),(9,(.pv Zz)),(10,(.pv (.int .i64 3)))] [])else(At Zq 0 (Za Zl G) Zm 0 28 [(0,(.pv (.str s))),(1,(.pv (.bool u))),(9,(.pv Zz)),(10,(.pv (.int .i64 3)))] [])):At Zq 0 (Za Zl G) Zm 0 28 [(0,.pv (.str s)),(1,.pv (.bool u)),(9,.pv Zz),(10,.pv (.int .i64 2))] []:=At.tp (.lit (.lit (.lit (.lit (.ask (.lit (.lit (.lit (.lit (.lit (.ask (.nil) (.lit (.nil)))))))) (.lit (.lit (.lit (.lit (.lit (.lit (.nil)))))))))))) h (by kernel_rfl)
theorem a7k{G:PV->Prop}(s:List UInt8)(u:Bool)(h:if (OpR.s (OpR.mk [(33:UInt8),(61:UInt8)] false [(110:UInt8),(101:UInt8)] 3)==s)=true then if (OpR.u (OpR.mk [(33:UInt8),(61:UInt8)] false [(110:UInt8),(101:UInt8)] 3)==u)=true then G ((.tup [(.str (OpR.n (OpR.mk [(33:UInt8),(61:UInt8)] false [(110:UInt8),(101:UInt8)] 3))),(.int .i64 3),(.bool true)]))else(At Zq 0 (Za Zl G) Zm 0 28 [(0,(.pv (.str s))),(1,(.pv (.bool u))),(9,(.pv Zz)),(10,(.pv (.int .i64 4)))] [])else(At Zq 0 (Za Zl G) Zm 0 28 [(0,(.pv (.str s))),(1,(.pv (.bool u))),(9,(.pv Zz)),(10,(.pv (.int .i64 4)))] [])):At Zq 0 (Za Zl G) Zm 0 28 [(0,.pv (.str s)),(1,.pv (.bool u)),(9,.pv Zz),(10,.pv (.int .i64 3))] []:=At.tp (.lit (.lit (.lit (.lit (.ask (.lit (.lit (.lit (.lit (.lit (.ask (.nil) (.lit (.nil)))))))) (.lit (.lit (.lit (.lit (.lit (.lit (.nil)))))))))))) h (by kernel_rfl)
theorem a4k{G:PV->Prop}(s:List UInt8)(u:Bool)(h:if (OpR.s (OpR.mk [(60:UInt8)] false [(108:UInt8),(116:UInt8)] 3)==s)=true then if (OpR.u (OpR.mk [(60:UInt8)] false [(108:UInt8),(116:UInt8)] 3)==u)=true then G ((.tup [(.str (OpR.n (OpR.mk [(60:UInt8)] false [(108:UInt8),(116:UInt8)] 3))),(.int .i64 3),(.bool true)]))else(At Zq 0 (Za Zl G) Zm 0 28 [(0,(.pv (.str s))),(1,(.pv (.bool u))),(9,(.pv Zz)),(10,(.pv (.int .i64 5)))] [])else(At Zq 0 (Za Zl G) Zm 0 28 [(0,(.pv (.str s))),(1,(.pv (.bool u))),(9,(.pv Zz)),(10,(.pv (.int .i64 5)))] [])):At Zq 0 (Za Zl G) Zm 0 28 [(0,.pv (.str s)),(1,.pv (.bool u)),(9,.pv Zz),(10,.pv (.int .i64 4))] []:=At.tp (.lit (.lit (.lit (.lit (.ask (.lit (.lit (.lit (.lit (.lit (.ask (.nil) (.lit (.nil)))))))) (.lit (.lit (.lit (.lit (.lit (.lit (.nil)))))))))))) h (by kernel_rfl)
theorem b0r{G:PV->Prop}(s:List UInt8)(u:Bool)(h:if (OpR.s (OpR.mk [(60:UInt8),(61:UInt8)] false [(108:UInt8),(101:UInt8)] 3)==s)=true then if (OpR.u (OpR.mk [(60:UInt8),(61:UInt8)] false [(108:UInt8),(101:UInt8)] 3)==u)=true then G ((.tup [(.str (OpR.n (OpR.mk [(60:UInt8),(61:UInt8)] false [(108:UInt8),(101:UInt8)] 3))),(.int .i64 3),(.bool true)]))else(At Zq 0 (Za Zl G) Zm 0 28 [(0,(.pv (.str s))),(1,(.pv (.bool u))),(9,(.pv Zz)),(10,(.pv (.int .i64 6)))] [])else(At Zq 0 (Za Zl G) Zm 0 28 [(0,(.pv (.str s))),(1,(.pv (.bool u))),(9,(.pv Zz)),(10,(.pv (.int .i64 6)))] [])):At Zq 0 (Za Zl G) Zm 0 28 [(0,.pv (.str s)),(1,.pv (.bool u)),(9,.pv Zz),(10,.pv (.int .i64 5))] []:=At.tp (.lit (.lit (.lit (.lit (.ask (.lit (.lit (.lit (.lit (.lit (.ask (.nil) (.lit (.nil)))))))) (.lit (.lit (.lit (.lit (.lit (.lit (.nil)))))))))))) h (by kernel_rfl)
theorem a9w{G:PV->Prop}(s:List UInt8)(u:Bool)(h:if (OpR.s (OpR.mk [(62:UInt8)] false [(103:UInt8),(116:UInt8)] 3)==s)=true then if (OpR.u (OpR.mk [(62:UInt8)] false [(103:UInt8),(116:UInt8)] 3)==u)=true then G ((.tup [(.str (OpR.n (OpR.mk [(62:UInt8)] false [(103:UInt8),(116:UInt8)] 3))),(.int .i64 3),(.bool true)]))else(At Zq 0 (Za Zl G) Zm 0 28 [(0,(.pv (.str s))),(1,(.pv (.bool u))),(9,(.pv Zz)),(10,(.pv (.int .i64 7)))] [])else(At Zq 0 (Za Zl G) Zm 0 28 [(0,(.pv (.str s))),(1,(.pv (.bool u))),(9,(.pv Zz)),(10,(.pv (.int .i64 7)))] [])):At Zq 0 (Za Zl G) Zm 0 28 [(0,.pv (.str s)),(1,.pv (.bool u)),(9,.pv Zz),(10,.pv (.int .i64 6))] []:=At.tp (.lit (.lit (.lit (.lit (.ask (.lit (.lit (.lit (.lit (.lit (.ask (.nil) (.lit (.nil)))))))) (.lit (.lit (.lit (.lit (.lit (.lit (.nil)))))))))))) h (by kernel_rfl)
theorem a2y{G:PV->Prop}(s:List UInt8)(u:Bool)(h:if (OpR.s (OpR.mk [(62:UInt8),(61:UInt8)] false [(103:UInt8),(101:UInt8)] 3)==s)=true then if (OpR.u (OpR.mk [(62:UInt8),(61:UInt8)] false [(103:UInt8),(101:UInt8)] 3)==u)=true then G ((.tup [(.str (OpR.n (OpR.mk [(62:UInt8),(61:UInt8)] false [(103:UInt8),(101:UInt8)] 3))),(.int .i64 3),(.bool true)]))else(At Zq 0 (Za Zl G) Zm 0 28 [(0,(.pv (.str s))),(1,(.pv (.bool u))),(9,(.pv Zz)),(10,(.pv (.int .i64 8)))] [])else(At Zq 0 (Za Zl G) Zm 0 28 [(0,(.pv (.str s))),(1,(.pv (.bool u))),(9,(.pv Zz)),(10,(.pv (.int .i64 8)))] [])):At Zq 0 (Za Zl G) Zm 0 28 [(0,.pv (.str s)),(1,.pv (.bool u)),(9,.pv Zz),(10,.pv (.int .i64 7))] []:=At.tp (.lit (.lit (.lit (.lit (.ask (.lit (.lit (.lit (.lit (.lit (.ask (.nil) (.lit (.nil)))))))) (.lit (.lit (.lit (.lit (.lit (.lit (.nil)))))))))))) h (by kernel_rfl)
theorem a8l{G:PV->Prop}(s:List UInt8)(u:Bool)(h:if (OpR.s (OpR.mk [(43:UInt8)] false [(97:UInt8),(100:UInt8),(100:UInt8)] 4)==s)=true then if (OpR.u (OpR.mk [(43:UInt8)] false [(97:UInt8),(100:UInt8),(100:UInt8)] 4)==u)=true then G ((.tup [(.str (OpR.n (OpR.mk [(43:UInt8)] false [(97:UInt8),(100:UInt8),(100:UInt8)] 4))),(.int .i64 4),(.bool true)]))else(At Zq 0 (Za Zl G) Zm 0 28 [(0,(.pv (.str s))),(1,(.pv (.bool u))),(9,(.pv Zz)),(10,(.pv (.int .i64 9)))] [])else(At Zq 0 (Za Zl G) Zm 0 28 [(0,(.pv (.str s))),(1,(.pv (.bool u))),(9,(.pv Zz)),(10,(.pv (.int .i64 9)))] [])):At Zq 0 (Za Zl G) Zm 0 28 [(0,.pv (.str s)),(1,.pv (.bool u)),(9,.pv Zz),(10,.pv (.int .i64 8))] []:=At.tp (.lit (.lit (.lit (.lit (.ask (.lit (.lit (.lit (.lit (.lit (.ask (.nil) (.lit (.nil)))))))) (.lit (.lit (.lit (.lit (.lit (.lit (.nil)))))))))))) h (by kernel_rfl)
theorem a5m{G:PV->Prop}(s:List UInt8)(u:Bool)(h:if (OpR.s (OpR.mk [(45:UInt8)] false [(115:UInt8),(117:UInt8),(98:UInt8)] 4)==s)=true then if (OpR.u (OpR.mk [(45:UInt8)] false [(115:UInt8),(117:UInt8),(98:UInt8)] 4)==u)=true then G ((.tup [(.str (OpR.n (OpR.mk [(45:UInt8)] false [(115:UInt8),(117:UInt8),(98:UInt8)] 4))),(.int .i64 4),(.bool true)]))else(At Zq 0 (Za Zl G) Zm 0 28 [(0,(.pv (.str s))),(1,(.pv (.bool u))),(9,(.pv Zz)),(10,(.pv (.int .i64 10)))] [])else(At Zq 0 (Za Zl G) Zm 0 28 [(0,(.pv (.str s))),(1,(.pv (.bool u))),(9,(.pv Zz)),(10,(.pv (.int .i64 10)))] [])):At Zq 0 (Za Zl G) Zm 0 28 [(0,.pv (.str s)),(1,.pv (.bool u)),(9,.pv Zz),(10,.pv (.int .i64 9))] []:=At.tp (.lit (.lit (.lit (.lit (.ask (.lit (.lit (.lit (.lit (.lit (.ask (.nil) (.lit (.nil)))))))) (.lit (.lit (.lit (.lit (.lit (.lit (.nil)))))))))))) h (by kernel_rfl)
theorem a2f{G:PV->Prop}(s:List UInt8)(u:Bool)(h:if (OpR.s (OpR.mk [(42:UInt8)] false [(109:UInt8),(117:UInt8),(108:UInt8)] 5)==s)=true then if (OpR.u (OpR.mk [(42:UInt8)] false [(109:UInt8),(117:UInt8),(108:UInt8)] 5)==u)=true then G ((.tup [(.str (OpR.n (OpR.mk [(42:UInt8)] false [(109:UInt8),(117:UInt8),(108:UInt8)] 5))),(.int .i64 5),(.bool true)]))else(At Zq 0 (Za Zl G) Zm 0 28 [(0,(.pv (.str s))),(1,(.pv (.bool u))),(9,(.pv Zz)),(10,(.pv (.int .i64 11)))] [])else(At Zq 0 (Za Zl G) Zm 0 28 [(0,(.pv (.str s))),(1,(.pv (.bool u))),(9,(.pv Zz)),(10,(.pv (.int .i64 11)))] [])):At Zq 0 (Za Zl G) Zm 0 28 [(0,.pv (.str s)),(1,.pv (.bool u)),(9,.pv Zz),(10,.pv (.int .i64 10))] []:=At.tp (.lit (.lit (.lit (.lit (.ask (.lit (.lit (.lit (.lit (.lit (.ask (.nil) (.lit (.nil)))))))) (.lit (.lit (.lit (.lit (.lit (.lit (.nil)))))))))))) h (by kernel_rfl)
theorem b1a{G:PV->Prop}(s:List UInt8)(u:Bool)(h:if (OpR.s (OpR.mk [(47:UInt8)] false [(100:UInt8),(105:UInt8),(118:UInt8)] 5)==s)=true then if (OpR.u (OpR.mk [(47:UInt8)] false [(100:UInt8),(105:UInt8),(118:UInt8)] 5)==u)=true then G ((.tup [(.str (OpR.n (OpR.mk [(47:UInt8)] false [(100:UInt8),(105:UInt8),(118:UInt8)] 5))),(.int .i64 5),(.bool true)]))else(At Zq 0 (Za Zl G) Zm 0 28 [(0,(.pv (.str s))),(1,(.pv (.bool u))),(9,(.pv Zz)),(10,(.pv (.int .i64 12)))] [])else(At Zq 0 (Za Zl G) Zm 0 28 [(0,(.pv (.str s))),(1,(.pv (.bool u))),(9,(.pv Zz)),(10,(.pv (.int .i64 12)))] [])):At Zq 0 (Za Zl G) Zm 0 28 [(0,.pv (.str s)),(1,.pv (.bool u)),(9,.pv Zz),(10,.pv (.int .i64 11))] []:=At.tp (.lit (.lit (.lit (.lit (.ask (.lit (.lit (.lit (.lit (.lit (.ask (.nil) (.lit (.nil)))))))) (.lit (.lit (.lit (.lit (.lit (.lit (.nil)))))))))))) h (by kernel_rfl)
theorem a4f{G:PV->Prop}(s:List UInt8)(u:Bool)(h:if (OpR.s (OpR.mk [(37:UInt8)] false [(109:UInt8),(111:UInt8),(100:UInt8)] 5)==s)=true then if (OpR.u (OpR.mk [(37:UInt8)] false [(109:UInt8),(111:UInt8),(100:UInt8)] 5)==u)=true then G ((.tup [(.str (OpR.n (OpR.mk [(37:UInt8)] false [(109:UInt8),(111:UInt8),(100:UInt8)] 5))),(.int .i64 5),(.bool true)]))else(At Zq 0 (Za Zl G) Zm 0 28 [(0,(.pv (.str s))),(1,(.pv (.bool u))),(9,(.pv Zz)),(10,(.pv (.int .i64 13)))] [])else(At Zq 0 (Za Zl G) Zm 0 28 [(0,(.pv (.str s))),(1,(.pv (.bool u))),(9,(.pv Zz)),(10,(.pv (.int .i64 13)))] [])):At Zq 0 (Za Zl G) Zm 0 28 [(0,.pv (.str s)),(1,.pv (.bool u)),(9,.pv Zz),(10,.pv (.int .i64 12))] []:=At.tp (.lit (.lit (.lit (.lit (.ask (.lit (.lit (.lit (.lit (.lit (.ask (.nil) (.lit (.nil)))))))) (.lit (.lit (.lit (.lit (.lit (.lit (.nil)))))))))))) h (by kernel_rfl)
theorem a4x{G:PV->Prop}(s:List UInt8)(u:Bool)(h:if (OpR.s (OpR.mk [(45:UInt8)] true [(110:UInt8),(101:UInt8),(103:UInt8)] 6)==s)=true then if (OpR.u (OpR.mk [(45:UInt8)] true [(110:UInt8),(101:UInt8),(103:UInt8)] 6)==u)=true then G ((.tup [(.str (OpR.n (OpR.mk [(45:UInt8)] true [(110:UInt8),(101:UInt8),(103:UInt8)] 6))),(.int .i64 6),(.bool true)]))else(At Zq 0 (Za Zl G) Zm 0 28 [(0,(.pv (.str s))),(1,(.pv (.bool u))),(9,(.pv Zz)),(10,(.pv (.int .i64 14)))] [])else(At Zq 0 (Za Zl G) Zm 0 28 [(0,(.pv (.str s))),(1,(.pv (.bool u))),(9,(.pv Zz)),(10,(.pv (.int .i64 14)))] [])):At Zq 0 (Za Zl G) Zm 0 28 [(0,.pv (.str s)),(1,.pv (.bool u)),(9,.pv Zz),(10,.pv (.int .i64 13))] []:=At.tp (.lit (.lit (.lit (.lit (.ask (.lit (.lit (.lit (.lit (.lit (.ask (.nil) (.lit (.nil)))))))) (.lit (.lit (.lit (.lit (.lit (.lit (.nil)))))))))))) h (by kernel_rfl)
theorem a5i{G:PV->Prop}(s:List UInt8)(u:Bool)(h:if (OpR.s (OpR.mk [(33:UInt8)] true [(110:UInt8),(111:UInt8),(116:UInt8)] 6)==s)=true then if (OpR.u (OpR.mk [(33:UInt8)] true [(110:UInt8),(111:UInt8),(116:UInt8)] 6)==u)=true then G ((.tup [(.str (OpR.n (OpR.mk [(33:UInt8)] true [(110:UInt8),(111:UInt8),(116:UInt8)] 6))),(.int .i64 6),(.bool true)]))else(At Zq 0 (Za Zl G) Zm 0 28 [(0,(.pv (.str s))),(1,(.pv (.bool u))),(9,(.pv Zz)),(10,(.pv (.int .i64 15)))] [])else(At Zq 0 (Za Zl G) Zm 0 28 [(0,(.pv (.str s))),(1,(.pv (.bool u))),(9,(.pv Zz)),(10,(.pv (.int .i64 15)))] [])):At Zq 0 (Za Zl G) Zm 0 28 [(0,.pv (.str s)),(1,.pv (.bool u)),(9,.pv Zz),(10,.pv (.int .i64 14))] []:=At.tp (.lit (.lit (.lit (.lit (.ask (.lit (.lit (.lit (.lit (.lit (.ask (.nil) (.lit (.nil)))))))) (.lit (.lit (.lit (.lit (.lit (.lit (.nil)))))))))))) h (by kernel_rfl)
theorem a7h{G:PV->Prop}(s:List UInt8)(u:Bool)(h:G ((.tup [(.str []),(.int .i64 0),(.bool false)]))):At Zq 0 (Za Zl G) Zm 0 28 [(0,.pv (.str s)),(1,.pv (.bool u)),(9,.pv Zz),(10,.pv (.int .i64 15))] []:=At.tp (.lit (.lit (.nil))) h (by kernel_rfl)
def Lx:IC:=(.seq (.reg [⟨(some 1),(.box 10 (.t 0)),0,none⟩,⟨(some 2),(.mv (.c (.str []))),1,none⟩,⟨(some 3),(.mv (.c (.int .i64 0))),1,none⟩] none) (.seq (.reg [⟨(some 9),(.faddr 2 (.t 1)),0,none⟩,⟨(some 10),(.load false [.str] (.t 9)),0,none⟩,⟨(some 11),(.call (.c (.fn 49)) [(.t 10)]),0,none⟩,⟨(some 8),(.mv (.t 11)),2,none⟩,⟨(some 12),(.extract (.t 8) 0),2,none⟩,⟨(some 13),(.extract (.t 8) 1),2,none⟩,⟨(some 14),(.extract (.t 8) 2),2,none⟩,⟨(some 4),(.mv (.t 12)),2,none⟩,⟨(some 5),(.mv (.t 13)),2,none⟩,⟨(some 6),(.mv (.t 14)),2,none⟩] none) (.seq (.reg [⟨(some 7),(.mv (.c (.int .i64 2))),0,none⟩] none) (.seq (.seq (.reg [⟨(some 15),(.mv (.t 5)),0,none⟩] none) (.cond (.t 15) (.reg [⟨(some 7),(.mv (.c (.int .i64 1))),0,none⟩] none) .skip)) (.seq (.seq (.reg [⟨(some 16),(.mv (.t 6)),0,none⟩,⟨(some 17),(.un .not (.t 16)),0,none⟩,⟨(some 18),(.mv (.t 17)),0,none⟩,⟨(some 19),(.faddr 0 (.t 1)),0,(some (18,false))⟩,⟨(some 20),(.load false [(.int .i64)] (.t 19)),0,(some (18,false))⟩,⟨(some 21),(.bin .num .neq (.t 20) (.c (.int .i64 6))),0,(some (18,false))⟩,⟨(some 22),(.pick (.t 18) (.c (.bool true)) (.t 21)),0,none⟩,⟨(some 23),(.mv (.t 22)),0,none⟩,⟨(some 24),(.faddr 9 (.t 1)),0,(some (23,false))⟩,⟨(some 25),(.load false [(.sl 10)] (.t 24)),0,(some (23,false))⟩,⟨(some 26),(.len 1 (.t 25)),0,(some (23,false))⟩,⟨(some 27),(.mv (.t 7)),0,(some (23,false))⟩,⟨(some 28),(.bin .num .neq (.t 26) (.t 27)),0,(some (23,false))⟩,⟨(some 29),(.pick (.t 23) (.c (.bool true)) (.t 28)),0,none⟩,⟨(some 30),(.mv (.t 29)),0,none⟩,⟨(some 31),(.faddr 7 (.t 1)),0,(some (30,false))⟩,⟨(some 32),(.load false [(.sl 2)] (.t 31)),0,(some (30,false))⟩,⟨(some 33),(.len 1 (.t 32)),0,(some (30,false))⟩,⟨(some 34),(.bin .num .gtr (.t 33) (.c (.int .i64 0))),0,(some (30,false))⟩,⟨(some 35),(.pick (.t 30) (.c (.bool true)) (.t 34)),0,none⟩,⟨(some 36),(.mv (.t 35)),0,none⟩,⟨(some 37),(.faddr 3 (.t 1)),0,(some (36,false))⟩,⟨(some 38),(.load false [(.int .i64)] (.t 37)),0,(some (36,false))⟩,⟨(some 39),(.bin .num .neq (.t 38) (.c (.int .i64 0))),0,(some (36,false))⟩,⟨(some 40),(.pick (.t 36) (.c (.bool true)) (.t 39)),0,none⟩,⟨(some 41),(.mv (.t 40)),0,none⟩,⟨(some 42),(.faddr 8 (.t 1)),0,(some (41,false))⟩,⟨(some 43),(.load false [(.sl 1)] (.t 42)),0,(some (41,false))⟩,⟨(some 44),(.len 1 (.t 43)),0,(some (41,false))⟩,⟨(some 45),(.bin .num .gtr (.t 44) (.c (.int .i64 0))),0,(some (41,false))⟩,⟨(some 46),(.pick (.t 41) (.c (.bool true)) (.t 45)),0,none⟩] none) (.cond (.t 46) (.seq (.reg [⟨(some 2),(.mv (.c (.str []))),0,none⟩,⟨(some 3),(.mv (.c (.int .i64 0))),0,none⟩] none) .ret) .skip)) (.seq (.reg [⟨(some 47),(.mv (.t 4)),0,none⟩,⟨(some 48),(.mv (.t 7)),0,none⟩,⟨(some 2),(.mv (.t 47)),0,none⟩,⟨(some 3),(.mv (.t 48)),0,none⟩] none) .ret))))))
def Sv:List IRes:=[(.tmp 2),(.tmp 3)]
abbrev b9j:Nat:=49
def FN:ZC:=Xi [(49,.pure (preT (fun _:Str×Unit=>true)) (Zf (fun x:Str×Unit=>NQ x.1)))]
theorem c2z{G:PV->Prop}(n:Nd)(ks:List Tm)(h : ∃ y0:R3 Str Bool Bool,AV.pv (Zf (fun(x:Str×Unit)=>NQ x.1) [(.str (Str.s (Nd.name n)))])=AV.pv (enc y0)∧(if (R3.b y0)=true then if (!R3.c y0)=true then G ((.tup [(.str []),(.int .i64 0)]))else(if (Nd.kind n != 6)=true then G ((.tup [(.str []),(.int .i64 0)]))else(if ((↑(List.length (List.map enc ks)):Int) != 1)=true then G ((.tup [(.str []),(.int .i64 0)]))else(if (decide ((↑(List.length (List.map enc (Nd.sizes n))):Int)>0))=true then G ((.tup [(.str []),(.int .i64 0)]))else(if (Nd.num n != 0)=true then G ((.tup [(.str []),(.int .i64 0)]))else(if (decide ((↑(List.length (List.map enc (Nd.ranks n))):Int)>0))=true then G ((.tup [(.str []),(.int .i64 0)]))else(G ((.tup [(.str (Str.s (R3.a y0))),(.int .i64 1)]))))))))else(if (!R3.c y0)=true then G ((.tup [(.str []),(.int .i64 0)]))else(if (Nd.kind n != 6)=true then G ((.tup [(.str []),(.int .i64 0)]))else(if ((↑(List.length (List.map enc ks)):Int) != 2)=true then G ((.tup [(.str []),(.int .i64 0)]))else(if (decide ((↑(List.length (List.map enc (Nd.sizes n))):Int)>0))=true then G ((.tup [(.str []),(.int .i64 0)]))else(if (Nd.num n != 0)=true then G ((.tup [(.str []),(.int .i64 0)]))else(if (decide ((↑(List.length (List.map enc (Nd.ranks n))):Int)>0))=true then G ((.tup [(.str []),(.int .i64 0)]))else(G ((.tup [(.str (Str.s (R3.a y0))),(.int .i64 2)]))))))))))):Zc FN 0 (Za Sv G) Lx [] (Ye 49 [.agg [enc n.kind,enc n.line,enc n.name,enc n.num,enc n.elem,enc n.dims,enc n.data,enc n.sizes,enc n.ranks,enc ks]]):=Zc.tp (.lit (.abs (R3 Str Bool Bool) (fun YY=>AV.pv (enc YY)) (.ask (.ask (.lit (.lit (.lit (.lit (.lit (.lit (.lit (.lit (.lit (.lit (.lit (.lit (.lit (.lit (.lit (.lit (.lit (.lit (.lit (.lit (.lit (.lit (.lit (.lit (.nil))))))))))))))))))))))))) (.lit (.lit (.lit (.lit (.ask (.lit (.lit (.lit (.lit (.lit (.lit (.lit (.lit (.lit (.lit (.lit (.lit (.lit (.lit (.lit (.lit (.lit (.lit (.lit (.lit (.nil))))))))))))))))))))) (.lit (.lit (.lit (.lit (.lit (.lit (.ask (.lit (.lit (.lit (.lit (.lit (.lit (.lit (.lit (.lit (.lit (.lit (.lit (.lit (.lit (.nil))))))))))))))) (.lit (.lit (.lit (.lit (.lit (.ask (.lit (.lit (.lit (.lit (.lit (.lit (.lit (.lit (.lit (.nil)))))))))) (.lit (.lit (.lit (.lit (.ask (.lit (.lit (.lit (.lit (.lit (.nil)))))) (.lit (.lit (.lit (.lit (.lit (.ask (.nil) (.nil))))))))))))))))))))))))))))))) (.ask (.lit (.lit (.lit (.lit (.lit (.lit (.lit (.lit (.lit (.lit (.lit (.lit (.lit (.lit (.lit (.lit (.lit (.lit (.lit (.lit (.lit (.lit (.lit (.lit (.nil))))))))))))))))))))))))) (.lit (.lit (.lit (.lit (.ask (.lit (.lit (.lit (.lit (.lit (.lit (.lit (.lit (.lit (.lit (.lit (.lit (.lit (.lit (.lit (.lit (.lit (.lit (.lit (.lit (.nil))))))))))))))))))))) (.lit (.lit (.lit (.lit (.lit (.lit (.ask (.lit (.lit (.lit (.lit (.lit (.lit (.lit (.lit (.lit (.lit (.lit (.lit (.lit (.lit (.nil))))))))))))))) (.lit (.lit (.lit (.lit (.lit (.ask (.lit (.lit (.lit (.lit (.lit (.lit (.lit (.lit (.lit (.nil)))))))))) (.lit (.lit (.lit (.lit (.ask (.lit (.lit (.lit (.lit (.lit (.nil)))))) (.lit (.lit (.lit (.lit (.lit (.ask (.nil) (.nil)))))))))))))))))))))))))))))))))) h (by kernel_rfl)
def AR:IC:=(.seq (.reg [⟨(some 1),(.box 10 (.t 0)),0,none⟩,⟨(some 2),(.mv (.c (.int .i64 0))),1,none⟩] none) (.seq (.reg [⟨(some 9),(.load true [(.int .i64),(.int .i64),.str,(.int .i64),.str,(.sl 1),(.sl 1),(.sl 2),(.sl 1),(.sl 10)] (.t 1)),0,none⟩,⟨(some 10),(.call (.c (.fn 22)) [(.t 9)]),0,none⟩,⟨(some 8),(.mv (.t 10)),2,none⟩,⟨(some 11),(.extract (.t 8) 0),2,none⟩,⟨(some 12),(.extract (.t 8) 1),2,none⟩,⟨(some 3),(.mv (.t 11)),2,none⟩,⟨(some 4),(.mv (.t 12)),2,none⟩] none) (.seq (.block 0 (.seq (.reg [⟨(some 14),(.faddr 0 (.t 1)),0,none⟩,⟨(some 15),(.load false [(.int .i64)] (.t 14)),0,none⟩,⟨(some 16),(.bin .num .eql (.t 15) (.c (.int .i64 5))),0,none⟩,⟨(some 13),(.mv (.t 16)),0,none⟩] none) (.cond (.t 13) (.seq (.reg [⟨(some 2),(.mv (.c (.int .i64 0))),0,none⟩] none) .ret) (.seq (.reg [⟨(some 18),(.mv (.t 4)),0,none⟩,⟨(some 19),(.bin .num .gtr (.t 18) (.c (.int .i64 0))),0,none⟩,⟨(some 17),(.mv (.t 19)),0,none⟩] none) (.cond (.t 17) (.seq (.reg [⟨(some 21),(.mv (.t 3)),0,none⟩,⟨(some 22),(.mv (.t 4)),0,none⟩,⟨(some 23),(.bin .num .eql (.t 22) (.c (.int .i64 1))),0,none⟩,⟨(some 24),(.call (.c (.fn 50)) [(.t 21),(.t 23)]),0,none⟩,⟨(some 20),(.mv (.t 24)),2,none⟩,⟨(some 25),(.extract (.t 20) 0),2,none⟩,⟨(some 26),(.extract (.t 20) 1),2,none⟩,⟨(some 27),(.extract (.t 20) 2),2,none⟩,⟨(some 5),(.mv (.t 25)),2,none⟩,⟨(some 6),(.mv (.t 26)),2,none⟩,⟨(some 7),(.mv (.t 27)),2,none⟩] none) (.seq (.reg [⟨(some 28),(.mv (.t 6)),0,none⟩,⟨(some 2),(.mv (.t 28)),0,none⟩] none) .ret)) (.seq (.reg [⟨(some 30),(.faddr 0 (.t 1)),0,none⟩,⟨(some 31),(.load false [(.int .i64)] (.t 30)),0,none⟩,⟨(some 32),(.bin .num .eql (.t 31) (.c (.int .i64 2))),0,none⟩,⟨(some 33),(.mv (.t 32)),0,none⟩,⟨(some 34),(.faddr 2 (.t 1)),0,(some (33,true))⟩,⟨(some 35),(.load false [.str] (.t 34)),0,(some (33,true))⟩,⟨(some 36),(.bin .num .eql (.t 35) (.c (.str [105,110,116]))),0,(some (33,true))⟩,⟨(some 37),(.pick (.t 33) (.t 36) (.c (.bool false))),0,none⟩,⟨(some 38),(.mv (.t 37)),0,none⟩,⟨(some 39),(.faddr 3 (.t 1)),0,(some (38,true))⟩,⟨(some 40),(.load false [(.int .i64)] (.t 39)),0,(some (38,true))⟩,⟨(some 41),(.bin .num .lss (.t 40) (.c (.int .i64 0))),0,(some (38,true))⟩,⟨(some 42),(.pick (.t 38) (.t 41) (.c (.bool false))),0,none⟩,⟨(some 29),(.mv (.t 42)),0,none⟩] none) (.cond (.t 29) (.seq (.reg [⟨(some 2),(.mv (.c (.int .i64 6))),0,none⟩] none) .ret) .skip))))))) (.seq (.reg [⟨(some 2),(.mv (.c (.int .i64 7))),0,none⟩] none) .ret))))
def GH:List IRes:=[(.tmp 2)]
abbrev b2u:Nat:=43
def Sl:ZC:=Xi [(22,.pure (preT (fun x:Tm×Unit=>tW x.1)) (Zf (fun x:Tm×Unit=>UM x.1))),(50,.pure (preT (fun _:Str×Bool×Unit=>true)) (Zf (fun x:Str×Bool×Unit=>En x.1 x.2.1)))]
theorem c0y{G:PV->Prop}(n:Nd)(ks:List Tm)(h:(Go.Pl.preT (fun(x:Tm×Unit)=>tW x.1) [(.agg [(.int .i64 (Nd.kind n)),(.int .i64 (Nd.line n)),(.str (Str.s (Nd.name n))),(.int .i64 (Nd.num n)),(.str (Str.s (Nd.elem n))),(.sl 1 false (List.map enc (Nd.dims n))),(.sl 1 false (List.map enc (Nd.data n))),(.sl 2 false (List.map enc (Nd.sizes n))),(.sl 1 false (List.map enc (Nd.ranks n))),(.sl 10 false (List.map enc ks))])])=true∧(∃ y0:Str×Int,AV.pv (Zf (fun(x:Tm×Unit)=>UM x.1) [(.agg [(.int .i64 (Nd.kind n)),(.int .i64 (Nd.line n)),(.str (Str.s (Nd.name n))),(.int .i64 (Nd.num n)),(.str (Str.s (Nd.elem n))),(.sl 1 false (List.map enc (Nd.dims n))),(.sl 1 false (List.map enc (Nd.data n))),(.sl 2 false (List.map enc (Nd.sizes n))),(.sl 1 false (List.map enc (Nd.ranks n))),(.sl 10 false (List.map enc ks))])])=AV.pv (enc y0)∧(if (Nd.kind n==5)=true then G ((.int .i64 0))else(if (decide (y0.2>0))=true then ∃ y1:R3 Str Int Bool,AV.pv (Zf (fun(x:Str×Bool×Unit)=>En x.1 x.2.1) [(.str (Str.s y0.1)),(.bool (y0.2==1))])=AV.pv (enc y1)∧(G ((.int .i64 (R3.b y1))))else(if (Nd.kind n==2)=true then if (Str.s (Nd.name n)==[(105:UInt8),(110:UInt8),(116:UInt8)])=true then if (decide (Nd.num n<0))=true then G ((.int .i64 6))else(G ((.int .i64 7)))else(G ((.int .i64 7)))else(G ((.int .i64 7)))))))):Zc Sl 0 (Za GH G) AR [] (Ye 43 [.agg [enc n.kind,enc n.line,enc n.name,enc n.num,enc n.elem,enc n.dims,enc n.data,enc n.sizes,enc n.ranks,enc ks]]):=Zc.tp (.req (.abs (Str×Int) (fun YY=>AV.pv (enc YY)) (.lit (.ask (.nil) (.lit (.ask (.lit (.lit (.abs (R3 Str Int Bool) (fun YY=>AV.pv (enc YY)) (.nil)))) (.lit (.ask (.lit (.lit (.lit (.lit (.ask (.lit (.lit (.lit (.lit (.ask (.nil) (.nil)))))) (.lit (.lit (.lit (.lit (.nil)))))))))) (.lit (.lit (.lit (.lit (.lit (.lit (.lit (.lit (.nil))))))))))))))))) h (by kernel_rfl)
def CJ:IC:=(.seq (.reg [⟨(some 2),(.mv (.c (.str []))),0,none⟩] none) (.seq (.reg [⟨(some 3),(.mv (.t 0)),0,none⟩,⟨(some 4),(.call (.c (.fn 55)) [(.t 3),(.c (.str [44,32]))]),0,none⟩,⟨(some 2),(.mv (.t 4)),2,none⟩] none) .ret))
def DF:List IRes:=[(.tmp 2)]
abbrev a7d:Nat:=5
def Tv:ZC:=Xi [(55,.pure (preT (fun x:List Str×Str×Unit=>Y8 x.1&&decide (x.2.1.s=[44,32]))) (Zf (fun x:List Str×Str×Unit=>Yi x.1)))]
theorem b2w{G:PV->Prop}(l:List Str)(h:(Go.Pl.preT (fun(x:List Str×Str×Unit)=>Y8 x.1&&decide (Str.s x.2.1=[(44:UInt8),(32:UInt8)])) [(.sl 1 false (List.map enc l)),(.str [(44:UInt8),(32:UInt8)])])=true∧(∃ y0:Str,AV.pv (Zf (fun(x:List Str×Str×Unit)=>Yi x.1) [(.sl 1 false (List.map enc l)),(.str [(44:UInt8),(32:UInt8)])])=AV.pv (enc y0)∧(G ((.str (Str.s y0)))))):Zc Tv 0 (Za DF G) CJ [] (Ye 5 [enc l]):=Zc.tp (.req (.abs (Str) (fun YY=>AV.pv (enc YY)) (.nil))) h (by kernel_rfl)
def U7:IC:=(.seq (.reg [⟨(some 4),(.mv (.c (.str []))),0,none⟩] none) (.seq (.reg [⟨(some 8),(.mv (.t 0)),0,none⟩,⟨(some 9),(.len 1 (.t 8)),0,none⟩,⟨(some 10),(.mksl 9 1 16 (.str []) (.t 9) (.t 9)),0,none⟩,⟨(some 5),(.mv (.t 10)),1,none⟩] none) (.seq (.seq (.reg [⟨(some 11),(.mv (.t 0)),0,none⟩,⟨(some 12),(.len 1 (.t 11)),0,none⟩,⟨(some 13),(.mv (.c (.int .i64 0))),0,none⟩] none) (.block 0 (.loop [13,12,11,5,1] (.seq (.reg [⟨(some 14),(.bin .num .lss (.t 13) (.t 12)),0,none⟩] none) (.seq (.cond (.t 14) .skip (.exit 0)) (.seq (.block 1 (.seq (.reg [⟨(some 15),(.mv (.t 13)),0,none⟩,⟨(some 16),(.iaddr 2 (.t 11) (.t 13)),0,none⟩,⟨(some 17),(.load true [(.int .i64),(.sl 2)] (.t 16)),0,none⟩,⟨(some 7),(.alloc (.agg [(.int .i64 0),(.sl 0 true [])])),0,none⟩,⟨(some 6),(.mv (.t 15)),1,none⟩,⟨none,(.store 2 (.t 7) (.t 17)),1,none⟩] none) (.reg [⟨(some 18),(.mv (.t 5)),0,none⟩,⟨(some 19),(.mv (.t 6)),0,none⟩,⟨(some 20),(.mv (.t 1)),0,none⟩,⟨(some 21),(.load true [(.int .i64),(.sl 2)] (.t 7)),0,none⟩,⟨(some 22),(.call (.t 20) [(.t 21)]),0,none⟩,⟨(some 23),(.iaddr 1 (.t 18) (.t 19)),2,none⟩,⟨none,(.store 1 (.t 23) (.t 22)),2,none⟩] none))) (.reg [⟨(some 24),(.bin .num .add (.t 13) (.c (.int .i64 1))),0,none⟩,⟨(some 13),(.mv (.t 24)),0,none⟩] none))))))) (.seq (.reg [⟨(some 25),(.mv (.t 5)),0,none⟩,⟨(some 26),(.call (.c (.fn 28)) [(.t 25)]),0,none⟩,⟨(some 4),(.mv (.t 26)),2,none⟩] none) .ret))))
def U0:List IRes:=[(.tmp 4)]
abbrev b2k:Nat:=27
def Q3:ZC:=Xi [(29,.pure (preT (fun x:Lin×Unit=>VN x.1)) (Zf (fun x:Lin×Unit=>(⟨Ym x.1⟩:Str)))),(28,.pure (preT (fun x:List Str×Unit=>Y8 x.1)) (Zf (fun x:List Str×Unit=>Yi x.1)))]
theorem c2o{G:PV->Prop}(l:List Lin)(h:(decide (0<=(↑(List.length (List.map enc l)):Int))&&(↑(List.length (List.map enc l)):Int)==(↑(List.length (List.map enc l)):Int)&&decide ((↑(List.length (List.map enc l)):Int)*(↑16:Int)<=1099511627776)&&decide ((↑(List.length (List.map enc l)):Int)<=1099511627776))=true∧(At Q3 0 (Za U0 G) U7 0 27 [(1,(.pv (.fn 29))),(5,(.row 0 (Int.toNat (↑(List.length (List.map enc l)):Int)) 0 (Int.toNat (↑(List.length (List.map enc l)):Int)))),(11,(.pv (.sl 2 false (List.map enc l)))),(12,(.pv (.int .i64 (↑(List.length (List.map enc l)):Int)))),(13,(.pv (.int .i64 0)))] [(.obj (.row false 9 1 (List.replicate (Int.toNat (↑(List.length (List.map enc l)):Int)) (PV.str []))))])):Zc Q3 0 (Za U0 G) U7 [] (Ye 27 [enc l,.fn 29]):=Zc.tp (.req (.nil)) h (by kernel_rfl)
theorem OB{G:PV->Prop}(l:List Lin)(i:Int)(o:List Str)(h:if (decide (i<(↑(List.length l):Int)))=true then(decide (0<=i)&&decide (Int.toNat i<List.length (List.map enc l))&&Enc.sz Lin==2)=true∧(∃ y0:Lin,AV.pv (PV.rptr (PV.cells (List.getD (List.map enc l) (Int.toNat i) default)))=AV.pv (PV.rptr (PV.cells ((enc) y0)))∧((Go.Pl.preT (fun(x:Lin×Unit)=>VN x.1) [(.agg [(.int .i64 (PV.asInt (List.getD (PV.cells (enc y0)) 0 default))),(.sl 2 false (PV.asXs (List.getD (PV.cells (enc y0)) (0+1) default)))])])=true∧(∃ y1:Str,AV.pv (Zf (fun(x:Lin×Unit)=>Str.mk (Ym x.1)) [(.agg [(.int .i64 (PV.asInt (List.getD (PV.cells (enc y0)) 0 default))),(.sl 2 false (PV.asXs (List.getD (PV.cells (enc y0)) (0+1) default)))])])=AV.pv (enc y1)∧((decide (0<=i)&&decide (0+Int.toNat i<List.length l)&&List.length (List.map enc o)==List.length l)=true∧((List.length (List.map enc o)==List.length l&&decide (0+Int.toNat i<List.length (List.map enc o))&&List.length (PV.cells (enc y1))==1&&decide (0+1<=List.length (PV.cells (List.getD (List.map enc o) (0+Int.toNat i) default)))&&PV.cellsOk (enc y1))=true∧(At Q3 0 (Za U0 G) U7 0 27 [(1,(.pv (.fn 29))),(5,(.row 0 (List.length l) 0 (List.length l))),(11,(.pv (.sl 2 false (List.map enc l)))),(12,(.pv (.int .i64 (↑(List.length l):Int)))),(13,(.pv (.int .i64 (IntKind.wrap IntKind.i64 (i+1)))))] [(.obj (.row false 9 1 (List.set (List.map enc o) (0+Int.toNat i) (PV.withCells (List.getD (List.map enc o) (0+Int.toNat i) default) (splice (PV.cells (List.getD (List.map enc o) (0+Int.toNat i) default)) 0 (PV.cells (enc y1)))))))]))))))else((List.length (List.map enc o)==List.length l)=true∧((Go.Pl.preT (fun(x:List Str×Unit)=>Y8 x.1) [(.sl 1 false (List.drop 0 (List.take (List.length l) (List.map enc o))))])=true∧(∃ y2:Str,AV.pv (Zf (fun(x:List Str×Unit)=>Yi x.1) [(.sl 1 false (List.drop 0 (List.take (List.length l) (List.map enc o))))])=AV.pv (enc y2)∧(G ((.str (Str.s y2)))))))):At Q3 0 (Za U0 G) U7 0 27 [(1,.pv (.fn 29)),(5,.row 0 l.length 0 l.length),(11,.pv (enc l)),(12,.pv (.int .i64 l.length)),(13,.pv (.int .i64 i))] [.obj (.row false 9 1 (o.map enc))]:=At.tp (.lit (.ask (.req (.abs (Lin) (fun YY=>AV.pv (PV.rptr (PV.cells ((enc) YY)))) (.lit (.req (.abs (Str) (fun YY=>AV.pv (enc YY)) (.req (.keep (.req (.lit (.nil)))))))))) (.req (.req (.abs (Str) (fun YY=>AV.pv (enc YY)) (.nil)))))) h (by kernel_rfl)
def UR:IC:=(.seq (.reg [⟨(some 4),(.mv (.c (.str []))),0,none⟩] none) (.seq (.reg [⟨(some 8),(.mv (.t 0)),0,none⟩,⟨(some 9),(.len 1 (.t 8)),0,none⟩,⟨(some 10),(.mksl 9 1 16 (.str []) (.t 9) (.t 9)),0,none⟩,⟨(some 5),(.mv (.t 10)),1,none⟩] none) (.seq (.seq (.reg [⟨(some 11),(.mv (.t 0)),0,none⟩,⟨(some 12),(.len 1 (.t 11)),0,none⟩,⟨(some 13),(.mv (.c (.int .i64 0))),0,none⟩] none) (.block 0 (.loop [13,12,11,5,1] (.seq (.reg [⟨(some 14),(.bin .num .lss (.t 13) (.t 12)),0,none⟩] none) (.seq (.cond (.t 14) .skip (.exit 0)) (.seq (.block 1 (.seq (.reg [⟨(some 15),(.mv (.t 13)),0,none⟩,⟨(some 16),(.iaddr 1 (.t 11) (.t 13)),0,none⟩,⟨(some 17),(.load false [(.int .i64)] (.t 16)),0,none⟩,⟨(some 6),(.mv (.t 15)),0,none⟩,⟨(some 7),(.mv (.t 17)),0,none⟩] none) (.reg [⟨(some 18),(.mv (.t 5)),0,none⟩,⟨(some 19),(.mv (.t 6)),0,none⟩,⟨(some 20),(.mv (.t 1)),0,none⟩,⟨(some 21),(.mv (.t 7)),0,none⟩,⟨(some 22),(.call (.t 20) [(.t 21)]),0,none⟩,⟨(some 23),(.iaddr 1 (.t 18) (.t 19)),2,none⟩,⟨none,(.store 1 (.t 23) (.t 22)),2,none⟩] none))) (.reg [⟨(some 24),(.bin .num .add (.t 13) (.c (.int .i64 1))),0,none⟩,⟨(some 13),(.mv (.t 24)),0,none⟩] none))))))) (.seq (.reg [⟨(some 25),(.mv (.t 5)),0,none⟩,⟨(some 26),(.call (.c (.fn 28)) [(.t 25)]),0,none⟩,⟨(some 4),(.mv (.t 26)),2,none⟩] none) .ret))))
def U2:List IRes:=[(.tmp 4)]
abbrev b3o:Nat:=27
def Q8:ZC:=Xi [(51,.pure (preT (fun x:Int×Unit=>decide (-9223372036854775808<=x.1)&&decide (x.1<=9223372036854775807))) (Zf (fun x:Int×Unit=>ZI x.1))),(28,.pure (preT (fun x:List Str×Unit=>Y8 x.1)) (Zf (fun x:List Str×Unit=>Yi x.1)))]
theorem b9l{G:PV->Prop}(l:List Int)(h:(decide (0<=(↑(List.length (List.map enc l)):Int))&&(↑(List.length (List.map enc l)):Int)==(↑(List.length (List.map enc l)):Int)&&decide ((↑(List.length (List.map enc l)):Int)*(↑16:Int)<=1099511627776)&&decide ((↑(List.length (List.map enc l)):Int)<=1099511627776))=true∧(At Q8 0 (Za U2 G) UR 0 27 [(1,(.pv (.fn 51))),(5,(.row 0 (Int.toNat (↑(List.length (List.map enc l)):Int)) 0 (Int.toNat (↑(List.length (List.map enc l)):Int)))),(11,(.pv (.sl 1 false (List.map enc l)))),(12,(.pv (.int .i64 (↑(List.length (List.map enc l)):Int)))),(13,(.pv (.int .i64 0)))] [(.obj (.row false 9 1 (List.replicate (Int.toNat (↑(List.length (List.map enc l)):Int)) (PV.str []))))])):Zc Q8 0 (Za U2 G) UR [] (Ye 27 [enc l,.fn 51]):=Zc.tp (.req (.nil)) h (by kernel_rfl)
theorem F9{G:PV->Prop}(l:List Int)(i:Int)(o:List Str)(h:if (decide (i<(↑(List.length l):Int)))=true then(decide (0<=i)&&decide (Int.toNat i<List.length (List.map enc l))&&Enc.sz Int==1)=true∧(∃ y0:Int,AV.pv (PV.rptr (PV.cells (List.getD (List.map enc l) (Int.toNat i) default)))=AV.pv (PV.rptr (PV.cells ((enc) y0)))∧((Go.Pl.preT (fun(x:Int×Unit)=>decide ((-9223372036854775808:Int)<=x.1)&&decide (x.1<=9223372036854775807)) [(.int .i64 (PV.asInt (List.getD (PV.cells (enc y0)) 0 default)))])=true∧(∃ y1:Str,AV.pv (Zf (fun(x:Int×Unit)=>ZI x.1) [(.int .i64 (PV.asInt (List.getD (PV.cells (enc y0)) 0 default)))])=AV.pv (enc y1)∧((decide (0<=i)&&decide (0+Int.toNat i<List.length l)&&List.length (List.map enc o)==List.length l)=true∧((List.length (List.map enc o)==List.length l&&decide (0+Int.toNat i<List.length (List.map enc o))&&List.length (PV.cells (enc y1))==1&&decide (0+1<=List.length (PV.cells (List.getD (List.map enc o) (0+Int.toNat i) default)))&&PV.cellsOk (enc y1))=true∧(At Q8 0 (Za U2 G) UR 0 27 [(1,(.pv (.fn 51))),(5,(.row 0 (List.length l) 0 (List.length l))),(11,(.pv (.sl 1 false (List.map enc l)))),(12,(.pv (.int .i64 (↑(List.length l):Int)))),(13,(.pv (.int .i64 (IntKind.wrap IntKind.i64 (i+1)))))] [(.obj (.row false 9 1 (List.set (List.map enc o) (0+Int.toNat i) (PV.withCells (List.getD (List.map enc o) (0+Int.toNat i) default) (splice (PV.cells (List.getD (List.map enc o) (0+Int.toNat i) default)) 0 (PV.cells (enc y1)))))))]))))))else((List.length (List.map enc o)==List.length l)=true∧((Go.Pl.preT (fun(x:List Str×Unit)=>Y8 x.1) [(.sl 1 false (List.drop 0 (List.take (List.length l) (List.map enc o))))])=true∧(∃ y2:Str,AV.pv (Zf (fun(x:List Str×Unit)=>Yi x.1) [(.sl 1 false (List.drop 0 (List.take (List.length l) (List.map enc o))))])=AV.pv (enc y2)∧(G ((.str (Str.s y2)))))))):At Q8 0 (Za U2 G) UR 0 27 [(1,.pv (.fn 51)),(5,.row 0 l.length 0 l.length),(11,.pv (enc l)),(12,.pv (.int .i64 l.length)),(13,.pv (.int .i64 i))] [.obj (.row false 9 1 (o.map enc))]:=At.tp (.lit (.ask (.req (.abs (Int) (fun YY=>AV.pv (PV.rptr (PV.cells ((enc) YY)))) (.lit (.req (.abs (Str) (fun YY=>AV.pv (enc YY)) (.req (.keep (.req (.lit (.nil)))))))))) (.req (.req (.abs (Str) (fun YY=>AV.pv (enc YY)) (.nil)))))) h (by kernel_rfl)
def Ty:IC:=(.seq (.reg [⟨(some 1),(.box 10 (.t 0)),0,none⟩,⟨(some 2),(.mv (.c (.str []))),1,none⟩] none) (.seq (.seq (.reg [⟨(some 3),(.faddr 2 (.t 1)),0,none⟩,⟨(some 4),(.load false [.str] (.t 3)),0,none⟩,⟨(some 5),(.bin .num .eql (.t 4) (.c (.str [105,110,116]))),0,none⟩] none) (.cond (.t 5) (.seq (.reg [⟨(some 6),(.faddr 3 (.t 1)),0,none⟩,⟨(some 7),(.load false [(.int .i64)] (.t 6)),0,none⟩,⟨(some 8),(.call (.c (.fn 51)) [(.t 7)]),0,none⟩,⟨(some 2),(.mv (.t 8)),2,none⟩] none) .ret) .skip)) (.seq (.reg [⟨(some 9),(.faddr 3 (.t 1)),0,none⟩,⟨(some 10),(.load false [(.int .i64)] (.t 9)),0,none⟩,⟨(some 11),(.bin .num .eql (.t 10) (.c (.int .i64 1))),0,none⟩,⟨(some 12),(.call (.c (.fn 52)) [(.t 11)]),0,none⟩,⟨(some 2),(.mv (.t 12)),2,none⟩] none) .ret)))
def G9:List IRes:=[(.tmp 2)]
abbrev b6p:Nat:=13
def Sq:ZC:=Xi [(51,.pure (preT (fun x:Int×Unit=>decide (-9223372036854775808<=x.1)&&decide (x.1<=9223372036854775807))) (Zf (fun x:Int×Unit=>ZI x.1))),(52,.pure (preT (fun _:Bool×Unit=>true)) (Zf (fun x:Bool×Unit=>b5h x.1)))]
theorem b9s{G:PV->Prop}(n:Nd)(ks:List Tm)(h:if (Str.s (Nd.name n)==[(105:UInt8),(110:UInt8),(116:UInt8)])=true then(Go.Pl.preT (fun(x:Int×Unit)=>decide ((-9223372036854775808:Int)<=x.1)&&decide (x.1<=9223372036854775807)) [(.int .i64 (Nd.num n))])=true∧(∃ y0:Str,AV.pv (Zf (fun(x:Int×Unit)=>ZI x.1) [(.int .i64 (Nd.num n))])=AV.pv (enc y0)∧(G ((.str (Str.s y0)))))else(∃ y1:Str,AV.pv (Zf (fun(x:Bool×Unit)=>b5h x.1) [(.bool (Nd.num n==1))])=AV.pv (enc y1)∧(G ((.str (Str.s y1)))))):Zc Sq 0 (Za G9 G) Ty [] (Ye 13 [.agg [enc n.kind,enc n.line,enc n.name,enc n.num,enc n.elem,enc n.dims,enc n.data,enc n.sizes,enc n.ranks,enc ks]]):=Zc.tp (.lit (.ask (.req (.abs (Str) (fun YY=>AV.pv (enc YY)) (.nil))) (.lit (.lit (.abs (Str) (fun YY=>AV.pv (enc YY)) (.nil)))))) h (by kernel_rfl)
def Cn:IC:=(.seq (.reg [⟨(some 1),(.box 10 (.t 0)),0,none⟩,⟨(some 2),(.mv (.c (.str []))),1,none⟩,⟨(some 3),(.mv (.c (.int .i64 0))),1,none⟩] none) (.seq (.seq (.reg [⟨(some 4),(.load true [(.int .i64),(.int .i64),.str,(.int .i64),.str,(.sl 1),(.sl 1),(.sl 2),(.sl 1),(.sl 10)] (.t 1)),0,none⟩,⟨(some 5),(.call (.c (.fn 14)) [(.t 4)]),0,none⟩,⟨(some 6),(.un .not (.t 5)),2,none⟩] none) (.cond (.t 6) (.seq (.reg [⟨(some 2),(.mv (.c (.str []))),0,none⟩,⟨(some 3),(.mv (.c (.int .i64 1))),0,none⟩] none) .ret) .skip)) (.seq (.reg [⟨(some 7),(.load true [(.int .i64),(.int .i64),.str,(.int .i64),.str,(.sl 1),(.sl 1),(.sl 2),(.sl 1),(.sl 10)] (.t 1)),0,none⟩,⟨(some 8),(.call (.c (.fn 16)) [(.t 7)]),0,none⟩,⟨(some 9),(.call (.c (.fn 15)) [(.t 8)]),2,none⟩,⟨(some 10),(.extract (.t 9) 0),4,none⟩,⟨(some 11),(.extract (.t 9) 1),4,none⟩,⟨(some 2),(.mv (.t 10)),4,none⟩,⟨(some 3),(.mv (.t 11)),4,none⟩] none) .ret)))
def Jh:List IRes:=[(.tmp 2),(.tmp 3)]
abbrev a8q:Nat:=12
def GX:ZC:=Xi [(14,.pure (preT (fun x:Tm×Unit=>tW x.1)) (Zf (fun x:Tm×Unit=>Xz x.1))),(15,.pure (preT (fun _:Str×Unit=>true)) (Zf (fun x:Str×Unit=>Dv x.1))),(16,.pure (preT (fun x:Tm×Unit=>tW x.1&&YJ x.1)) (Zf (fun x:Tm×Unit=>Zr x.1)))]
theorem b4o{G:PV->Prop}(n:Nd)(ks:List Tm)(h:(Go.Pl.preT (fun(x:Tm×Unit)=>tW x.1) [(.agg [(.int .i64 (Nd.kind n)),(.int .i64 (Nd.line n)),(.str (Str.s (Nd.name n))),(.int .i64 (Nd.num n)),(.str (Str.s (Nd.elem n))),(.sl 1 false (List.map enc (Nd.dims n))),(.sl 1 false (List.map enc (Nd.data n))),(.sl 2 false (List.map enc (Nd.sizes n))),(.sl 1 false (List.map enc (Nd.ranks n))),(.sl 10 false (List.map enc ks))])])=true∧(∃ y0:Bool,AV.pv (Zf (fun(x:Tm×Unit)=>Xz x.1) [(.agg [(.int .i64 (Nd.kind n)),(.int .i64 (Nd.line n)),(.str (Str.s (Nd.name n))),(.int .i64 (Nd.num n)),(.str (Str.s (Nd.elem n))),(.sl 1 false (List.map enc (Nd.dims n))),(.sl 1 false (List.map enc (Nd.data n))),(.sl 2 false (List.map enc (Nd.sizes n))),(.sl 1 false (List.map enc (Nd.ranks n))),(.sl 10 false (List.map enc ks))])])=AV.pv (enc y0)∧(if (!y0)=true then G ((.tup [(.str []),(.int .i64 1)]))else((Go.Pl.preT (fun(x:Tm×Unit)=>tW x.1&&YJ x.1) [(.agg [(.int .i64 (Nd.kind n)),(.int .i64 (Nd.line n)),(.str (Str.s (Nd.name n))),(.int .i64 (Nd.num n)),(.str (Str.s (Nd.elem n))),(.sl 1 false (List.map enc (Nd.dims n))),(.sl 1 false (List.map enc (Nd.data n))),(.sl 2 false (List.map enc (Nd.sizes n))),(.sl 1 false (List.map enc (Nd.ranks n))),(.sl 10 false (List.map enc ks))])])=true∧(∃ y1:Str,AV.pv (Zf (fun(x:Tm×Unit)=>Zr x.1) [(.agg [(.int .i64 (Nd.kind n)),(.int .i64 (Nd.line n)),(.str (Str.s (Nd.name n))),(.int .i64 (Nd.num n)),(.str (Str.s (Nd.elem n))),(.sl 1 false (List.map enc (Nd.dims n))),(.sl 1 false (List.map enc (Nd.data n))),(.sl 2 false (List.map enc (Nd.sizes n))),(.sl 1 false (List.map enc (Nd.ranks n))),(.sl 10 false (List.map enc ks))])])=AV.pv (enc y1)∧(∃ y2:Str×Int,AV.pv (Zf (fun(x:Str×Unit)=>Dv x.1) [(.str (Str.s y1))])=AV.pv (enc y2)∧(G ((.tup [(.str (Str.s y2.1)),(.int .i64 y2.2)]))))))))):Zc GX 0 (Za Jh G) Cn [] (Ye 12 [.agg [enc n.kind,enc n.line,enc n.name,enc n.num,enc n.elem,enc n.dims,enc n.data,enc n.sizes,enc n.ranks,enc ks]]):=Zc.tp (.req (.abs (Bool) (fun YY=>AV.pv (enc YY)) (.ask (.nil) (.req (.abs (Str) (fun YY=>AV.pv (enc YY)) (.lit (.abs (Str×Int) (fun YY=>AV.pv (enc YY)) (.nil)))))))) h (by kernel_rfl)
end Go.Pl

