/-
  Texts of mine that belong together (packed by pack.py), for every input: PlGl, TyL, TyM, TyTm, TyN, TyT, GSize, QSize, TyAr, TyTn, TyS, TyU, TyO, TyI, TyTp, TyTw, TyG, TyD, TyH, TyK, QLh, QLn, GLg, GLd, QLd, QLg, QLp, GL1, QL1, QL2, QL3, QL4, QRa, QRk, TyTt, TyTu, TyTe, TyTv, TyTd, TyTq, TyTl, TyPp, TyPz, GPa, GPr, GTe, GLy, QLy, QTe, QTf.
-/
import Derived.Test.YtbfjgcjjaoaaaaaGreatDoorChecked
import Derived.Test.YtbfjgcjjaoaaaaaGreatDoorKT2
import Derived.ChangeShapes
import Derived.ChangeSlices
import Derived.WideShapes
import Derived.RowKit
import Derived.KernelRfl
import Derived.Lib.AtoiAllMem
import Derived.Lib.AtoiAllCases
import Derived.Lib.ItoaNum
import Derived.Lib.Bytealg
import Derived.Lib.Strings
set_option linter.unusedVariables false
set_option linter.unusedSimpArgs false
namespace Go.Pl
open Go.RowKit Go.WideShapes Go.ChangeShapes
def Ai(w:World):Yb:=fun b=>match w.heap[b]? with|some (.cells cs _ _)=>some cs|_=>none
theorem d6p(w:World):WS (Ai w) w:=fun b cs h=>by
 unfold Ai at h
 split at h
 ·rename_i c T fz hb
  cases h
  exact⟨T,fz,hb⟩
 ·cases h
def Jq(P:Program)(e:TypeId)(ps:List PV):PV:=match Xy P e with|true=>.agg ps|false=>ps.headD .nilp
def Vy(P:Program):Nat->TypeId->List PV->Prop
 | 0,_,_=>False
 | n+1,t,ps=>match P.underlying t with
  | some .bool=> ∃ b,ps=[.bool b]
  | some (.int k)=> ∃ m,ps=[.int k m]∧(Lit.int k m).wf=true
  | some .string=> ∃ s:List UInt8,ps=[.str s]∧s.length<=maxLen
  | some (.slice e)=> ∃ qs:List (List PV),ps=[.sl (P.cellsOf e) false (qs.map (Jq P e))]∧qs.length<=maxLen∧ ∀ q∈qs,q.length=P.cellsOf e∧Vy P n e q
  | some (.struct fs)=>ps.length=P.cellsOf t∧ ∀ f∈fs.toList,Vy P n f.type ((ps.drop f.offset).take (P.cellsOf f.type))
  | some (.array m e)=>ps.length=P.cellsOf t∧ ∀ i<m,Vy P n e ((ps.drop (i*P.cellsOf e)).take (P.cellsOf e))
  | _=>False
def Km(P:Program):Nat->List Field->Nat->Bool
 | o,[],n=>o==n
 | o,f::fs,n=>f.offset==o&&Km P (o+P.cellsOf f.type) fs n
def Lb(P:Program)(S:List TypeId):Bool:=S.all fun t=>match P.underlying t with
 | some .bool|some (.int _)|some .string=>P.cellsOf t==1
 | some (.slice e)=>P.cellsOf t==1&&S.contains e&&decide (0<P.cellsOf e)&&(Xy P e||P.cellsOf e==1)
 | some (.struct fs)=>Km P 0 fs.toList (P.cellsOf t)&&fs.toList.all fun f=>S.contains f.type
 | some (.array m e)=>S.contains e&&m*P.cellsOf e==P.cellsOf t
 | _=>false
section
variable {H:Type} {enc:TypeId×Value->H} {P:Program} {w:World} {base:Nat} {sp:Nat->Bool} {held:Bool} {S:List TypeId}
theorem O4{α β:Type}{f:α->Option β}: ∀ {l:List α} {r:List β},l.mapM f=some r->r.length=l.length∧ ∀ (j:Nat) x y,l[j]? = some x->r[j]? = some y->f x=some y:=by
 intro l
 induction l with
 | nil=>intro r h;simp at h;subst h;exact⟨rfl,fun j x y h=>by simp at h⟩
 | cons a l ih=>
  intro r h
  simp only[List.mapM_cons,Option.bind_eq_bind,Option.bind_eq_some_iff]at h
  obtain⟨b,hb,bs,hbs,h⟩:=h
  simp at h
  subst h
  obtain⟨h1,h2⟩:=ih hbs
  refine⟨by simp[h1],fun j x y hx hy=> ?_⟩
  cases j with
  | zero=>cases hx;cases hy;exact hb
  | succ j=>exact h2 j x y hx hy
def Cl(w:World)(cs:List Value)(ps:List PV):Prop:=Wy (Ai w) cs ps∧YZ cs
theorem Cl.one{v:Value}{p:PV}(h:RP (Ai w) v p)(h1:v.oneCell'=true):Cl w [v] [p]:=⟨⟨rfl,fun j x q hx hq=>match j with
 | 0=>by cases hx;cases hq;exact h
 | j+1=>by simp at hx⟩,fun v hv=>by simp at hv;subst hv;exact h1⟩
theorem Cl.append{cs ds:List Value}{ps qs:List PV}(h:Cl w cs ps)(k:Cl w ds qs):Cl w (cs++ds) (ps++qs):=by
 refine⟨⟨by simp[h.1.1,k.1.1],fun j v p hv hp=> ?_⟩,fun v hv=> ?_⟩
 ·by_cases hj:j<cs.length
  ·rw[List.getElem?_append_left hj]at hv
   rw[List.getElem?_append_left (by rw[<- h.1.1];exact hj)]at hp
   exact h.1.2 j v p hv hp
  ·rw[List.getElem?_append_right (by omega)]at hv
   rw[List.getElem?_append_right (by rw[<- h.1.1];omega),<- h.1.1]at hp
   exact k.1.2 _ v p hv hp
 ·rcases List.mem_append.1 hv with h'|h'
  ·exact h.2 v h'
  ·exact k.2 v h'
theorem Cl.nil:Cl w [] []:=⟨⟨rfl,fun j v p h=>by simp at h⟩,fun v h=>by simp at h⟩
theorem PM(hS:Lb P S=true){t:TypeId}(ht:t∈S):(match P.underlying t with
 | some .bool|some (.int _)|some .string=>P.cellsOf t==1
 | some (.slice e)=>P.cellsOf t==1&&S.contains e&&decide (0<P.cellsOf e)&&(Xy P e||P.cellsOf e==1)
 | some (.struct fs)=>Km P 0 fs.toList (P.cellsOf t)&&fs.toList.all fun f=>S.contains f.type
 | some (.array m e)=>S.contains e&&m*P.cellsOf e==P.cellsOf t
 | _=>false)=true:=List.all_eq_true.1 hS t ht
theorem a9x{e:TypeId}{q:List PV}(h:Xy P e=true∨P.cellsOf e=1)(hl:q.length=P.cellsOf e)(h1:Xy P e=false-> ∀ p∈q,p.cells=[p]):(Jq P e q).cells=q:=by
 unfold Jq
 cases ha:Xy P e with
 | true=>rfl
 | false=>
  rcases h with h|h
  ·rw[h]at ha;cases ha
  ·rw[h]at hl
   match q,hl with
   | [p],_=>exact h1 ha p (by simp)
theorem c5e{n:Nat}{e:TypeId}{q:List PV}(h:Vy P n e q)(ha:Xy P e=false): ∀ p∈q,p.cells=[p]:=by
 cases n with
 | zero=>exact h.elim
 | succ n=>
  unfold Vy at h
  unfold Xy at ha
  split at h
  ·obtain⟨b,rfl⟩:=h;intro p hp;simp at hp;subst hp;rfl
  ·obtain⟨m,rfl,_⟩:=h;intro p hp;simp at hp;subst hp;rfl
  ·obtain⟨s,rfl,_⟩:=h;intro p hp;simp at hp;subst hp;rfl
  ·obtain⟨s,rfl,_⟩:=h;intro p hp;simp at hp;subst hp;rfl
  ·rename_i hu;rw[hu]at ha;cases ha
  ·rename_i hu;rw[hu]at ha;cases ha
  ·exact h.elim
theorem O7{α:Type}{R:Nat->α->Prop}: ∀ (n:Nat),(∀ i,i<n-> ∃ q,R i q)-> ∃ qs:List α,qs.length=n∧ ∀ (i:Nat) q,qs[i]? = some q->R i q:=by
 intro n
 induction n with
 | zero=>intro _;exact⟨[],rfl,fun i q h=>by simp at h⟩
 | succ n ih=>
  intro h
  obtain⟨qs,h1,h2⟩:=ih fun i hi=>h i (by omega)
  obtain⟨q,hq⟩:=h n (by omega)
  refine⟨qs++[q],by simp[h1],fun i q' hi=> ?_⟩
  by_cases hlt:i<qs.length
  ·rw[List.getElem?_append_left hlt]at hi;exact h2 i q' hi
  ·rw[List.getElem?_append_right (by omega)]at hi
   have:i=n:=by
    have:=(List.getElem?_eq_some_iff.1 hi).1
    simp at this
    omega
   subst this
   rw[h1,Nat.sub_self]at hi
   cases hi
   exact hq
theorem a8k(a:Addr)(i j:Nat):(a.add i).add j=a.add (i+j):=by
 unfold Addr.add
 by_cases hi:i=0 <;> by_cases hj:j=0 <;> simp[hi,hj,Nat.add_assoc]
theorem a8s{base n:Nat}{a:Addr}{cs:List Value}(h:w.cells? base a n=some cs):cs.length=n∧ ∀ (r:Nat) v,cs[r]? = some v->w.cell? (a.add r)=some v:=by
 unfold World.cells? at h
 split at h
 ·obtain⟨h1,h2⟩:=O4 h
  refine⟨by simpa using h1,fun r v hv=> ?_⟩
  have hr:=(List.getElem?_eq_some_iff.1 hv).1
  have hr2:r<n:=by rw[h1]at hr;simpa using hr
  exact h2 r r v (by simp[hr2]) hv
 ·cases h
theorem Nc{a:Addr}{v:Value}(h:w.cell? a=some v): ∃ b off cs,a=⟨b,off,none⟩∧Ai w b=some cs∧cs[off]? = some v:=by
 obtain⟨b,off,spot⟩:=a
 unfold World.cell? at h
 split at h
 ·rename_i c T fz hb
  split at h
  ·cases h
  ·rename_i hs
   have:spot=none:=by cases spot with|none=>rfl|some=>simp at hs
   subst this
   exact⟨b,off,c,rfl,by simp only[Ai];rw[hb],h⟩
 ·cases h
def JL(P:Program)(t:TypeId):Option (List (Nat×TypeId)):=match P.underlying t with
 | some (.struct fs)=>some (fs.toList.map fun f=>(f.offset,f.type))
 | _=>none
def d3r(P:Program)(n:Nat)(q:List PV):List (Nat×TypeId)->Prop
 | []=>True
 | (o,t)::r=>Vy P n t ((q.drop o).take (P.cellsOf t))∧d3r P n q r
theorem Qr{n c:Nat}{t:TypeId}{q:List PV}{l:List (Nat×TypeId)}(hs:JL P t=some l)(hc:P.cellsOf t=c)(h:Vy P n t q): ∃ m,n=m+1∧q.length=c∧d3r P m q l:=by
 cases n with
 | zero=>exact h.elim
 | succ m=>
  unfold JL at hs
  split at hs
  ·rename_i fs hu
   cases hs
   simp only[Vy,hu]at h
   refine⟨m,rfl,by rw[h.1,hc],?_⟩
   have key : ∀ l:List Field,(∀ f∈l,Vy P m f.type ((q.drop f.offset).take (P.cellsOf f.type)))->d3r P m q (l.map fun f=>(f.offset,f.type)):=by
    intro l
    induction l with
    | nil=>intro _;trivial
    | cons f l ih=>intro h;exact⟨h f List.mem_cons_self,ih fun g hg=>h g (List.mem_cons_of_mem _ hg)⟩
   exact key _ h.2
  ·cases hs
theorem QJ{n:Nat}{t:TypeId}{k:IntKind}{q:List PV}(hu:P.underlying t=some (.int k))(h:Vy P n t q): ∃ m,q=[.int k m]∧(Lit.int k m).wf=true:=by
 cases n with
 | zero=>exact h.elim
 | succ m=>simpa only[Vy,hu]using h
theorem Rx{n:Nat}{t:TypeId}{q:List PV}(hu:P.underlying t=some .string)(h:Vy P n t q): ∃ s:List UInt8,q=[.str s]∧s.length<=maxLen:=by
 cases n with
 | zero=>exact h.elim
 | succ m=>simpa only[Vy,hu]using h
theorem Kb{n c:Nat}{t e:TypeId}{q:List PV}(hu:P.underlying t=some (.slice e))(hc:P.cellsOf e=c)(h:Vy P n t q): ∃ m,n=m+1∧ ∃ qs:List (List PV),q=[.sl c false (qs.map (Jq P e))]∧qs.length<=maxLen∧ ∀ x∈qs,x.length=c∧Vy P m e x:=by
 cases n with
 | zero=>exact h.elim
 | succ m=>
  subst hc
  simp only[Vy,hu]at h
  exact⟨m,rfl,h⟩
theorem b3g{n:Nat}{t e:TypeId}{q:List PV}(hu:P.underlying t=some (.slice e))(he:P.underlying e=some (.int .i64))(hc:P.cellsOf e=1)(h:Vy P n t q):
  ∃ zs:List Int,q=[.sl 1 false (Zv zs)]∧zs.length<=maxLen∧ ∀ z∈zs,(Lit.int .i64 z).wf=true:=by
 obtain⟨m,_,qs,rfl,hl,hq⟩:=Kb hu hc h
 have ha:Xy P e=false:=by simp[Xy,he]
 have : ∃ zs:List Int,qs=zs.map (fun z=>[.int .i64 z])∧ ∀ z∈zs,(Lit.int .i64 z).wf=true:=by
  clear hl h
  induction qs with
  | nil=>exact⟨[],rfl,fun z hz=>by simp at hz⟩
  | cons x qs ih=>
   obtain⟨zs,h1,h2⟩:=ih fun y hy=>hq y (List.mem_cons_of_mem _ hy)
   obtain⟨z,hz,hw⟩:=QJ he (hq x List.mem_cons_self).2
   exact⟨z::zs,by simp[h1,hz],fun y hy=>by rcases List.mem_cons.1 hy with rfl|hy;exact hw;exact h2 y hy⟩
 obtain⟨zs,rfl,hw⟩:=this
 refine⟨zs,?_,by simpa using hl,hw⟩
 simp[Zv,Jq,ha]
theorem a7y{Φ:Yb}:Wy Φ (#[]:Array Value).toList []:=⟨rfl,fun j v p h=>by simp at h⟩
theorem d6b{Φ:Yb}{v:Value}{vs:List Value}{p:PV}{ps:List PV}(h:RP Φ v p)(k:Wy Φ vs ps):Wy Φ (v::vs) (p::ps):=
 ⟨by simp[k.1],fun j u q hu hq=>match j with
  | 0=>by cases hu;cases hq;exact h
  | j+1=>k.2 j u q (by simpa using hu) (by simpa using hq)⟩
theorem b0d{f:Nat}{pre:List PV->Bool}{val:List PV->PV}(h:XY P f pre val){ps:List PV}(hp:pre ps=true)(hv:val ps = .bool true){vs:Array Value}(hL:GlobOK (Ai w))(hr:Wy (Ai w) vs.toList ps):
  Calls P f vs w fun e w'=>e = .returned (.bool true)∧Below w.heap.size w w':=by
 refine(h ps hp (Ai w) w vs hL (d6p w) hr).mono ?_
 rintro e w' ⟨v,Φ',rfl,_,_,h1,h2,_⟩
 rw[hv]at h1
 cases h1
 exact⟨rfl,h2⟩
end
end Go.Pl
namespace Go.Pl
open Go.RowKit
open Enc (enc dec is)
open EncL (encL decL isL)
structure Coef where
 v:Str
 c:Int
 deriving DecidableEq
instance:Enc Coef where
 sz:=2
 enc x:=.agg [enc x.v,enc x.c]
 dec | .agg [a,b]=>⟨dec a,dec b⟩|_=>⟨⟨[]⟩,0⟩
 is | .agg [a,b]=>is Str a&&is Int b|_=>false
 is_enc v:=by simp
 dec_enc v:=by simp
 sub p h:=by
  cases p with
  | agg xs=>
   match xs,h with
   | [a,b],h=>
    simp only[Bool.and_eq_true]at h
    exact .agg (.cons (Enc.sub a h.1).2 (.cons (Enc.sub b h.2).2 .nil))
  | _=>cases h
structure Lin where
 k:Int
 t:List Coef
 deriving DecidableEq
instance:Enc Lin where
 sz:=2
 enc x:=.agg [enc x.k,enc x.t]
 dec | .agg [a,b]=>⟨dec a,dec b⟩|_=>⟨0,[]⟩
 is | .agg [a,b]=>is Int a&&is (List Coef) b|_=>false
 is_enc v:=by simp
 dec_enc v:=by simp
 sub p h:=by
  cases p with
  | agg xs=>
   match xs,h with
   | [a,b],h=>
    simp only[Bool.and_eq_true]at h
    exact .agg (.cons (Enc.sub a h.1).2 (.cons (Enc.sub b h.2).2 .nil))
  | _=>cases h
@[simp] theorem e1g (a b : PV) : is Coef (.agg [a, b]) = (is Str a && is Int b) := rfl
@[simp] theorem e1d (a b : PV) : (dec (.agg [a, b]) : Coef) = ⟨dec a, dec b⟩ := rfl
@[simp] theorem e2i (a b : PV) : is Lin (.agg [a, b]) = (is Int a && is (List Coef) b) := rfl
@[simp] theorem e1h (a b : PV) : (dec (.agg [a, b]) : Lin) = ⟨dec a, dec b⟩ := rfl
def digB(c:UInt8):Bool:=decide (48<=c)&&decide (c<=57)
def lowB(c:UInt8):Bool:=decide (97<=c)&&decide (c<=122)
def Yq(s:Str):Bool:=match s.s with
 | []=>false
 | c::r=>if c=95 then r.all digB&& !r.isEmpty&&decide (r.head? ≠ some 48)&&decide (r.length<=9)else lowB c&&r.all (fun c=>lowB c||digB c)&&decide (r.length<=29)
def Yp(n:Int):Bool:=decide (-1000000<=n)&&decide (n<=1000000)
def RQ:List Coef->Bool
 | a::b::l=>decide (a.v.s<b.v.s)&&RQ (b::l)
 | _=>true
def Zp(l:Lin):Bool:=l.t.all (fun t=>Yq t.v&&decide (t.c≠0)&&Yp t.c)&&RQ l.t&&Yp l.k&&decide (l.t.length<=12)
end Go.Pl
namespace Go.Pl
open Go.RowKit
open Enc (enc dec is)
open EncL (encL decL isL)
structure Fact where
 eq:Bool
 l:Lin
 deriving DecidableEq
instance:Enc Fact where
 sz:=3
 enc x:=.agg [enc x.eq,enc x.l.k,enc x.l.t]
 dec | .agg [a,b,c]=>⟨dec a,⟨dec b,dec c⟩⟩|_=>⟨false,⟨0,[]⟩⟩
 is | .agg [a,b,c]=>is Bool a&&is Int b&&is (List Coef) c|_=>false
 is_enc v:=by simp
 dec_enc v:=by simp
 sub p h:=by
  cases p with
  | agg xs=>
   match xs,h with
   | [a,b,c],h=>
    simp only[Bool.and_eq_true]at h
    exact .agg (.cons (Enc.sub a h.1.1).2 (.cons (Enc.sub b h.1.2).2 (.cons (Enc.sub c h.2).2 .nil)))
  | _=>cases h
@[simp] theorem e1j (a b c : PV) : is Fact (.agg [a, b, c]) = (is Bool a && is Int b && is (List Coef) c) := rfl
@[simp] theorem d9g (a b c : PV) : (dec (.agg [a, b, c]) : Fact) = ⟨dec a, ⟨dec b, dec c⟩⟩ := rfl
structure Bnd where
 kind:Int
 v:Str
 dim:Lin
 row:Str
 dims:List Lin
 elem:Str
 deriving DecidableEq
instance:Enc Bnd where
 sz:=7
 enc x:=.agg [enc x.kind,enc x.v,enc x.dim.k,enc x.dim.t,enc x.row,enc x.dims,enc x.elem]
 dec | .agg [a,b,c,d,e,f,g]=>⟨dec a,dec b,⟨dec c,dec d⟩,dec e,dec f,dec g⟩|_=>⟨0,⟨[]⟩,⟨0,[]⟩,⟨[]⟩,[],⟨[]⟩⟩
 is | .agg [a,b,c,d,e,f,g]=>is Int a&&is Str b&&is Int c&&is (List Coef) d&&is Str e&&is (List Lin) f&&is Str g|_=>false
 is_enc v:=by simp
 dec_enc v:=by simp
 sub p h:=by
  cases p with
  | agg xs=>
   match xs,h with
   | [a,b,c,d,e,f,g],h=>
    simp only[Bool.and_eq_true]at h
    exact .agg (.cons (Enc.sub a h.1.1.1.1.1.1).2 (.cons (Enc.sub b h.1.1.1.1.1.2).2 (.cons (Enc.sub c h.1.1.1.1.2).2 (.cons (Enc.sub d h.1.1.1.2).2 (.cons (Enc.sub e h.1.1.2).2 (.cons (Enc.sub f h.1.2).2 (.cons (Enc.sub g h.2).2 .nil)))))))
  | _=>cases h
@[simp] theorem e1z (a b c d e f g : PV) : is Bnd (.agg [a, b, c, d, e, f, g]) = (is Int a && is Str b && is Int c && is (List Coef) d && is Str e && is (List Lin) f && is Str g) := rfl
@[simp] theorem e1i (a b c d e f g : PV) : (dec (.agg [a, b, c, d, e, f, g]) : Bnd) = ⟨dec a, dec b, ⟨dec c, dec d⟩, dec e, dec f, dec g⟩ := rfl
inductive Cert where
 | mk (kind:Int) (mults:List Int) (lin:Lin) (kids:List Cert)
mutual
def Bl:Cert->PV
 | .mk k m l ks=>.agg [enc k,enc m,enc l.k,enc l.t,.sl 5 false (VP ks)]
def VP:List Cert->List PV
 | []=>[]
 | c::cs=>Bl c::VP cs
end
mutual
def Dq:PV->Cert
 | .agg [a,b,c,d,.sl _ _ ks]=>.mk (dec a) (dec b) ⟨dec c,dec d⟩ (VV ks)
 | _=>.mk 0 [] ⟨0,[]⟩ []
def VV:List PV->List Cert
 | []=>[]
 | p::ps=>Dq p::VV ps
end
mutual
def Qp:PV->Bool
 | .agg [a,b,c,d,.sl s _ ks]=>is Int a&&is (List Int) b&&is Int c&&is (List Coef) d&&(ks.isEmpty||s==5)&&QB ks
 | _=>false
def QB:List PV->Bool
 | []=>true
 | p::ps=>Qp p&&QB ps
end
theorem a2y(cs:List PV):VV cs=cs.map Dq:=by
 induction cs with
 | nil=>simp[VV]
 | cons c cs ih=>simp[VV,ih]
theorem a3t(cs:List PV):QB cs=cs.all Qp:=by
 induction cs with
 | nil=>simp[QB]
 | cons c cs ih=>simp[QB,ih]
mutual
theorem a6e: ∀ c:Cert,Qp (Bl c)=true
 | .mk k m l ks=>by
  have h:=Oz ks
  simp only[Bl,Qp,Enc.is_enc,Bool.true_and,Bool.and_eq_true,h,and_true]
  simp
theorem Oz: ∀ cs:List Cert,QB (VP cs)=true
 | []=>by simp[VP,QB]
 | c::cs=>by simp[VP,QB,a6e c,Oz cs]
end
mutual
theorem a6a: ∀ c:Cert,Dq (Bl c)=c
 | .mk k m l ks=>by
  have h:=FO ks
  simp only[Bl,Dq,Enc.dec_enc,h]
theorem FO: ∀ cs:List Cert,VV (VP cs)=cs
 | []=>by simp[VP,VV]
 | c::cs=>by simp[VP,VV,a6a c,FO cs]
end
mutual
theorem FY: ∀ p:PV,Qp p=true->U5 p (Bl (Dq p))
 | .agg [a,b,c,d,.sl s t ks],h=>by
  simp only[Qp,Bool.and_eq_true]at h
  obtain⟨⟨⟨⟨⟨h1,h2⟩,h3⟩,h4⟩,h5⟩,h6⟩:=h
  have hk:=Na ks h6
  simp only[Dq,Bl]
  refine .agg (.cons (Enc.sub a h1).2 (.cons (Enc.sub b h2).2 (.cons (Enc.sub c h3).2 (.cons (Enc.sub d h4).2 (.cons ?_ .nil)))))
  simp only[Bool.or_eq_true,List.isEmpty_iff,beq_iff_eq]at h5
  rcases h5 with rfl|rfl
  ·simp only[VV,VP]
   exact(U5.sl0 _ _ _).2
  ·exact(U5.sl hk.1 hk.2).2
 | .bool _,h | .int _ _,h | .str _,h | .sl _ _ _,h | .tup _,h | .nilp,h | .nilmap,h | .nilfn,h | .nili,h | .ifc,h | .fn _,h | .rptr _,h=>by simp[Qp]at h
 | .agg [],h | .agg [_],h | .agg [_,_],h | .agg [_,_,_],h | .agg [_,_,_,_],h=>by simp[Qp]at h
 | .agg (a::b::c::d::e::f::g),h=>by
  have h':Qp (.agg (a::b::c::d::e::f::g))=false:=by cases e <;> kernel_rfl
  rw[h']at h;cases h
 | .agg [_,_,_,_,.bool _],h | .agg [_,_,_,_,.int _ _],h | .agg [_,_,_,_,.str _],h | .agg [_,_,_,_,.agg _],h | .agg [_,_,_,_,.tup _],h | .agg [_,_,_,_,.nilp],h | .agg [_,_,_,_,.nilmap],h | .agg [_,_,_,_,.nilfn],h | .agg [_,_,_,_,.nili],h | .agg [_,_,_,_,.ifc],h | .agg [_,_,_,_,.fn _],h | .agg [_,_,_,_,.rptr _],h=>by simp[Qp]at h
theorem Na: ∀ ps:List PV,QB ps=true->ps.length=(VP (VV ps)).length∧ ∀ (j:Nat) x y,ps[j]? = some x->(VP (VV ps))[j]? = some y->U5 x y
 | [],_=>⟨by simp[VV,VP],fun j x y h=>by simp at h⟩
 | p::ps,h=>by
  simp only[QB,Bool.and_eq_true]at h
  have h1:=FY p h.1
  have h2:=Na ps h.2
  refine⟨by simp[VV,VP,<- h2.1],fun j x y hx hy=> ?_⟩
  simp only[VV,VP]at hy
  cases j with
  | zero=>simp at hx hy;subst hx hy;exact h1
  | succ j=>exact h2.2 j x y (by simpa using hx) (by simpa using hy)
end
instance:Enc Cert where
 sz:=5
 enc:=Bl
 dec:=Dq
 is:=Qp
 is_enc:=a6e
 dec_enc:=a6a
 sub:=FY
@[simp] theorem e1m (a b c d e : PV) : is Cert (.agg [a, b, c, d, e]) = (is Int a && is (List Int) b && is Int c && is (List Coef) d && is (List Cert) e) := by
 show Qp _=_
 cases e <;> simp only[Qp] <;> try (simp[is];done)
 rename_i s t ks
 rw[a3t]
 show _=(_&&((ks.isEmpty||s==5)&&ks.all Qp))
 rw[Bool.and_assoc]
@[simp] theorem e0e (a b c d e : PV) (h : is (List Cert) e = true) : (dec (.agg [a, b, c, d, e]) : Cert) = .mk (dec a) (dec b) ⟨dec c, dec d⟩ (dec e) := by
 show Dq _=_
 cases e <;> try (cases h;done)
 rw[Dq,a2y]
 rfl
end Go.Pl
namespace Go.Pl
open Go.RowKit
open Enc (enc dec is)
open EncL (encL decL isL)
structure Nd where
 kind:Int
 line:Int
 name:Str
 num:Int
 elem:Str
 dims:List Int
 data:List Int
 sizes:List Lin
 ranks:List Int
 deriving DecidableEq
def nd0:Nd:=⟨0,0,⟨[]⟩,0,⟨[]⟩,[],[],[],[]⟩
inductive Tm where
 | mk (n:Nd) (kids:List Tm)
def ndP(n:Nd)(k:PV):List PV:=[enc n.kind,enc n.line,enc n.name,enc n.num,enc n.elem,enc n.dims,enc n.data,enc n.sizes,enc n.ranks,k]
mutual
def tmP:Tm->PV
 | .mk n ks=>.agg (ndP n (.sl 10 false (HZ ks)))
def HZ:List Tm->List PV
 | []=>[]
 | c::cs=>tmP c::HZ cs
end
mutual
def tmD:PV->Tm
 | .agg [a,b,c,d,e,f,g,h,i,.sl _ _ ks]=>.mk ⟨dec a,dec b,dec c,dec d,dec e,dec f,dec g,dec h,dec i⟩ (Od ks)
 | _=>.mk nd0 []
def Od:List PV->List Tm
 | []=>[]
 | p::ps=>tmD p::Od ps
end
mutual
def tmI:PV->Bool
 | .agg [a,b,c,d,e,f,g,h,i,.sl s _ ks]=>is Int a&&is Int b&&is Str c&&is Int d&&is Str e&&is (List Int) f&&is (List Int) g&&is (List Lin) h&&is (List Int) i&&((ks.isEmpty||s==10)&&Np ks)
 | _=>false
def Np:List PV->Bool
 | []=>true
 | p::ps=>tmI p&&Np ps
end
theorem FU(cs:List Tm):HZ cs=cs.map tmP:=by
 induction cs with
 | nil=>simp[HZ]
 | cons c cs ih=>simp[HZ,ih]
theorem Ei(cs:List PV):Od cs=cs.map tmD:=by
 induction cs with
 | nil=>simp[Od]
 | cons c cs ih=>simp[Od,ih]
theorem Ef(cs:List PV):Np cs=cs.all tmI:=by
 induction cs with
 | nil=>simp[Np]
 | cons c cs ih=>simp[Np,ih]
mutual
theorem d2r: ∀ c:Tm,tmI (tmP c)=true
 | .mk n ks=>by
  have h:=c3u ks
  rw[tmP,ndP,tmI]
  simp only[Enc.is_enc,Bool.true_and,Bool.and_eq_true,h,and_true]
  simp
theorem c3u: ∀ cs:List Tm,Np (HZ cs)=true
 | []=>by simp[HZ,Np]
 | c::cs=>by simp[HZ,Np,d2r c,c3u cs]
end
mutual
theorem d2q: ∀ c:Tm,tmD (tmP c)=c
 | .mk n ks=>by
  have h:=c2m ks
  rw[tmP,ndP,tmD]
  simp only[Enc.dec_enc,h]
theorem c2m: ∀ cs:List Tm,Od (HZ cs)=cs
 | []=>by simp[HZ,Od]
 | c::cs=>by simp[HZ,Od,d2q c,c2m cs]
end
theorem d8m: ∀ (n:Nat) (p:PV),SizeOf.sizeOf p<n->tmI p=true->U5 p (tmP (tmD p)):=by
 intro n
 induction n with
 | zero=>intro p h;omega
 | succ n ih=>
  intro p hn h
  unfold tmI at h
  split at h
  ·rename_i a b c d e f g hh i s t ks
   simp only[Bool.and_eq_true]at h
   obtain⟨⟨⟨⟨⟨⟨⟨⟨⟨h1,h2⟩,h3⟩,h4⟩,h5⟩,h6⟩,h7⟩,h8⟩,h9⟩,h10,h11⟩:=h
   rw[tmD,tmP,ndP]
   refine .agg (.cons (Enc.sub a h1).2 (.cons (Enc.sub b h2).2 (.cons (Enc.sub c h3).2 (.cons (Enc.sub d h4).2 (.cons (Enc.sub e h5).2 (.cons (Enc.sub f h6).2 (.cons (Enc.sub g h7).2 (.cons (Enc.sub hh h8).2 (.cons (Enc.sub i h9).2 (.cons ?_ .nil))))))))))
   rw[Ef,List.all_eq_true]at h11
   rw[FU,Ei]
   simp only[Bool.or_eq_true,List.isEmpty_iff,beq_iff_eq]at h10
   rcases h10 with rfl|rfl
   ·exact(U5.sl0 _ _ _).2
   ·refine(U5.sl (by simp) fun j x y hx hy=> ?_).2
    simp only[List.map_map,List.getElem?_map,hx,Option.map_some,Option.some.injEq]at hy
    subst hy
    have hm:=List.mem_of_getElem? hx
    have h12:=List.sizeOf_lt_of_mem hm
    simp only[PV.agg.sizeOf_spec,PV.sl.sizeOf_spec,List.cons.sizeOf_spec]at hn
    exact ih x (by omega) (h11 x hm)
  ·cases h
instance:Enc Tm where
 sz:=10
 enc:=tmP
 dec:=tmD
 is:=tmI
 is_enc:=d2r
 dec_enc:=d2q
 sub p h:=d8m _ p (Nat.lt_succ_self _) h
theorem Yy(n:Nd)(ks:List Tm):(enc (Tm.mk n ks):PV) = .agg [enc n.kind,enc n.line,enc n.name,enc n.num,enc n.elem,enc n.dims,enc n.data,enc n.sizes,enc n.ranks,enc ks]:=by
 show tmP (Tm.mk n ks)=_
 rw[tmP,ndP,FU]
 rfl
theorem d4m(a b c d e f g h i:PV)(s:Nat)(t:Bool)(ks:List PV):tmI (.agg [a,b,c,d,e,f,g,h,i,.sl s t ks])=(is Int a&&is Int b&&is Str c&&is Int d&&is Str e&&is (List Int) f&&is (List Int) g&&is (List Lin) h&&is (List Int) i&&((ks.isEmpty||s==10)&&Np ks)):=by
 rw[tmI]
@[simp] theorem e2m (a b c d e f g h i k : PV) : is Tm (.agg [a, b, c, d, e, f, g, h, i, k]) = (is Int a && is Int b && is Str c && is Int d && is Str e && is (List Int) f && is (List Int) g && is (List Lin) h && is (List Int) i && is (List Tm) k) := by
 show tmI (.agg [a,b,c,d,e,f,g,h,i,k])=_
 cases k <;> try (rw[tmI];simp[is];simp)
 rename_i s t ks
 rw[d4m,Ef]
 rfl
@[simp] theorem d4j (a b c d e f g h i k : PV) (hk : is (List Tm) k = true) : (dec (.agg [a, b, c, d, e, f, g, h, i, k]) : Tm) = .mk ⟨dec a, dec b, dec c, dec d, dec e, dec f, dec g, dec h, dec i⟩ (dec k) := by
 show tmD (.agg [a,b,c,d,e,f,g,h,i,k])=_
 cases k <;> try (cases hk;done)
 rw[tmD,Ei]
 rfl
theorem d7o{n:Nd}{ks:List Tm}{k:Tm}(h:k∈ks):SizeOf.sizeOf k<SizeOf.sizeOf (Tm.mk n ks):=by
 have:=List.sizeOf_lt_of_mem h
 simp only[Tm.mk.sizeOf_spec];omega
end Go.Pl
namespace Go.Pl
open Enc (enc dec is)
structure Er where
 b:Bool
 deriving DecidableEq
instance:Enc Er where
 sz:=1
 enc x:=if x.b then .ifc else .nili
 dec | .ifc=>⟨true⟩|_=>⟨false⟩
 is | .ifc=>true | .nili=>true|_=>false
 is_enc v:=by obtain⟨b⟩:=v;cases b <;> rfl
 dec_enc v:=by obtain⟨b⟩:=v;cases b <;> rfl
 sub p h:=by cases p <;> first|exact .refl _|cases h
def YL(s:Str):Int×Er:=match Lib.atoiAll s.s with
 | .ok v=>(v,⟨false⟩)
 | .range=>(Lib.atoiSat s.s,⟨true⟩)
 | _=>(0,⟨true⟩)
def Zn(n:Int):Str:=⟨Lib.itoa n⟩
abbrev w64(n:Int):Int:=IntKind.i64.wrap n
mutual
def d9s:Cert->Int
 | .mk _ _ _ ks=>b7y 1 ks
def b7y(n:Int):List Cert->Int
 | []=>n
 | c::cs=>b7y (w64 (n+d9s c)) cs
end
def X3(l:Lin):Bool:=decide (l.t.length<=9223372036854775807)
def Ws(l:Lin):Bool:=X3 l&&l.t.all fun t=>decide (t.v.s.length<=1000000)
mutual
def cOk:Cert->Bool
 | .mk _ m l ks=>decide (m.length<=9223372036854775807)&&X3 l&&decide (ks.length<=9223372036854775807)&&d1d ks
def d1d:List Cert->Bool
 | []=>true
 | c::cs=>cOk c&&d1d cs
end
mutual
def e2f:Cert->Nat
 | .mk _ _ _ ks=>d2t ks+1
def d2t:List Cert->Nat
 | []=>0
 | c::cs=>max (e2f c) (d2t cs)
end
end Go.Pl
namespace Go.Pl
open Go.RowKit
open Enc (enc dec is)
open EncL (encL decL isL)
abbrev ca'{α β:Type}[EncL α][Enc β](F:α->β)(ps:List PV)(K:β->Prop):Prop:= ∃ y,AV.pv (Zb F ps)=AV.pv (enc y)∧K y
abbrev el'{α:Type}[Enc α](l:List α)(i:Int)(K:α->Prop):Prop:= ∃ y:α,AV.pv (PV.rptr (PV.cells (List.getD (List.map enc l) (Int.toNat i) default)))=AV.pv (PV.rptr (PV.cells ((enc) y)))∧K y
abbrev ix'{α:Type}[Enc α](l:List α)(i:Int)(n:Nat):Prop:=(decide (0<=i)&&decide (Int.toNat i<List.length (List.map (enc:α->PV) l))&&Enc.sz α==n)=true
abbrev lt'{α:Type}[Enc α](l:List α)(i:Int):Bool:=decide (i<(↑(List.length (List.map (enc:α->PV) l)):Int))
abbrev d1'{α:Type}[Enc α](y:α):PV:=List.getD (List.drop 1 (PV.cells (enc y))) 0 default
abbrev x1'{α:Type}[Enc α](y:α):List PV:=PV.asXs (List.getD (List.drop 1 (PV.cells (enc y))) 0 default)
abbrev e0'{α:Type}[Enc α](y:α):PV:=List.getD (PV.cells (enc y)) 0 default
abbrev e1'{α:Type}[Enc α](y:α):PV:=List.getD (PV.cells (enc y)) (0+1) default
abbrev g0'{α:Type}[Enc α](l:List α)(i:Int):PV:=List.getD (List.map enc l) (0+Int.toNat i) default
abbrev gx'{α:Type}[Enc α](y:α)(i:Int):PV:=List.getD (x1' y) (Int.toNat i) default
def mv'(α:Type)[Enc α](m:Mq):Mq:=.abs α (fun y=>AV.pv (enc y)) m
def Zl:Nat->Mq->Mq
 | 0,m=>m
 | n+1,m=>.lit (Zl n m)
def Zu(n:Nat):Mq:=Zl n .nil
abbrev i''(n:Int):AV:=.pv (.int .i64 n)
abbrev s1'{α:Type}[Enc α](l:List α):AV:=.pv (.sl 1 false (List.map enc l))
abbrev s2'{α:Type}[Enc α](l:List α):AV:=.pv (.sl 2 false (List.map enc l))
abbrev fi'(s:List Sh)(x:List PV):Bool:=decide (0+List.length s<=List.length x)&&Yx x 0 s
def mr'(α:Type)[Enc α](m:Mq):Mq:=.abs α (fun y=>AV.pv (PV.rptr (PV.cells (enc y)))) m
theorem Yk{α:Type}[Enc α]{l:List α}{i:Nat}(h:i<l.length){P:α->Prop}(k:P l[i]):
  ∃ y:α,AV.pv (PV.rptr (PV.cells (List.getD (List.map enc l) (Int.toNat (i:Int)) default)))=AV.pv (PV.rptr (PV.cells (enc y)))∧P y:=⟨l[i],by rw[WA enc h],k⟩
theorem ZT{α:Type}[Enc α]{l:List α}{i n:Nat}(h:i<l.length)(hn:Enc.sz α=n):(decide (0<=(i:Int))&&decide (Int.toNat (i:Int)<List.length (List.map (enc:α->PV) l))&&Enc.sz α==n)=true:=by simp[hn,h]
theorem QR{α:Type}[Enc α]{l:List α}{i:Nat}(h:i<l.length):decide ((i:Int)<(List.length (List.map (enc:α->PV) l):Int))=true:=by simp;omega
theorem QF{α:Type}[Enc α]{l:List α}{i:Nat}(h : ¬ i<l.length): ¬ decide ((i:Int)<(List.length (List.map (enc:α->PV) l):Int))=true:=by simp;omega
theorem YO{n i:Nat}(h:i<n):decide ((i:Int)<(n:Int))=true:=by simp;omega
theorem YR{n i:Nat}(h : ¬ i<n): ¬ decide ((i:Int)<(n:Int))=true:=by simp;omega
theorem d2z{P Q:Prop}:(if (!false)=true then P else Q)=P:=rfl
theorem e0i{P Q:Prop}:(if (!true)=true then P else Q)=Q:=rfl
theorem Yv{c:Prop}[Decidable c]{P Q:Prop}(h:c)(k:P):if c then P else Q:=by rw[if_pos h];exact k
theorem YA{c:Prop}[Decidable c]{P Q:Prop}(h : ¬ c)(k:Q):if c then P else Q:=by rw[if_neg h];exact k
theorem Gd{c:Prop}[Decidable c]{P Q:Prop}(h1:c->P)(h2 : ¬ c->Q):if c then P else Q:=by split;exact h1 ‹_›;exact h2 ‹_›
theorem VY{b:Bool}{P Q:Prop}(h1:b=false->P)(h2:b=true->Q):if (!b)=true then P else Q:=by cases b;exact h1 rfl;exact h2 rfl
theorem XR{b:Bool}{P Q:Prop}(h1:b=true->P)(h2:b=false->Q):if b=true then P else Q:=by cases b;exact h2 rfl;exact h1 rfl
theorem Yg{c:Prop}[Decidable c]{P Q:Prop}(h1:c->P)(h2 : ¬ c->Q):if decide c=true then P else Q:=by by_cases h:c;rw[if_pos (by simpa using h)];exact h1 h;rw[if_neg (by simpa using h)];exact h2 h
theorem ZL{α:Type}[BEq α][LawfulBEq α]{x y:α}{P Q:Prop}(h1:x=y->P)(h2:x≠y->Q):if (x==y)=true then P else Q:=by by_cases h:x=y;rw[if_pos (by simpa using h)];exact h1 h;rw[if_neg (by simpa using h)];exact h2 h
theorem Zo{β:Type}[Enc β]{x y:β}(h:x=y):Zi y (enc x):=⟨Enc.is_enc x,by rw[Enc.dec_enc,h]⟩
theorem ZA{x y:Bool}(h:x=y):Zi y (.bool x):=⟨rfl,h⟩
theorem QM{x y:Int}(h:x=y):Zi y (.int .i64 x):=⟨rfl,h⟩
section
variable (x:Coef) (f:Fact)
theorem co1:PV.asStr (List.getD (PV.cells (enc x)) 0 default)=x.v.s:=rfl
theorem co2:PV.asInt (List.getD (PV.cells (enc x)) (0+1) default)=x.c:=rfl
theorem co3:PV.asStr (List.getD (List.drop 0 (PV.cells (enc x))) 0 default)=x.v.s:=rfl
theorem co4:PV.asInt (List.getD (List.drop 1 (PV.cells (enc x))) 0 default)=x.c:=rfl
end
theorem d2m{c:UInt8}(n:Nat)(h:c≠UInt8.ofNat n)(hn:n<256): ¬ ((c.toNat:Int)==(n:Int))=true:=by
 intro e
 have e:(c.toNat:Int)=n:=by simpa using e
 have e:c.toNat=n:=by omega
 exact h (UInt8.toNat_inj.1 (by rw[e,UInt8.toNat_ofNat'];omega))
theorem X6: ∀ a b:List UInt8,Op.bytesLess a b=decide (a<b)
 | [],[]=>by simp[Op.bytesLess]
 | _::_,[]=>by simp[Op.bytesLess]
 | [],_::_=>by simp[Op.bytesLess]
 | x::a,y::b=>by
  rw[Op.bytesLess,X6 a b]
  simp only[List.cons_lt_cons_iff]
  by_cases h1:x<y
  ·simp[h1]
  ·by_cases h2:x=y
   ·subst h2;simp
   ·simp[h1,h2]
theorem Zk.fuel{P:Program}{f:Nat}{α β:Type}[EncL α][Enc β]{pre:α->Bool}{F:α->β}(μ:α->Nat)(h : ∀ N,Zk P f (fun a=>pre a&&decide (μ a<N)) F):Zk P f pre F:=fun ps hps=>by
 refine h (μ (decL ps)+1) ps ?_
 simp only[preT,Bool.and_eq_true,decide_eq_true_eq]at hps ⊢
 exact⟨hps.1,hps.2,by omega⟩
theorem Zk.void{P:Program}{f:Nat}{α β:Type}[EncL α][Enc β]{pre:α->Bool}{F:α->β}(h : ∀ a,pre a=false):Zk P f pre F:=fun ps hps=>by simp[preT,h]at hps
theorem Zk.rec{P:Program}{f:Nat}{α β:Type}[EncL α][Enc β]{pre:α->Bool}{F:α->β}(μ:α->Nat)(h : ∀ N,Zk P f (fun a=>pre a&&decide (μ a<N)) F->Zk P f (fun a=>pre a&&decide (μ a<N+1)) F):Zk P f pre F:=by
 refine Zk.fuel μ fun N=> ?_
 induction N with
 | zero=>exact Zk.void fun a=>by simp
 | succ N ih=>exact h N ih
mutual
def RG:PV->PV->Bool
 | .bool a,.bool b=>a==b
 | .int k a,.int l b=>H5 k l&&a==b
 | .str a,.str b=>a==b
 | .sl s t xs,.sl s' t' ys=>s==s'&&t==t'&&BQ xs ys
 | .agg xs,.agg ys=>BQ xs ys
 | .tup xs,.tup ys=>BQ xs ys
 | .nilp,.nilp=>true
 | .nilmap,.nilmap=>true
 | .nilfn,.nilfn=>true
 | .nili,.nili=>true
 | .ifc,.ifc=>true
 | .fn a,.fn b=>a==b
 | .rptr xs,.rptr ys=>BQ xs ys
 | _,_=>false
def BQ:List PV->List PV->Bool
 | [],[]=>true
 | x::xs,y::ys=>RG x y&&BQ xs ys
 | _,_=>false
end
theorem Ob(k:IntKind):H5 k k=true:=by cases k <;> rfl
mutual
theorem b9k: ∀ (p q:PV),RG p q=true->p=q
 | .bool a,q,h=>by cases q <;> simp[RG]at h;rw[h]
 | .int k a,q,h=>by cases q <;> simp[RG]at h;rw[JR h.1,h.2]
 | .str a,q,h=>by cases q <;> simp[RG]at h;rw[h]
 | .sl s t xs,q,h=>by cases q <;> simp[RG]at h;rw[h.1.1,h.1.2,DI xs _ h.2]
 | .agg xs,q,h=>by cases q <;> simp[RG]at h;rw[DI xs _ h]
 | .tup xs,q,h=>by cases q <;> simp[RG]at h;rw[DI xs _ h]
 | .nilp,q,h=>by cases q <;> simp[RG]at h;rfl
 | .nilmap,q,h=>by cases q <;> simp[RG]at h;rfl
 | .nilfn,q,h=>by cases q <;> simp[RG]at h;rfl
 | .nili,q,h=>by cases q <;> simp[RG]at h;rfl
 | .ifc,q,h=>by cases q <;> simp[RG]at h;rfl
 | .fn a,q,h=>by cases q <;> simp[RG]at h;rw[h]
 | .rptr xs,q,h=>by cases q <;> simp[RG]at h;rw[DI xs _ h]
theorem DI: ∀ (xs ys:List PV),BQ xs ys=true->xs=ys
 | [],ys,h=>by cases ys <;> simp[BQ]at h;rfl
 | x::xs,ys,h=>by
  cases ys with
  | nil=>simp[BQ]at h
  | cons y ys=>simp[BQ]at h;rw[b9k x y h.1,DI xs ys h.2]
end
mutual
theorem OT: ∀ (p:PV),RG p p=true
 | .bool a | .str a | .fn a=>by simp[RG]
 | .int k a=>by simp[RG,Ob]
 | .sl s t xs=>by simp[RG,CF xs]
 | .agg xs | .tup xs | .rptr xs=>by simp[RG,CF xs]
 | .nilp | .nilmap | .nilfn | .nili | .ifc=>by simp[RG]
theorem CF: ∀ (xs:List PV),BQ xs xs=true
 | []=>by simp[BQ]
 | x::xs=>by simp[BQ,OT x,CF xs]
end
def can(α:Type)[Enc α](p:PV):Bool:=RG p (enc (dec p:α))
@[simp] theorem A8 {α : Type} [Enc α] (a : α) : can α (enc a) = true := by unfold can; rw [Enc.dec_enc]; exact OT _
theorem a1l{α:Type}[Enc α]{p:PV}(h:can α p=true): ∃ a:α,p=enc a:=⟨_,b9k _ _ h⟩
end Go.Pl
namespace Go.Pl
open Go.RowKit
set_option maxRecDepth 100000
def UO:List PV->PV
 | [.sl _ _ xs,.int _ v]=>.bool (xs.any fun x=>x.asInt==v)
 | _=>.nilp
def YE:List PV->Bool
 | [.sl 1 _ xs,.int .i64 _]=>xs.all PV.isNum&&decide (xs.length<=1099511627776)
 | _=>false
def Xo:IC:=(V5 [Yd 2 (.mv (WN 0)) 0,Yd 3 (.mv (WN 0)) 0] (.seq (V5 [Yd 9 (Vt 0) 0,Yd 10 (.len 1 (.t 9)) 0,Yd 11 (Gz .gtr (.t 10) (WN 6)) 0] (.cond (.t 11) (V5 [Yd 2 (.mv (WN 0)) 0,Yd 3 (.mv (WN 13)) 0] .ret) .skip)) (.seq (V5 [Yd 12 (Vt 0) 0,Yd 13 (.len 1 (.t 12)) 0,Yd 14 (.mv (WN 0)) 0] (.block 0 (.loop [14,13,12,0] (V5 [Yd 15 (Gz .lss (.t 14) (.t 13)) 0] (.seq (.cond (.t 15) .skip (.exit 0)) (.seq (.block 1 (V5 [Yd 16 (.iaddr 1 (.t 12) (.t 14)) 0,Yd 17 (l'' [(.int .i64)] (.t 16)) 0,Yd 5 (Vt 17) 0] (V5 [Yd 18 (Vt 5) 0,Yd 19 (Gz .lss (.t 18) (WN 0)) 0,Yd 20 (Vt 19) 0,FE 21 (Vt 5) 0 20,FE 22 (Gz .gtr (.t 21) (WN 4096)) 0 20,Yd 23 (.pick (.t 20) (.c (.bool true)) (.t 22)) 0] (.cond (.t 23) (V5 [Yd 2 (.mv (WN 0)) 0,Yd 3 (.mv (WN 2)) 0] .ret) .skip)))) (.reg [Yd 24 (Gz .add (.t 14) (WN 1)) 0,Yd 14 (Vt 24) 0] none))))))) (.seq (V5 [Yd 25 (Vt 0) 0,Yd 26 (c'' 152 [(.t 25),(WN 0)]) 0] (.cond (.t 26) (V5 [Yd 2 (.mv (WN 0)) 0,Yd 3 (.mv (WN 0)) 0] .ret) .skip)) (V5 [Yd 6 (.mv (WN 1)) 0] (.seq (V5 [Yd 27 (Vt 0) 0,Yd 28 (.len 1 (.t 27)) 0,Yd 29 (.mv (WN 0)) 0] (.block 2 (.loop [29,28,27,6] (V5 [Yd 30 (Gz .lss (.t 29) (.t 28)) 0] (.seq (.cond (.t 30) .skip (.exit 2)) (.seq (.block 3 (V5 [Yd 31 (.iaddr 1 (.t 27) (.t 29)) 0,Yd 32 (l'' [(.int .i64)] (.t 31)) 0,Yd 8 (Vt 32) 0] (V5 [Yd 33 (Vt 6) 0,Yd 34 (Vt 8) 0,Yd 35 (Gz .mul (.t 33) (.t 34)) 0,Yd 6 (Vt 35) 0] (V5 [Yd 36 (Vt 6) 0,Yd 37 (Gz .gtr (.t 36) (WN 4096)) 0] (.cond (.t 37) (V5 [Yd 2 (.mv (WN 0)) 0,Yd 3 (.mv (WN 3)) 0] .ret) .skip))))) (.reg [Yd 38 (Gz .add (.t 29) (WN 1)) 0,Yd 29 (Vt 38) 0] none))))))) (V5 [Yd 39 (Vt 6) 0,Yd 2 (Vt 39) 0,Yd 3 (.mv (WN 0)) 0] .ret)))))))
def Xp:List IRes:=[(.tmp 2),(.tmp 3)]
def Wp:ZO:=YQ [(152,.pure YE UO)]
theorem b9j{r:PV}(ns:List Int)(t:Bool)(h0:(decide ((↑(Zv ns).length:Int)>6))=true)(hr:(.tup [(.int .i64 0),(.int .i64 13)])=r):Ze Wp 0 (fun st=>fin st Xp=some r) Xo [] (Z0 40 [.sl 1 t (Zv ns)]):=Ze.w (.lit (.ans true (.nil))) (And.intro h0 hr) (by kernel_rfl)
theorem b6k{r:PV}(ns:List Int)(t:Bool)(h0:(decide ((↑(Zv ns).length:Int)>6))=false)(hn:At Wp 0 (fun st=>fin st Xp=some r) Xo 0 40 [(0,(.pv (.sl 1 t (Zv ns)))),(12,(.pv (.sl 1 t (Zv ns)))),(13,(.pv (.int .i64 (↑(Zv ns).length:Int)))),(14,(.pv (.int .i64 0)))] []):Ze Wp 0 (fun st=>fin st Xp=some r) Xo [] (Z0 40 [.sl 1 t (Zv ns)]):=Ze.w (.lit (.ans false (.nil))) (And.intro h0 hn) (by kernel_rfl)
theorem b2n{r:PV}(ns:List Int)(t:Bool)(i:Int)(h0:(decide (i<(↑(Zv ns).length:Int)))=true)(h1:(decide (0<=i)&&decide (i.toNat<(Zv ns).length)&&1==1)=true)(h2:(decide (0+[Sh.int .i64].length<=((Zv ns).getD i.toNat default).cells.length)&&Yx ((Zv ns).getD i.toNat default).cells 0 [Sh.int .i64])=true)(h3:(decide ((((Zv ns).getD i.toNat default).cells.getD 0 default).asInt<0))=true)(hr:(.tup [(.int .i64 0),(.int .i64 2)])=r):At Wp 0 (fun st=>fin st Xp=some r) Xo 0 40 [(0,.pv (.sl 1 t (Zv ns))),(12,.pv (.sl 1 t (Zv ns))),(13,.pv (.int .i64 (Zv ns).length)),(14,.pv (.int .i64 i))] []:=At.w (.lit (.ans true (.req (.req (.lit (.ans true (.lit (.lit (.lit (.nil)))))))))) (And.intro h0 (And.intro h1 (And.intro h2 (And.intro h3 hr)))) (by kernel_rfl)
theorem b2f{r:PV}(ns:List Int)(t:Bool)(i:Int)(h0:(decide (i<(↑(Zv ns).length:Int)))=true)(h1:(decide (0<=i)&&decide (i.toNat<(Zv ns).length)&&1==1)=true)(h2:(decide (0+[Sh.int .i64].length<=((Zv ns).getD i.toNat default).cells.length)&&Yx ((Zv ns).getD i.toNat default).cells 0 [Sh.int .i64])=true)(h3:(decide ((((Zv ns).getD i.toNat default).cells.getD 0 default).asInt<0))=false)(h4:(decide ((((Zv ns).getD i.toNat default).cells.getD 0 default).asInt>4096))=true)(hr:(.tup [(.int .i64 0),(.int .i64 2)])=r):At Wp 0 (fun st=>fin st Xp=some r) Xo 0 40 [(0,.pv (.sl 1 t (Zv ns))),(12,.pv (.sl 1 t (Zv ns))),(13,.pv (.int .i64 (Zv ns).length)),(14,.pv (.int .i64 i))] []:=At.w (.lit (.ans true (.req (.req (.lit (.ans false (.lit (.lit (.lit (.ans true (.nil))))))))))) (And.intro h0 (And.intro h1 (And.intro h2 (And.intro h3 (And.intro h4 hr))))) (by kernel_rfl)
theorem b2b{r:PV}(ns:List Int)(t:Bool)(i:Int)(h0:(decide (i<(↑(Zv ns).length:Int)))=true)(h1:(decide (0<=i)&&decide (i.toNat<(Zv ns).length)&&1==1)=true)(h2:(decide (0+[Sh.int .i64].length<=((Zv ns).getD i.toNat default).cells.length)&&Yx ((Zv ns).getD i.toNat default).cells 0 [Sh.int .i64])=true)(h3:(decide ((((Zv ns).getD i.toNat default).cells.getD 0 default).asInt<0))=false)(h4:(decide ((((Zv ns).getD i.toNat default).cells.getD 0 default).asInt>4096))=false)(hn:At Wp 0 (fun st=>fin st Xp=some r) Xo 0 40 [(0,(.pv (.sl 1 t (Zv ns)))),(12,(.pv (.sl 1 t (Zv ns)))),(13,(.pv (.int .i64 (↑(Zv ns).length:Int)))),(14,(.pv (.int .i64 (IntKind.i64.wrap (i+1)))))] []):At Wp 0 (fun st=>fin st Xp=some r) Xo 0 40 [(0,.pv (.sl 1 t (Zv ns))),(12,.pv (.sl 1 t (Zv ns))),(13,.pv (.int .i64 (Zv ns).length)),(14,.pv (.int .i64 i))] []:=At.w (.lit (.ans true (.req (.req (.lit (.ans false (.lit (.lit (.lit (.ans false (.lit (.nil)))))))))))) (And.intro h0 (And.intro h1 (And.intro h2 (And.intro h3 (And.intro h4 hn))))) (by kernel_rfl)
theorem b2m{r:PV}(ns:List Int)(t:Bool)(i:Int)(h0:(decide (i<(↑(Zv ns).length:Int)))=false)(h1:(YE [(.sl 1 t (Zv ns)),(.int .i64 0)])=true)(h2:((Zv ns).any fun x=>x.asInt==0)=true)(hr:(.tup [(.int .i64 0),(.int .i64 0)])=r):At Wp 0 (fun st=>fin st Xp=some r) Xo 0 40 [(0,.pv (.sl 1 t (Zv ns))),(12,.pv (.sl 1 t (Zv ns))),(13,.pv (.int .i64 (Zv ns).length)),(14,.pv (.int .i64 i))] []:=At.w (.lit (.ans false (.req (.ans true (.nil))))) (And.intro h0 (And.intro h1 (And.intro h2 hr))) (by kernel_rfl)
theorem a8h{r:PV}(ns:List Int)(t:Bool)(i:Int)(h0:(decide (i<(↑(Zv ns).length:Int)))=false)(h1:(YE [(.sl 1 t (Zv ns)),(.int .i64 0)])=true)(h2:((Zv ns).any fun x=>x.asInt==0)=false)(hn:At Wp 0 (fun st=>fin st Xp=some r) Xo 1 40 [(6,(.pv (.int .i64 1))),(27,(.pv (.sl 1 t (Zv ns)))),(28,(.pv (.int .i64 (↑(Zv ns).length:Int)))),(29,(.pv (.int .i64 0)))] []):At Wp 0 (fun st=>fin st Xp=some r) Xo 0 40 [(0,.pv (.sl 1 t (Zv ns))),(12,.pv (.sl 1 t (Zv ns))),(13,.pv (.int .i64 (Zv ns).length)),(14,.pv (.int .i64 i))] []:=At.w (.lit (.ans false (.req (.ans false (.nil))))) (And.intro h0 (And.intro h1 (And.intro h2 hn))) (by kernel_rfl)
theorem b2y{r:PV}(ns:List Int)(t:Bool)(i n:Int)(h0:(decide (i<(↑(Zv ns).length:Int)))=true)(h1:(decide (0<=i)&&decide (i.toNat<(Zv ns).length)&&1==1)=true)(h2:(decide (0+[Sh.int .i64].length<=((Zv ns).getD i.toNat default).cells.length)&&Yx ((Zv ns).getD i.toNat default).cells 0 [Sh.int .i64])=true)(h3:(decide (IntKind.i64.wrap (n*(((Zv ns).getD i.toNat default).cells.getD 0 default).asInt)>4096))=true)(hr:(.tup [(.int .i64 0),(.int .i64 3)])=r):At Wp 0 (fun st=>fin st Xp=some r) Xo 1 40 [(6,.pv (.int .i64 n)),(27,.pv (.sl 1 t (Zv ns))),(28,.pv (.int .i64 (Zv ns).length)),(29,.pv (.int .i64 i))] []:=At.w (.lit (.ans true (.req (.req (.lit (.lit (.ans true (.nil)))))))) (And.intro h0 (And.intro h1 (And.intro h2 (And.intro h3 hr)))) (by kernel_rfl)
theorem b2a{r:PV}(ns:List Int)(t:Bool)(i n:Int)(h0:(decide (i<(↑(Zv ns).length:Int)))=true)(h1:(decide (0<=i)&&decide (i.toNat<(Zv ns).length)&&1==1)=true)(h2:(decide (0+[Sh.int .i64].length<=((Zv ns).getD i.toNat default).cells.length)&&Yx ((Zv ns).getD i.toNat default).cells 0 [Sh.int .i64])=true)(h3:(decide (IntKind.i64.wrap (n*(((Zv ns).getD i.toNat default).cells.getD 0 default).asInt)>4096))=false)(hn:At Wp 0 (fun st=>fin st Xp=some r) Xo 1 40 [(6,(.pv (.int .i64 (IntKind.i64.wrap (n*(((Zv ns).getD i.toNat default).cells.getD 0 default).asInt))))),(27,(.pv (.sl 1 t (Zv ns)))),(28,(.pv (.int .i64 (↑(Zv ns).length:Int)))),(29,(.pv (.int .i64 (IntKind.i64.wrap (i+1)))))] []):At Wp 0 (fun st=>fin st Xp=some r) Xo 1 40 [(6,.pv (.int .i64 n)),(27,.pv (.sl 1 t (Zv ns))),(28,.pv (.int .i64 (Zv ns).length)),(29,.pv (.int .i64 i))] []:=At.w (.lit (.ans true (.req (.req (.lit (.lit (.ans false (.lit (.nil))))))))) (And.intro h0 (And.intro h1 (And.intro h2 (And.intro h3 hn)))) (by kernel_rfl)
theorem b2q{r:PV}(ns:List Int)(t:Bool)(i n:Int)(h0:(decide (i<(↑(Zv ns).length:Int)))=false)(hr:(.tup [(.int .i64 n),(.int .i64 0)])=r):At Wp 0 (fun st=>fin st Xp=some r) Xo 1 40 [(6,.pv (.int .i64 n)),(27,.pv (.sl 1 t (Zv ns))),(28,.pv (.int .i64 (Zv ns).length)),(29,.pv (.int .i64 i))] []:=At.w (.lit (.ans false (.nil))) (And.intro h0 hr) (by kernel_rfl)
end Go.Pl
namespace Go.Pl
open Go.RowKit
def UM(d:Int):Bool:=decide (0<=d)&&decide (d<=4096)
def Bv:Int->List Int->Option Int
 | p,[]=>some p
 | p,d::l=>bif decide (4096<p*d)then none else Bv (p*d) l
def Y2(l:List Int):Int×Int:=
 bif decide (6<l.length)then(0,13)else bif l.all UM then bif l.any (· == 0)then(0,0)else match Bv 1 l with|some n=>(n,0)|none=>(0,3)else(0,2)
def Y7:List PV->PV
 | [.sl _ _ xs]=>.tup [.int .i64 (Y2 (xs.map PV.asInt)).1,.int .i64 (Y2 (xs.map PV.asInt)).2]
 | _=>.nilp
def QG:List PV->Bool
 | [.sl 1 _ xs]=>xs.all PV.isNum
 | _=>false
theorem a0p{r:PV}(ns:List Int)(t:Bool)(h6:ns.length<=6)(ha:ns.all UM=true): ∀ (m k:Nat) (n:Int),m+k=ns.length->0<=n->n<=4096 ->
  r=(match Bv n (ns.drop k)with|some n=>.tup [.int .i64 n,.int .i64 0]|none=>.tup [.int .i64 0,.int .i64 3]) ->
  At Wp 0 (fun st=>fin st Xp=some r) Xo 1 40 [(6,.pv (.int .i64 n)),(27,.pv (.sl 1 t (Zv ns))),(28,.pv (.int .i64 (Zv ns).length)),(29,.pv (.int .i64 k))] []:=by
 intro m
 induction m with
 | zero=>
  intro k n hk h0 h1 hr
  have:ns.drop k=[]:=List.drop_of_length_le (by omega)
  rw[this]at hr
  exact b2q ns t k n (by simp;omega) hr.symm
 | succ m ih=>
  intro k n hk h0 h1 hr
  have hlt:k<ns.length:=by omega
  have hd:0<=ns[k]∧ns[k]<=4096:=by
   have:=List.all_eq_true.1 ha _ (List.getElem_mem hlt)
   simpa [UM]using this
  have hp:0<=n*ns[k]∧n*ns[k]<=4096*4096:=⟨Int.mul_nonneg h0 hd.1,Int.mul_le_mul h1 hd.2 hd.1 (by omega)⟩
  have hw:IntKind.i64.wrap (n*ns[k])=n*ns[k]:=Vn (by omega) (by omega)
  rw[List.drop_eq_getElem_cons hlt,Bv]at hr
  have e:=Jg hlt
  by_cases hb:4096<n*ns[k]
  ·simp only[hb,decide_true,cond_true]at hr
   refine b2y ns t k n (by simp;omega) (by simp;omega) (by rw[e];rfl) ?_ hr.symm
   rw[e]
   simpa [PV.cells,PV.asInt,hw]using hb
  ·simp only[hb,decide_false,cond_false]at hr
   refine b2a ns t k n (by simp;omega) (by simp;omega) (by rw[e];rfl) ?_ ?_
   ·rw[e]
    simpa [PV.cells,PV.asInt,hw]using Int.not_lt.1 hb
   ·rw[e,next (by omega)]
    simp only[PV.cells,List.getD_cons_zero,PV.asInt,hw]
    exact ih (k+1) (n*ns[k]) (by omega) hp.1 (by omega) hr
theorem a1g(ns:List Int)(t:Bool)(h6:ns.length<=6): ∀ (m k:Nat),m+k=ns.length->(∀ j (hj:j<ns.length),j<k->UM ns[j]=true) ->
  At Wp 0 (fun st=>fin st Xp=some (Y7 [.sl 1 t (Zv ns)])) Xo 0 40 [(0,.pv (.sl 1 t (Zv ns))),(12,.pv (.sl 1 t (Zv ns))),(13,.pv (.int .i64 (Zv ns).length)),(14,.pv (.int .i64 k))] []:=by
 intro m
 induction m with
 | zero=>
  intro k hk hd
  have ha:ns.all UM=true:=by
   rw[List.all_eq_true]
   intro x hx
   obtain⟨j,hj,rfl⟩:=List.getElem_of_mem hx
   exact hd j hj (by omega)
  have hpc:YE [.sl 1 t (Zv ns),.int .i64 0]=true:=by
   simp only[YE,b9w,Bool.true_and,decide_eq_true_eq,BH];omega
  by_cases hz:ns.any (· == 0)=true
  ·refine b2m ns t k (by simp;omega) hpc (by rw[Tn];exact hz) ?_
   simp[Y7,Y2,Xl,ha,hz,Nat.not_lt.2 h6]
  ·simp only[Bool.not_eq_true]at hz
   refine a8h ns t k (by simp;omega) hpc (by rw[Tn];exact hz) ?_
   refine a0p ns t h6 ha ns.length 0 1 (by omega) (by omega) (by omega) ?_
   simp only[Y7,Y2,Xl,ha,hz,Nat.not_lt.2 h6,decide_false,cond_false,cond_true,List.drop_zero]
   cases Bv 1 ns <;> rfl
 | succ m ih=>
  intro k hk hd
  have hlt:k<ns.length:=by omega
  have e:=Jg hlt
  have hbad:UM ns[k]=false->Y7 [.sl 1 t (Zv ns)] = .tup [.int .i64 0,.int .i64 2]:=by
   intro hb
   have ha:ns.all UM=false:=by
    rw[List.all_eq_false]
    exact⟨_,List.getElem_mem hlt,by simp[hb]⟩
   simp[Y7,Y2,Xl,ha,Nat.not_lt.2 h6]
  by_cases h1:ns[k]<0
  ·refine b2n ns t k (by simp;omega) (by simp;omega) (by rw[e];rfl) (by rw[e];simpa [PV.cells,PV.asInt]using h1) (hbad ?_).symm
   simp[UM];omega
  ·by_cases h2:4096<ns[k]
   ·refine b2f ns t k (by simp;omega) (by simp;omega) (by rw[e];rfl) (by rw[e];simpa [PV.cells,PV.asInt]using h1) (by rw[e];simpa [PV.cells,PV.asInt]using h2) (hbad ?_).symm
    simp[UM];omega
   ·refine b2b ns t k (by simp;omega) (by simp;omega) (by rw[e];rfl) (by rw[e];simpa [PV.cells,PV.asInt]using h1) (by rw[e];simpa [PV.cells,PV.asInt]using h2) ?_
    rw[next (by omega)]
    refine ih (k+1) (by omega) ?_
    intro j hj hjk
    by_cases he:j=k
    ·subst he
     simp[UM];omega
    ·exact hd j hj (by omega)
theorem c0f: ∀ ps,QG ps=true->Ze Wp 0 (fun st=>fin st Xp=some (Y7 ps)) Xo [] (Z0 40 ps):=by
 intro ps hp
 unfold QG at hp
 split at hp
 ·rename_i t xs
  obtain⟨ns,rfl⟩:=Ae hp
  by_cases h6:6<ns.length
  ·refine b9j ns t (by simp;omega) ?_
   simp[Y7,Y2,Xl,h6]
  ·refine b6k ns t (by simp;omega) ?_
   exact a1g ns t (by omega) ns.length 0 (by omega) (fun j hj h=>by omega)
 ·cases hp
end Go.Pl
namespace Go.Pl
open Go.RowKit
open Enc (enc dec is)
open EncL (encL decL isL)
structure Arr where
 e:Str
 d:List Int
 x:List Int
 deriving DecidableEq
instance:Enc Arr where
 sz:=3
 enc v:=.agg [enc v.e,enc v.d,enc v.x]
 dec | .agg [a,b,c]=>⟨dec a,dec b,dec c⟩|_=>⟨⟨[]⟩,[],[]⟩
 is | .agg [a,b,c]=>is Str a&&is (List Int) b&&is (List Int) c|_=>false
 is_enc v:=by simp
 dec_enc v:=by simp
 sub p h:=by
  cases p with
  | agg xs=>
   match xs,h with
   | [a,b,c],h=>
    simp only[Bool.and_eq_true]at h
    exact .agg (.cons (Enc.sub a h.1.1).2 (.cons (Enc.sub b h.1.2).2 (.cons (Enc.sub c h.2).2 .nil)))
  | _=>cases h
@[simp] theorem d7i (a b c : PV) : is Arr (.agg [a, b, c]) = (is Str a && is (List Int) b && is (List Int) c) := rfl
@[simp] theorem c6t (a b c : PV) : (dec (.agg [a, b, c]) : Arr) = ⟨dec a, dec b, dec c⟩ := rfl
def Wo:List UInt8:=[105,110,116]
def XJ:List UInt8:=[98,111,111,108]
def X4(e:Str)(n:Int):Bool:=if e.s=Wo then decide (-2147483648<=n)&&decide (n<=2147483647)else if e.s=XJ then n==0||n==1 else false
def WQ(a:Arr):Bool:=decide (a.d.length<=2000000)&&decide (a.x.length<=2000000)
def KD(e:Str)(d x:List Int):Arr×Int:=
 if e.s≠Wo∧e.s≠XJ then(⟨⟨[]⟩,[],[]⟩,12)else if (Y2 d).2≠0 then(⟨⟨[]⟩,[],[]⟩,(Y2 d).2)else if (x.length:Int)≠(Y2 d).1 then(⟨⟨[]⟩,[],[]⟩,1)else if x.all (X4 e)then(⟨e,d,x⟩,0)else(⟨⟨[]⟩,[],[]⟩,2)
def X8(a:Arr):Bool:=(KD a.e a.d a.x).2==0
def Ak:List AV->List AObj->Bool
 | [.pv (.int .i64 _),.ptr 0 0],[.box [.pv (.str _)]]=>true
 | _,_=>false
def Lf:List AV->List AObj->AV×List AObj×List AObj
 | [.pv (.int _ n),.ptr 0 0],[.box [.pv (.str e)]]=>(.pv (.bool (!X4 ⟨e⟩ n)),[.box [.pv (.str e)]],[])
 | _,_=>default
def QD(e:Str):List Int->Nat->Int
 | [],_=> -1
 | n::l,k=>if X4 e n then QD e l (k+1)else k
def VF:List AV->List AObj->Bool
 | [.pv (.sl 1 _ xs),.fn 153 [] [.ptr 0 0]],[.box [.pv (.str _)]]=>xs.all (is Int)&&decide (xs.length<=2000000)
 | _,_=>false
def AL:List AV->List AObj->AV×List AObj×List AObj
 | [.pv (.sl _ _ xs),_],[.box [.pv (.str e)]]=>(.pv (.int .i64 (QD ⟨e⟩ (xs.map dec) 0)),[.box [.pv (.str e)]],[])
 | _,_=>default
def Nr:List AV->List AObj->AV×List AObj×List AObj
 | [.pv (.sl _ _ xs),_],[.box [.pv (.str e)]]=>(.pv (.bool (decide (0<=QD ⟨e⟩ (xs.map dec) 0))),[.box [.pv (.str e)]],[])
 | _,_=>default
end Go.Pl
namespace Go.Pl
open Go.RowKit
open Enc (enc dec is)
open EncL (encL decL isL)
def Qk:List (List UInt8):=[[98,111,111,108],[100,101,102],[101,120,112,111,114,116],[102,97,108,115,101],[102,111,108,100],[105,109,112,111,114,116],[105,110],[105,110,116],[108,101,116],[109,111,100,117,108,101],[115,99,97,110],[115,105,122,101],[116,114,117,101],[119,104,101,114,101]]
def Fh(c:UInt8):Bool:=digB c||lowB c
def ZN:List UInt8->Bool
 | []=>false
 | c::r=>lowB c&&r.all Fh&&decide (r.length<=29)&& !Qk.contains (c::r)
def fullI(s:List UInt8):Bool:=match s.dropWhile fun c=>c != 46 with
 | []=>false
 | _::r=>ZN (s.takeWhile fun c=>c != 46)&&ZN r
def JV(s:List UInt8):Bool:=ZN s||fullI s
def Tm.nd:Tm->Nd
 | .mk n _=>n
def Tm.ks:Tm->List Tm
 | .mk _ ks=>ks
def Ux(n:Nd):Arr:=⟨n.elem,n.dims,n.data⟩
def Tx(n:Nd):Bool:=decide (n.elem=⟨[]⟩)&&n.dims.isEmpty&&n.data.isEmpty
def Uv(n:Nd):Bool:=if n.name.s=XJ then decide (n.num=0)||decide (n.num=1)else decide (n.name.s=Wo)&&decide (-2147483648<=n.num)&&decide (n.num<2147483648)
def Rs(n:Nd):Bool:=n.sizes.isEmpty&&n.ranks.isEmpty
def Xw(l:List Int):Bool:=l.all fun n=>decide (0<=n)&&decide (n<=6)
def XK(n:Nd)(k:Nat):Bool:=JV n.name.s&&decide (0<=n.num)&&decide (n.num<=64)&&decide (k<=8)&&(n.ranks.isEmpty||decide (n.ranks.length=k))&&decide (n.sizes.length<=4)&&n.sizes.all Zp&&Xw n.ranks
def YI(n:Nd)(k:Nat):Bool:=
 if n.kind=1 then Tx n&&ZN n.name.s&&decide (n.num=0)&&decide (k=0)&&Rs n
 else if n.kind=2 then Tx n&&Uv n&&decide (k=0)&&Rs n
 else if n.kind=3 then decide (n.name=⟨[]⟩)&&decide (n.num=0)&&decide (k=0)&&Rs n&&X8 (Ux n)
 else if n.kind=4 then Tx n&&decide (n.name=⟨[]⟩)&&decide (n.num=0)&&decide (k=0)&&decide (n.sizes.length=1)&&n.sizes.all Zp&&n.ranks.isEmpty
 else if n.kind=5 then Tx n&&ZN n.name.s&&decide (n.num=0)&&decide (k=2)&&Rs n
 else if n.kind=6 then Tx n&&XK n k
 else if n.kind=7 then Tx n&&decide (n.name=⟨[]⟩)&&decide (n.num=0)&&decide (1<=k)&&decide (k<=16)&&Rs n
 else if n.kind=8 then Tx n&&JV n.name.s&&decide (n.num=0)&&decide (k=2)&&Rs n
 else if n.kind=9 then Tx n&&JV n.name.s&&decide (n.num=0)&&decide (k=1)&&Rs n
 else false
def Wx(n:Nd)(k:Nat):Bool:=decide (0<=n.line)&&decide (n.line<=10000)&&YI n k
mutual
def Yl:Tm->Nat
 | .mk _ ks=>Z9 ks+1
def Z9:List Tm->Nat
 | []=>0
 | k::ks=>Yl k+Z9 ks
end
mutual
def ZM:Tm->Nat
 | .mk _ ks=>ZW ks+1
def ZW:List Tm->Nat
 | []=>0
 | k::ks=>max (ZM k) (ZW ks)
end
mutual
def Yn(l:Nat):Tm->List (Tm×Int)
 | .mk n ks=>(.mk n ks,(l:Int))::Yf (l+1) ks
def Yf(l:Nat):List Tm->List (Tm×Int)
 | []=>[]
 | k::ks=>Yn l k++Yf l ks
end
def Jp(t:Tm):Bool:=Wx t.nd t.ks.length
def Y6(t:Tm):List Tm:=(Yn 1 t).map (·.1)
def Y4(t:Tm):Bool:=decide (Yl t<=400)&&decide (ZM t<=40)&&(Y6 t).all Jp
def Ug(l:List Str)(s:Str):List Str:=match l with
 | []=>[s]
 | t::r=>if t.s<s.s then t::Ug r s else if t=s then t::r else s::t::r
def Ut(t:Tm):List Str:=t.nd.sizes.flatMap fun l=>l.t.map (·.v)
def KY(t:Tm):List Str:=((Y6 t).flatMap Ut).foldl Ug []
def Ru(t:Tm):Bool:=decide (t.nd.name.s.length<=40)&&decide (t.nd.data.length<=30)&&decide (t.nd.dims.length<=8)&&decide (t.nd.sizes.length<=6)&&decide (t.nd.ranks.length<=10)&&t.nd.sizes.all fun l=>decide (l.t.length<=6)
def Dr(t:Tm)(n:Int):Bool:=decide (ZM t<=12)&&decide ((Yl t:Int)<=n)&&(Y6 t).all Ru
def GL{α:Type}(l:List α):Bool:=decide (l.length<=9223372036854775807)
def e1s(n:Nd):Bool:=GL n.dims&&GL n.data&&GL n.ranks&&GL n.sizes&&n.sizes.all X3&&decide (n.name.s.length<=9223372036854775807)
mutual
def tOk:Tm->Bool
 | .mk n ks=>e1s n&&GL ks&&d9o ks
def d9o:List Tm->Bool
 | []=>true
 | k::ks=>tOk k&&d9o ks
end
theorem KC(l:Nat)(ks:List Tm):Yf l ks=ks.flatMap (Yn l):=by
 induction ks with
 | nil=>simp[Yf]
 | cons k ks ih=>simp[Yf,ih]
theorem Ho(ks:List Tm):Z9 ks=(ks.map Yl).sum:=by
 induction ks with
 | nil=>simp[Z9]
 | cons k ks ih=>simp[Z9,ih]
mutual
theorem QW(l:Nat): ∀ t:Tm,(Yn l t).length=Yl t
 | .mk n ks=>by rw[Yn,Yl,List.length_cons,Hm (l+1) ks]
theorem Hm(l:Nat): ∀ ks:List Tm,(Yf l ks).length=Z9 ks
 | []=>by simp[Yf,Z9]
 | k::ks=>by rw[Yf,Z9,List.length_append,QW l k,Hm l ks]
end
mutual
theorem CQ(l:Nat): ∀ t:Tm,(∀ p∈Yn l t,(l:Int)<=p.2∧p.2<((l+ZM t:Nat):Int))∧ ∃ p∈Yn l t,p.2=((l+ZM t - 1:Nat):Int)
 | .mk n ks=>by
  have hk:=Rm (l+1) ks
  rw[Yn,ZM]
  refine⟨fun p hp=> ?_,?_⟩
  ·rcases List.mem_cons.1 hp with rfl|hp
   ·exact⟨Int.le_refl _,by show(l:Int)<_;omega⟩
   ·have:=hk.1 p hp
    omega
  ·cases hks:ks with
   | nil=>exact⟨(.mk n [],(l:Int)),by simp[Yf],by simp[ZW]⟩
   | cons k ks'=>
    obtain⟨p,hp,e⟩:=hk.2 (by rw[hks];simp)
    rw[<- hks]
    exact⟨p,List.mem_cons_of_mem _ hp,by rw[e];congr 1;omega⟩
theorem Rm(l:Nat): ∀ ks:List Tm,(∀ p∈Yf l ks,(l:Int)<=p.2∧p.2<((l+ZW ks:Nat):Int))∧(ks≠[]-> ∃ p∈Yf l ks,p.2=((l+ZW ks - 1:Nat):Int))
 | []=>⟨fun p hp=>by simp[Yf]at hp,fun h=>absurd rfl h⟩
 | k::ks=>by
  have h1:=CQ l k
  have h2:=Rm l ks
  rw[Yf,ZW]
  refine⟨fun p hp=> ?_,fun _=> ?_⟩
  ·rcases List.mem_append.1 hp with hp|hp
   ·have:=h1.1 p hp;omega
   ·have:=h2.1 p hp;omega
  ·by_cases hc:ZW ks<=ZM k
   ·obtain⟨p,hp,e⟩:=h1.2
    exact⟨p,List.mem_append_left _ hp,by rw[e];congr 1;omega⟩
   ·cases hks:ks with
    | nil=>rw[hks]at hc;simp[ZW]at hc
    | cons x xs=>
     obtain⟨p,hp,e⟩:=h2.2 (by rw[hks];simp)
     rw[<- hks]
     exact⟨p,List.mem_append_right _ hp,by rw[e];congr 1;omega⟩
end
end Go.Pl
namespace Go.Pl
open Go.RowKit
open Enc (enc dec is)
open EncL (encL decL isL)
def e0h:AV×List AObj×List AObj:=(.tup [.pv (.int .i64 0),.pv .nilmap,.pv (.bool false)],[],[])
structure FnV (n:Nat) where
 u:Unit:=()
instance (n:Nat):Enc (FnV n) where
  sz:=1
  enc _:=.fn n
  dec _:={}
  is | .fn m=>m==n|_=>false
  is_enc _:=by simp
  dec_enc _:=rfl
  sub p h:=by
    cases p with
    | fn m => have : m = n := by simpa using h
              subst this;exact .refl _
    | _=>cases h
def XO{α:Type}(p:α->Bool)(l:List α):Int:=match l.findIdx? p with|some i=>i|none=> -1
theorem Qs{α:Type}(p:α->Bool)(l:List α):decide (XO p l ≥ 0)=l.any p:=by
 unfold XO
 cases h:l.findIdx? p with
 | none=>
  rw[List.findIdx?_eq_none_iff]at h
  have:l.any p=false:=by rw[List.any_eq_false];intro x hx;simp[h x hx]
  rw[this];rfl
 | some i=>
  have:l.any p=true:=by
   rw[List.findIdx?_eq_some_iff_getElem]at h
   obtain⟨hi,hp,_⟩:=h
   rw[List.any_eq_true]
   exact⟨_,List.getElem_mem hi,hp⟩
  rw[this]
  exact decide_eq_true (by show(i:Int) ≥ 0;omega)
theorem Mv{α:Type}(p:α->Bool)(l:List α)(i:Nat)(hlt:i<l.length)(hno : ∀ j (h:j<l.length),j<i->p l[j]=false)(hp:p l[i]=true):XO p l=i:=by
 unfold XO
 have:l.findIdx? p=some i:=by
  rw[List.findIdx?_eq_some_iff_getElem]
  exact⟨hlt,hp,fun j hj=>by simp[hno j (by omega) hj]⟩
 rw[this]
theorem Lu{α:Type}(p:α->Bool)(l:List α)(hno : ∀ j (h:j<l.length),p l[j]=false):XO p l = -1:=by
 unfold XO
 have:l.findIdx? p=none:=by
  rw[List.findIdx?_eq_none_iff]
  intro x hx
  obtain⟨j,hj,rfl⟩:=List.getElem_of_mem hx
  exact hno j hj
 rw[this]
end Go.Pl
namespace Go.Pl
open Go.RowKit
open Enc (enc dec is)
open EncL (encL decL isL)
mutual
def cSm:Cert->Bool
 | .mk _ m l ks=>decide (m.length<=9223372036854775807)&&Ws l&&decide (ks.length<=9223372036854775807)&&d0w ks
def d0w:List Cert->Bool
 | []=>true
 | c::cs=>cSm c&&d0w cs
end
mutual
theorem d7g: ∀ {c:Cert},cSm c=true->cOk c=true
 | .mk k m l ks,h=>by
  simp only[cSm,cOk,Ws,Bool.and_eq_true]at h ⊢
  exact⟨⟨⟨h.1.1.1,h.1.1.2.1⟩,h.1.2⟩,a5y h.2⟩
theorem a5y: ∀ {cs:List Cert},d0w cs=true->d1d cs=true
 | [],_=>rfl
 | c::cs,h=>by
  simp only[d0w,d1d,Bool.and_eq_true]at h ⊢
  exact⟨d7g h.1,a5y h.2⟩
end
theorem Jo{s:Str}(h:Yq s=true):s.s.length<=30:=by
 unfold Yq at h
 split at h
 ·cases h
 ·rename_i c r hs
  rw[hs]
  split at h
  ·simp only[Bool.and_eq_true,decide_eq_true_eq]at h
   have:=h.2
   simp only[List.length_cons]
   omega
  ·simp only[Bool.and_eq_true,decide_eq_true_eq]at h
   have:=h.2
   simp only[List.length_cons]
   omega
theorem Jy{l:Lin}(h:Zp l=true):l.t.length<=12:=by
 simp only[Zp,Bool.and_eq_true,decide_eq_true_eq]at h
 exact h.2
theorem Ue{l:Lin}(h:Zp l=true){t:Coef}(ht:t∈l.t):Yq t.v=true∧t.c≠0∧ -1000000<=t.c∧t.c<=1000000:=by
 simp only[Zp,Bool.and_eq_true,decide_eq_true_eq,List.all_eq_true]at h
 have:=h.1.1.1 t ht
 simp only[Yp,Bool.and_eq_true,decide_eq_true_eq]at this
 exact⟨this.1.1,this.1.2,this.2⟩
theorem MJ{l:Lin}(h:Zp l=true): -1000000<=l.k∧l.k<=1000000:=by
 simp only[Zp,Yp,Bool.and_eq_true,decide_eq_true_eq]at h
 exact h.1.2
end Go.Pl
namespace Go.Pl
open Enc (enc dec is)
@[irreducible] def Gf (a : Nat) (r : List UInt8) : Nat := r.foldl (fun a c => a * 10 + (c.toNat - 48)) a
theorem DK(a:Nat):Gf a []=a:=by unfold Gf;rfl
theorem QP(a:Nat)(c:UInt8)(r:List UInt8):Gf a (c::r)=Gf (a*10+(c.toNat - 48)) r:=by unfold Gf;rfl
theorem WT{c:UInt8}:digB c=true ↔ 48<=c.toNat∧c.toNat<=57:=by
 simp only[digB,Bool.and_eq_true,decide_eq_true_eq,UInt8.le_iff_toNat_le]
 have e1:(48:UInt8).toNat=48:=rfl
 have e2:(57:UInt8).toNat=57:=rfl
 rw[e1,e2]
theorem a7k: ∀ (r:List UInt8) (a:Nat),r.all digB=true->Gf a r<(a+1)*10 ^ r.length
 | [],a,_=>by simp[DK]
 | c::r,a,h=>by
  simp only[List.all_cons,Bool.and_eq_true,WT]at h
  have:=a7k r (a*10+(c.toNat - 48)) h.2
  rw[QP,List.length_cons,Nat.pow_succ]
  refine Nat.lt_of_lt_of_le this ?_
  rw[Nat.mul_comm (10 ^ r.length) 10,<- Nat.mul_assoc]
  exact Nat.mul_le_mul_right _ (by omega)
theorem NK: ∀ (r:List UInt8) (a:Nat),a<=Gf a r
 | [],a=>by rw[DK];exact Nat.le_refl _
 | c::r,a=>by
  have:=NK r (a*10+(c.toNat - 48))
  rw[QP]
  omega
theorem Px: ∀ (r:List UInt8) (a:Nat),r.all digB=true->Gf a r<1000000000000000000->Lib.parseUint10 a r = .ok (Gf a r)
 | [],a,_,_=>by rw[DK,Lib.parseUint10]
 | c::r,a,h,hv=>by
  simp only[List.all_cons,Bool.and_eq_true,WT]at h
  rw[QP]at hv ⊢
  have hge:=NK r (a*10+(c.toNat - 48))
  rw[Lib.parseUint10,if_pos h.1,if_neg (by omega),if_neg (by omega)]
  exact Px r _ h.2 hv
theorem c4a{a d:Nat}(ha:1<=a)(hd:d<=9):Lib.decDigits (a*10+d)=Lib.decDigits a++[UInt8.ofNat (48+d)]:=by
 rw[Lib.decDigits,dif_neg (by omega),show(a*10+d) / 10=a by omega,show(a*10+d) % 10=d by omega]
theorem a6m: ∀ (r:List UInt8) (a:Nat),1<=a->r.all digB=true->Lib.decDigits (Gf a r)=Lib.decDigits a++r
 | [],a,_,_=>by simp[DK]
 | c::r,a,ha,h=>by
  simp only[List.all_cons,Bool.and_eq_true,WT]at h
  rw[QP,a6m r _ (by omega) h.2,c4a ha (by omega)]
  have:UInt8.ofNat (48+(c.toNat - 48))=c:=by
   rw[show 48+(c.toNat - 48)=c.toNat by omega]
   exact UInt8.ofNat_toNat
  rw[this]
  simp
theorem b3r{n:Nat}(h:n<256):(UInt8.ofNat n).toNat=n:=by rw[UInt8.toNat_ofNat'];omega
theorem Sc: ∀ (u:Nat),1<=u->(Lib.decDigits u).all digB=true∧(Lib.decDigits u).head? ≠ some 48∧Lib.decDigits u≠[]:=by
 intro u
 induction u using Nat.strongRecOn with
 | _ u ih=>
  intro h1
  rw[Lib.decDigits]
  by_cases h:u<10
  ·rw[dif_pos h]
   refine⟨?_,?_,by simp⟩
   ·simp only[List.all_cons,List.all_nil,Bool.and_true]
    rw[WT,b3r (by omega)]
    omega
   ·simp only[List.head?_cons,ne_eq,Option.some.injEq]
    intro e
    have:=congrArg UInt8.toNat e
    rw[b3r (by omega)]at this
    have e48:(48:UInt8).toNat=48:=rfl
    rw[e48]at this
    omega
  ·rw[dif_neg h]
   obtain⟨i1,i2,i3⟩:=ih (u / 10) (by omega) (by omega)
   refine⟨?_,?_,by simp⟩
   ·rw[List.all_append,i1]
    simp only[List.all_cons,List.all_nil,Bool.and_true,Bool.true_and]
    rw[WT,b3r (by omega)]
    omega
   ·cases hd:Lib.decDigits (u / 10)with
    | nil=>exact absurd hd i3
    | cons c r=>rw[hd]at i2;simpa using i2
def EO(r:List UInt8):Bool:=r.all digB&& !r.isEmpty&&decide (r.head? ≠ some 48)
theorem d5x(b:Bool):U3 (enc (⟨b⟩:Er)) = !b:=by cases b <;> rfl
theorem d2s(e:Er):Sk (enc e)=true:=by obtain⟨b⟩:=e;cases b <;> rfl
theorem a5x(r:List UInt8)(hr:r.length<=9):(U3 (enc (YL ⟨r⟩).2)&&decide ((YL ⟨r⟩).1>0)&&(Lib.itoa (YL ⟨r⟩).1==r))=EO r:=by
 by_cases hn:EO r=true
 ·rw[hn]
  simp only[EO,Bool.and_eq_true,Bool.not_eq_true',decide_eq_true_eq]at hn
  obtain⟨⟨h1,h2⟩,h3⟩:=hn
  cases r with
  | nil=>simp at h2
  | cons c r=>
   have h1':=h1
   simp only[List.all_cons,Bool.and_eq_true,WT]at h1
   have hc:c≠48:=by simpa using h3
   have hc':c.toNat≠48:=fun e=>hc (UInt8.toNat_inj.1 (by rw[e];rfl))
   have hv:=a7k (c::r) 0 h1'
   have hp:10 ^ (c::r).length<=10 ^ 9:=Nat.pow_le_pow_right (by omega) hr
   have hpm:=Px (c::r) 0 h1' (by omega)
   have hat:Lib.atoiAll (c::r) = .ok (Gf 0 (c::r):Int):=by
    have e1 : ¬ (c.toNat=43∨c.toNat=45):=by omega
    have e2 : ¬ c.toNat=45:=by omega
    simp only[Lib.atoiAll,if_neg e1,Lib.parseMag,if_neg (show ¬ (c::r=[]) by simp),hpm]
    rw[if_neg (by omega),if_neg (fun e=>e2 e.1),if_neg e2]
   have ha:YL ⟨c::r⟩=((Gf 0 (c::r):Int),⟨false⟩):=by simp only[YL,hat]
   have hvd:Gf 0 (c::r)=Gf (c.toNat - 48) r:=by rw[QP];congr 1;omega
   have hpos:=NK r (c.toNat - 48)
   rw[ha]
   have h4:Lib.itoa (Gf 0 (c::r):Int)=c::r:=by
    rw[Lib.itoa,if_neg (by omega),Int.toNat_natCast,hvd,a6m r _ (by omega) h1.2,Lib.decDigits,dif_pos (by omega)]
    have:UInt8.ofNat (48+(c.toNat - 48))=c:=by
     rw[show 48+(c.toNat - 48)=c.toNat by omega]
     exact UInt8.ofNat_toNat
    rw[this];rfl
   simp only[d5x,h4,beq_self_eq_true,Bool.and_true,Bool.not_false,Bool.true_and]
   exact decide_eq_true (by omega)
 ·have hn:EO r=false:=by simpa using hn
  rw[hn]
  by_cases h1:decide ((YL ⟨r⟩).1>0)=true
  ·by_cases h2:(Lib.itoa (YL ⟨r⟩).1==r)=true
   ·exfalso
    have h1:(YL ⟨r⟩).1>0:=by simpa using h1
    have h2:Lib.itoa (YL ⟨r⟩).1=r:=by simpa using h2
    rw[Lib.itoa,if_neg (by omega)]at h2
    obtain⟨d1,d2,d3⟩:=Sc (YL ⟨r⟩).1.toNat (by omega)
    rw[h2]at d1 d2 d3
    have:EO r=true:=by simp only[EO,d1,decide_eq_true d2,Bool.true_and,Bool.and_true];cases r <;> simp at d3 ⊢
    rw[this]at hn;cases hn
   ·simp[h2]
  ·simp[h1]
theorem OX(r:List UInt8):Yq ⟨95::r⟩=(EO r&&decide (r.length<=9)):=by simp[Yq,EO]
end Go.Pl
namespace Go.Pl
open Go.RowKit
open Enc (enc dec is)
open EncL (encL decL isL)
def XP(o:List UInt8)(n:Int)(s:List UInt8):List UInt8:=
 (if decide (n ≥ 0)&&decide (o≠[])then o++[43]else o)++((if decide (s≠[])&&(decide (n=1)||decide (n = -1))then Lib.trimSuffix (Zn n).s [49]else(Zn n).s)++s)
def Ck(ts:List Coef):List UInt8:=ts.foldl (fun o t=>XP o t.c t.v.s) []
def ZY(l:Lin):List UInt8:=if Zp l then(if decide (l.k≠0)||decide (Ck l.t=[])then XP (Ck l.t) l.k []else Ck l.t)else []
def Wz:List AV->List AObj->Bool
 | [.pv (.int .i64 n),.pv (.str s),.ptr 0 0],[.box [.pv (.str o)]]=>decide (-9223372036854775808<=n)&&decide (n<=9223372036854775807)&&decide (s.length<=1000000)&&decide (o.length<=1000000)
 | _,_=>false
def GX:List AV->List AObj->AV×List AObj×List AObj
 | [.pv (.int .i64 n),.pv (.str s),.ptr 0 0],[.box [.pv (.str o)]]=>(.tup [],[.box [.pv (.str (XP o n s))]],[])
 | _,_=>e0h
end Go.Pl
namespace Go.Pl
open Go.RowKit
open Enc (enc dec is)
open EncL (encL decL isL)
structure OpR where
 s:List UInt8
 u:Bool
 n:List UInt8
 l:Int
 deriving DecidableEq
def XL:List OpR:=[⟨[124,124],false,[111,114],1⟩,⟨[38,38],false,[97,110,100],2⟩,⟨[61,61],false,[101,113],3⟩,⟨[33,61],false,[110,101],3⟩,⟨[60],false,[108,116],3⟩,⟨[60,61],false,[108,101],3⟩,⟨[62],false,[103,116],3⟩,⟨[62,61],false,[103,101],3⟩,⟨[43],false,[97,100,100],4⟩,⟨[45],false,[115,117,98],4⟩,⟨[42],false,[109,117,108],5⟩,⟨[47],false,[100,105,118],5⟩,⟨[37],false,[109,111,100],5⟩,⟨[45],true,[110,101,103],6⟩,⟨[33],true,[110,111,116],6⟩]
def GA(n:List UInt8):Option OpR:=XL.find? fun r=>r.n==n
def a2r(s:List UInt8)(u:Bool):Option OpR:=XL.find? fun r=>r.s==s&&r.u==u
def Jh(n:Nd)(k:Nat):Option OpR:=match GA n.name.s with
 | none=>none
 | some r=>if n.kind=6∧k=(if r.u then 1 else 2)∧n.sizes=[]∧n.num=0∧n.ranks=[]then some r else none
def BP(n:Nd)(k:Nat):Int:=if n.kind=5 then 0 else match Jh n k with
 | some r=>r.l
 | none=>if n.kind=2∧n.name.s=Wo∧n.num<0 then 6 else 7
def YV(t:Tm):Int:=BP t.nd t.ks.length
def VZ(b:Bool)(s:List UInt8):List UInt8:=if b then [40]++s++[41]else s
def Ya:List (List UInt8)->List UInt8
 | []=>[]
 | [s]=>s
 | s::r=>s++[44,32]++Ya r
def Qw(n:Int):List UInt8:=(Zn n).s
def Vh:List Int->List UInt8
 | []=>[]
 | [n]=>Qw n
 | n::r=>Qw n++[32]++Vh r
def CG(a:Arr):List UInt8:=(if a.e.s=XJ then [35,98,91]else [35,91])++Vh a.d++[58]++a.x.flatMap (fun n=>[32]++Qw n)++[93]
def Cz(n:Nd):List UInt8:=if n.name.s=Wo then Qw n.num else if n.num=1 then [116,114,117,101]else [102,97,108,115,101]
def V3(n:Nd)(ks:List (List UInt8)):List UInt8:=
 n.name.s++(if n.sizes=[]then []else [91]++Ya (n.sizes.map ZY)++[93])++(if n.num=0 then []else [123]++Qw n.num++[125])++(if n.ranks=[]then []else [64,40]++Ya (n.ranks.map Qw)++[41])++([40]++Ya ks++[41])
def Ql(n:Nd)(ks:List (Int×Bool×List UInt8)):List UInt8:=
 match Jh n ks.length,ks with
 | some r,[k]=>r.s++VZ (decide (k.1<6)||(decide (r.s=[45])&&k.2.1)) k.2.2
 | some r,[a,b]=>VZ (decide (a.1<r.l)||(decide (a.1=3)&&decide (r.l=3))) a.2.2++[32]++r.s++[32]++VZ (decide (b.1<=r.l)) b.2.2
 | _,_=>
  if n.kind=1 then n.name.s
  else if n.kind=2 then Cz n
  else if n.kind=4 then [115,105,122,101,91]++(match n.sizes with|[]=>[]|l::_=>ZY l)++[93]
  else if n.kind=5 then [108,101,116,32]++n.name.s++[32,61,32]++(match ks with|[a,b]=>a.2.2++[32,105,110,32]++b.2.2|_=>[])
  else if n.kind=6 then V3 n (ks.map (·.2.2))
  else if n.kind=7 then [91]++Ya (ks.map (·.2.2))++[93]
  else if n.kind=8 then [102,111,108,100,40]++Ya (n.name.s::ks.map (·.2.2))++[41]
  else if n.kind=9 then [115,99,97,110,40]++Ya (n.name.s::ks.map (·.2.2))++[41]
  else CG (Ux n)
def CP(t:Tm):Bool:=decide (t.nd.kind=2)&&decide (t.nd.name.s=Wo)&&decide (t.nd.num ≥ 0)
mutual
def ZX:Tm->List UInt8
 | .mk n ks=>Ql n (YC ks)
def YC:List Tm->List (Int×Bool×List UInt8)
 | []=>[]
 | k::ks=>(YV k,CP k,ZX k)::YC ks
end
theorem WE(ks:List Tm):YC ks=ks.map fun k=>(YV k,CP k,ZX k):=by
 induction ks with
 | nil=>simp[YC]
 | cons k ks ih=>simp[YC,ih]
end Go.Pl
namespace Go.Pl
open Go.RowKit
open Enc (enc dec is)
open EncL (encL decL isL)
def wCf(c:Coef):Nat:=c.v.s.length+2
def EP(l:Lin):Nat:=(l.t.map wCf).sum+2
def wNd(n:Nd):Nat:=n.name.s.length+n.elem.s.length+n.dims.length+n.data.length+n.ranks.length+(n.sizes.map EP).sum+1
mutual
def K7:Tm->Nat
 | .mk n ks=>wNd n+Us ks
def Us:List Tm->Nat
 | []=>0
 | k::ks=>K7 k+Us ks
end
def tW(t:Tm):Bool:=decide (K7 t<=1048576)
def Ca(ts:List Tm):Bool:=decide (Us ts<=1048576)
theorem c6n(t:Tm):1<=K7 t:=by cases t;rw[K7];unfold wNd;omega
theorem Dn(ks:List Tm):ks.length<=Us ks:=by
 induction ks with
 | nil=>simp
 | cons k ks ih=>have:=c6n k;rw[Us,List.length_cons];omega
theorem FH{ks:List Tm}{k:Tm}(h:k∈ks):K7 k<=Us ks:=by
 induction ks with
 | nil=>cases h
 | cons a ks ih=>
  rw[Us]
  rcases List.mem_cons.1 h with rfl|h
  ·omega
  ·have:=ih h;omega
mutual
theorem GQ: ∀ t:Tm,Yl t<=K7 t
 | .mk n ks=>by
  have:=Po ks
  rw[Yl,K7];unfold wNd;omega
theorem Po: ∀ ks:List Tm,Z9 ks<=Us ks
 | []=>by simp[Z9,Us]
 | k::ks=>by
  have h1:=GQ k
  have h2:=Po ks
  rw[Z9,Us];omega
end
theorem Nq{α:Type}{f:α->Nat}{l:List α}{x:α}(h:x∈l):f x<=(l.map f).sum:=by
 induction l with
 | nil=>cases h
 | cons a l ih=>
  rw[List.map_cons,List.sum_cons]
  rcases List.mem_cons.1 h with rfl|h
  ·omega
  ·have:=ih h;omega
theorem AP{α:Type}{f:α->Nat}(hf : ∀ x,1<=f x)(l:List α):l.length<=(l.map f).sum:=by
 induction l with
 | nil=>simp
 | cons a l ih=>have:=hf a;rw[List.map_cons,List.sum_cons,List.length_cons];omega
structure NdB (n:Nd) (B:Nat):Prop where
 name:n.name.s.length<=B
 elem:n.elem.s.length<=B
 dims:n.dims.length<=B
 data:n.data.length<=B
 ranks:n.ranks.length<=B
 sizes:n.sizes.length<=B
 lens : ∀ l∈n.sizes,l.t.length<=B
 vars : ∀ l∈n.sizes,∀ c∈l.t,c.v.s.length<=B
theorem EQ{n:Nd}{ks:List Tm}(h:tW (.mk n ks)=true):NdB n 1048576:=by
 have h:=of_decide_eq_true h
 rw[K7]at h
 unfold wNd at h
 have hs:=AP (f:=EP) (fun x=>by unfold EP;omega) n.sizes
 refine⟨by omega,by omega,by omega,by omega,by omega,by omega,fun l hl=> ?_,fun l hl c hc=> ?_⟩
 ·have h3:EP l<=(n.sizes.map EP).sum:=Nq hl
  have h2:=AP (f:=wCf) (fun x=>by unfold wCf;omega) l.t
  have h5:EP l=(l.t.map wCf).sum+2:=rfl
  omega
 ·have h3:EP l<=(n.sizes.map EP).sum:=Nq hl
  have h4:wCf c<=(l.t.map wCf).sum:=Nq hc
  have h5:EP l=(l.t.map wCf).sum+2:=rfl
  have h6:wCf c=c.v.s.length+2:=rfl
  omega
theorem Ju{n:Nd}{ks:List Tm}(h:tW (.mk n ks)=true):ks.length<=1048575∧ ∀ k∈ks,tW k=true:=by
 have h:=of_decide_eq_true h
 rw[K7]at h
 unfold wNd at h
 have:=Dn ks
 exact⟨by omega,fun k hk=>decide_eq_true (by have:=FH hk;omega)⟩
def Qy(l:Lin):Bool:=X3 l&&l.t.all fun t=>decide (t.v.s.length<=281474976710656)
theorem b3l{n:Nd}{ks:List Tm}(h:tW (.mk n ks)=true): ∀ l∈n.sizes,Qy l=true:=fun l hl=>by
 unfold Qy X3
 rw[decide_eq_true (by have:=(EQ h).lens l hl;omega),Bool.true_and,List.all_eq_true]
 exact fun c hc=>decide_eq_true (by have:=(EQ h).vars l hl c hc;omega)
theorem MH{n:Nd}{ks:List Tm}(h:tW (.mk n ks)=true):WQ (Ux n)=true:=by
 have:=EQ h
 show(decide (n.dims.length<=2000000)&&decide (n.data.length<=2000000))=true
 rw[decide_eq_true (by have:=this.dims;omega),decide_eq_true (by have:=this.data;omega)]
 rfl
end Go.Pl
namespace Go.Pl
open Go.RowKit
open Enc (enc dec is)
open EncL (encL decL isL)
def a9j(c:UInt8):Bool:=lowB c||c==95||digB c
def ldB(c:UInt8):Bool:=digB c||lowB c
def Gm(n:Int):Nat:=2*n.natAbs+(if n<0 then 1 else 0)
structure RdS where
 s:List UInt8
 n:Int
 m:List (Str×Int)
end Go.Pl
namespace Go.Pl
open Go.RowKit
end Go.Pl
namespace Go.Pl
open Go.RowKit
open Enc (enc dec is)
open EncL (encL decL isL)
end Go.Pl
namespace Go.Pl
open Go.RowKit
open Enc (enc dec is)
open EncL (encL decL isL)
set_option maxRecDepth 100000
end Go.Pl
namespace Go.Pl
open Go.RowKit
open Enc (enc dec is)
open EncL (encL decL isL)
set_option maxRecDepth 100000
end Go.Pl
namespace Go.Pl
open Go.RowKit
open Enc (enc dec is)
open EncL (encL decL isL)
end Go.Pl
namespace Go.Pl
open Go.RowKit
open Enc (enc dec is)
open EncL (encL decL isL)
set_option maxRecDepth 100000
noncomputable def D5:IC:=Xu Proofs.Tryz.f124
def MV:List IRes:=[(.tmp 2)]
abbrev d0j:Nat:=9
def a0u:ZO:=YQ []
theorem d4o{G:PV->Prop}(c:UInt8)(h:if (decide ((↑(UInt8.toNat c):Int) ≥ 48))=true then G ((.bool (decide ((↑(UInt8.toNat c):Int)<=57))))else(G ((.bool false)))):Ze a0u 0 (Za MV G) D5 [] (Z0 9 [enc c]):=Ze.tp (.lit (.ask (Zu 3) (Zu 2))) h (by kernel_rfl)
noncomputable def Dm:IC:=Xu Proofs.Tryz.f125
def Ms:List IRes:=[(.tmp 2)]
abbrev d1l:Nat:=9
def a1h:ZO:=YQ []
theorem d7w{G:PV->Prop}(c:UInt8)(h:if (decide ((↑(UInt8.toNat c):Int) ≥ 97))=true then G ((.bool (decide ((↑(UInt8.toNat c):Int)<=122))))else(G ((.bool false)))):Ze a1h 0 (Za Ms G) Dm [] (Z0 9 [enc c]):=Ze.tp (.lit (.ask (Zu 3) (Zu 2))) h (by kernel_rfl)
noncomputable def Jw:IC:=Xu Proofs.Tryz.f99
def Cx:List IRes:=[(.tmp 2)]
abbrev b2e:Nat:=9
def Sj:ZO:=YQ []
theorem c2v{G:PV->Prop}(n:Int)(h:if (decide (n ≥ (-1000000:Int)))=true then G ((.bool (decide (n<=1000000))))else(G ((.bool false)))):Ze Sj 0 (Za Cx G) Jw [] (Z0 9 [enc n]):=Ze.tp (.lit (.ask (Zu 3) (Zu 2))) h (by kernel_rfl)
noncomputable def a4z:IC:=Jw
def a4f:List IRes:=[(.tmp 2)]
abbrev d3y:Nat:=9
def c2t:ZO:=YQ []
theorem d9n{G:PV->Prop}(n:Int)(h:if (decide (n ≥ (-1000000:Int)))=true then G ((.bool (decide (n<=1000000))))else(G ((.bool false)))):Ze c2t 0 (Za a4f G) a4z [] (Z0 9 [enc n]):=Ze.tp (.lit (.ask (Zu 3) (Zu 2))) h (by kernel_rfl)
noncomputable def Wi:IC:=Xu Proofs.Tryz.f100
def Wl:List IRes:=[(.tmp 2)]
abbrev b4p:Nat:=62
def Va:ZO:=YQ [(124,.pure (preT (fun _:UInt8×Unit=>true)) (Zb (fun x:UInt8×Unit=>digB x.1))),(125,.pure (preT (fun _:UInt8×Unit=>true)) (Zb (fun x:UInt8×Unit=>lowB x.1)))]
theorem d1g{G:PV->Prop}(s:List UInt8)(h:if ((↑(List.length s):Int)==0)=true then G ((.bool false))else(if (decide ((↑(List.length s):Int)>30))=true then G ((.bool false))else((decide (0<=0)&&decide (Int.toNat 0<List.length s))=true∧(if ((↑(UInt8.toNat (List.getD s (Int.toNat 0) (0:UInt8))):Int)==95)=true then if (decide ((↑(List.length s):Int)<2))=true then G ((.bool false))else(if (decide ((↑(List.length s):Int)>10))=true then G ((.bool false))else((decide (0<=1)&&decide (Int.toNat 1<List.length s))=true∧(if ((↑(UInt8.toNat (List.getD s (Int.toNat 1) (0:UInt8))):Int)==48)=true then G ((.bool false))else(At Va 0 (Za Wl G) Wi 0 62 [(0,(.pv (.str s))),(3,(.pv (.int .i64 1)))] []))))else(At Va 0 (Za Wl G) Wi 1 62 [(0,(.pv (.str s))),(4,(.pv (.int .i64 0)))] []))))):Ze Va 0 (Za Wl G) Wi [] (Z0 62 [.str s]):=Ze.tp (.lit (.ask (Zu 4) (Zl 4 (.ask (.nil) (.req (.lit (.ask (.lit (.ask (Zu 8) (Zl 4 (.ask (Zu 4) (.lit (.req (Zl 3 (.ask (.nil) (.nil))))))))) (.nil)))))))) h (by kernel_rfl)
theorem FK{G:PV->Prop}(s:List UInt8)(i:Int)(h:if (decide (i<(↑(List.length s):Int)))=true then(decide (0<=i)&&decide (Int.toNat i<List.length s))=true∧((Go.Pl.preT (fun(x:UInt8×Unit)=>true) [(.int IntKind.u8 (↑(UInt8.toNat (List.getD s (Int.toNat i) (0:UInt8))):Int))])=true∧(∃ y0:Bool,AV.pv (Zb (fun(x:UInt8×Unit)=>digB x.1) [(.int IntKind.u8 (↑(UInt8.toNat (List.getD s (Int.toNat i) (0:UInt8))):Int))])=AV.pv (enc y0)∧(if (!y0)=true then G ((.bool false))else(At Va 0 (Za Wl G) Wi 0 62 [(0,(.pv (.str s))),(3,(.pv (.int .i64 (IntKind.wrap IntKind.i64 (i+1)))))] []))))else(G ((.bool true)))):At Va 0 (Za Wl G) Wi 0 62 [(0,.pv (.str s)),(3,.pv (.int .i64 i))] []:=At.tp (.lit (.ask (.req (.req (.abs (Bool) (fun YY=>AV.pv (enc YY)) (.ask (.nil) (.lit (.nil)))))) (.nil))) h (by kernel_rfl)
theorem Tc{G:PV->Prop}(s:List UInt8)(i:Int)(h:if (decide (i<(↑(List.length s):Int)))=true then(decide (0<=i)&&decide (Int.toNat i<List.length s))=true∧((Go.Pl.preT (fun(x:UInt8×Unit)=>true) [(.int IntKind.u8 (↑(UInt8.toNat (List.getD s (Int.toNat i) (0:UInt8))):Int))])=true∧(∃ y0:Bool,AV.pv (Zb (fun(x:UInt8×Unit)=>lowB x.1) [(.int IntKind.u8 (↑(UInt8.toNat (List.getD s (Int.toNat i) (0:UInt8))):Int))])=AV.pv (enc y0)∧(if (!y0)=true then if (i==0)=true then G ((.bool false))else((decide (0<=i)&&decide (Int.toNat i<List.length s))=true∧((Go.Pl.preT (fun(x:UInt8×Unit)=>true) [(.int IntKind.u8 (↑(UInt8.toNat (List.getD s (Int.toNat i) (0:UInt8))):Int))])=true∧(∃ y1:Bool,AV.pv (Zb (fun(x:UInt8×Unit)=>digB x.1) [(.int IntKind.u8 (↑(UInt8.toNat (List.getD s (Int.toNat i) (0:UInt8))):Int))])=AV.pv (enc y1)∧(if (!y1)=true then G ((.bool false))else(At Va 0 (Za Wl G) Wi 1 62 [(0,(.pv (.str s))),(4,(.pv (.int .i64 (IntKind.wrap IntKind.i64 (i+1)))))] [])))))else(At Va 0 (Za Wl G) Wi 1 62 [(0,(.pv (.str s))),(4,(.pv (.int .i64 (IntKind.wrap IntKind.i64 (i+1)))))] []))))else(G ((.bool true)))):At Va 0 (Za Wl G) Wi 1 62 [(0,.pv (.str s)),(4,.pv (.int .i64 i))] []:=At.tp (.lit (.ask (.req (.req (.abs (Bool) (fun YY=>AV.pv (enc YY)) (.ask (Zl 3 (.ask (Zu 8) (Zl 2 (.req (.lit (.req (.abs (Bool) (fun YY=>AV.pv (enc YY)) (Zl 4 (.ask (.nil) (.lit (.nil))))))))))) (Zu 6))))) (.nil))) h (by kernel_rfl)
noncomputable def WI:IC:=Xu Proofs.Tryz.f70
def WJ:List IRes:=[(.tmp 2)]
abbrev b1x:Nat:=58
def VT:ZO:=YQ [(99,.pure (preT (fun _:Int×Unit=>true)) (Zb (fun x:Int×Unit=>Yp x.1))),(100,.pure (preT (fun _:Str×Unit=>true)) (Zb (fun x:Str×Unit=>Yq x.1)))]
theorem b7m{G:PV->Prop}(l:Lin)(h : ∃ y0:Bool,AV.pv (Zb (fun(x:Int×Unit)=>Yp x.1) [(.int .i64 l.k)])=AV.pv (enc y0)∧(if (!y0)=true then G ((.bool false))else(if (decide ((↑(List.length (List.map enc l.t)):Int)>12))=true then G ((.bool false))else(At VT 0 (Za WJ G) WI 0 58 [(1,(.ptr 0 0)),(3,(.pv (.int .i64 0)))] [(.obj (.box [(.pv (.int .i64 l.k)),(.pv (.sl 2 false (List.map enc l.t)))]))])))):Ze VT 0 (Za WJ G) WI [] (Z0 58 [enc l]):=Ze.tp (.lit (.abs (Bool) (fun YY=>AV.pv (enc YY)) (.ask (Zu 5) (Zl 5 (.ask (.nil) (.nil)))))) h (by kernel_rfl)
theorem PL{G:PV->Prop}(l:Lin)(i:Int)(h:if (decide (i<(↑(List.length (List.map enc l.t)):Int)))=true then(decide (0<=i)&&decide (Int.toNat i<List.length (List.map enc l.t))&&Enc.sz Coef==2)=true∧(∃ y0:Coef,AV.pv (PV.rptr (PV.cells (List.getD (List.map enc l.t) (Int.toNat i) default)))=AV.pv (PV.rptr (PV.cells ((enc) y0)))∧(∃ y1:Bool,AV.pv (Zb (fun(x:Str×Unit)=>Yq x.1) [(.str (PV.asStr (List.getD (PV.cells (enc y0)) 0 default)))])=AV.pv (enc y1)∧(if (!y1)=true then G ((.bool false))else(if (PV.asInt (List.getD (PV.cells (enc y0)) (0+1) default)==0)=true then G ((.bool false))else(∃ y2:Bool,AV.pv (Zb (fun(x:Int×Unit)=>Yp x.1) [(.int .i64 (PV.asInt (List.getD (PV.cells (enc y0)) (0+1) default)))])=AV.pv (enc y2)∧(if (!y2)=true then G ((.bool false))else(if (decide (i>0))=true then(decide (0<=IntKind.wrap IntKind.i64 (i - 1))&&decide (Int.toNat (IntKind.wrap IntKind.i64 (i - 1))<List.length (List.map enc l.t))&&Enc.sz Coef==2)=true∧(∃ y3:Coef,AV.pv (PV.rptr (PV.cells (List.getD (List.map enc l.t) (Int.toNat (IntKind.wrap IntKind.i64 (i - 1))) default)))=AV.pv (PV.rptr (PV.cells ((enc) y3)))∧(if (!Op.bytesLess (PV.asStr (List.getD (List.drop 0 (PV.cells (enc y3))) 0 default)) (PV.asStr (List.getD (PV.cells (enc y0)) 0 default)))=true then G ((.bool false))else(At VT 0 (Za WJ G) WI 0 58 [(1,(.ptr 0 0)),(3,(.pv (.int .i64 (IntKind.wrap IntKind.i64 (i+1)))))] [(.obj (.box [(.pv (.int .i64 l.k)),(.pv (.sl 2 false (List.map enc l.t)))]))])))else(At VT 0 (Za WJ G) WI 0 58 [(1,(.ptr 0 0)),(3,(.pv (.int .i64 (IntKind.wrap IntKind.i64 (i+1)))))] [(.obj (.box [(.pv (.int .i64 l.k)),(.pv (.sl 2 false (List.map enc l.t)))]))]))))))))else(G ((.bool true)))):At VT 0 (Za WJ G) WI 0 58 [(1,.ptr 0 0),(3,.pv (.int .i64 i))] [.obj (.box [.pv (.int .i64 l.k),.pv (enc l.t)])]:=At.tp (.lit (.ask (.req (.abs (Coef) (fun YY=>AV.pv (PV.rptr (PV.cells ((enc) YY)))) (Zl 2 (.abs (Bool) (fun YY=>AV.pv (enc YY)) (.ask (Zu 14) (Zl 4 (.ask (Zu 10) (Zl 3 (.abs (Bool) (fun YY=>AV.pv (enc YY)) (Zl 2 (.ask (Zu 5) (Zl 3 (.ask (Zl 5 (.req (.abs (Coef) (fun YY=>AV.pv (PV.rptr (PV.cells ((enc) YY)))) (Zl 10 (.ask (.nil) (.lit (.nil))))))) (Zu 14)))))))))))))) (.nil))) h (by kernel_rfl)
-- IMPOSSIBLE
end Go.Pl
namespace Go.Pl
open Go.RowKit
open Enc (enc dec is)
open EncL (encL decL isL)
theorem d6o(c:UInt8):digB c=(decide ((c.toNat:Int) ≥ 48)&&decide ((c.toNat:Int)<=57)):=by
 simp only[digB,UInt8.le_iff_toNat_le,ge_iff_le]
 have e1:(48:UInt8).toNat=48:=rfl
 have e2:(57:UInt8).toNat=57:=rfl
 rw[e1,e2]
 congr 1 <;> exact decide_eq_decide.2 (by omega)
theorem d5p(c:UInt8):lowB c=(decide ((c.toNat:Int) ≥ 97)&&decide ((c.toNat:Int)<=122)):=by
 simp only[lowB,UInt8.le_iff_toNat_le,ge_iff_le]
 have e1:(97:UInt8).toNat=97:=rfl
 have e2:(122:UInt8).toNat=122:=rfl
 rw[e1,e2]
 congr 1 <;> exact decide_eq_decide.2 (by omega)
theorem NI{a b:Bool}{G:PV->Prop}(h:G (.bool (a&&b))):if a=true then G (.bool b)else G (.bool false):=by cases a <;> simpa using h
theorem b7x: ∀ a:UInt8×Unit,true=true->Ze a0u 0 (Za MV (Zi (digB a.1))) D5 [] (Z0 d0j (encL a)):=by
 rintro⟨c,⟨⟩⟩ -
 exact d4o c (NI (ZA (d6o c).symm))
theorem c2g: ∀ a:UInt8×Unit,true=true->Ze a1h 0 (Za Ms (Zi (lowB a.1))) Dm [] (Z0 d1l (encL a)):=by
 rintro⟨c,⟨⟩⟩ -
 exact d7w c (NI (ZA (d5p c).symm))
theorem a2p: ∀ a:Int×Unit,true=true->Ze Sj 0 (Za Cx (Zi (Yp a.1))) Jw [] (Z0 b2e (encL a)):=by
 rintro⟨n,⟨⟩⟩ -
 exact c2v n (NI (ZA rfl))
theorem c8i: ∀ a:Int×Unit,true=true->Ze c2t 0 (Za a4f (Zi (Yp a.1))) a4z [] (Z0 d3y (encL a)):=by
 rintro⟨n,⟨⟩⟩ -
 exact d9n n (NI (ZA rfl))
theorem b5l(s:List UInt8)(hs:s.length<=30): ∀ (j i:Nat),j+i=s.length->At Va 0 (Za Wl (Zi ((s.drop i).all digB))) Wi 0 62 [(0,.pv (.str s)),(3,.pv (.int .i64 i))] []:=by
 intro j
 induction j with
 | zero=>
  intro i hi
  refine FK s i ?_
  rw[if_neg (YR (by omega))]
  exact ZA (by rw[List.drop_of_length_le (by omega)];rfl)
 | succ j ih=>
  intro i hi
  have hlt:i<s.length:=by omega
  refine FK s i ?_
  rw[if_pos (YO hlt)]
  have eg:List.getD s (Int.toNat (i:Int)) 0=s[i]:=by simp[List.getD,hlt]
  rw[eg,next (by omega)]
  refine⟨by simp[hlt],Zf (s[i],()) rfl rfl,Zd (s[i],()) rfl ?_⟩
  rw[List.drop_eq_getElem_cons hlt,List.all_cons]
  show if (!digB s[i])=true then _ else _
  cases hd:digB s[i]
  ·exact ZA rfl
  ·rw[if_neg (by simp)]
   simpa using ih (i+1) (by omega)
theorem b3o(s:List UInt8)(hs:s.length<=30): ∀ (j i:Nat),j+i=s.length->0<i->At Va 0 (Za Wl (Zi ((s.drop i).all fun c=>lowB c||digB c))) Wi 1 62 [(0,.pv (.str s)),(4,.pv (.int .i64 i))] []:=by
 intro j
 induction j with
 | zero=>
  intro i hi _
  refine Tc s i ?_
  rw[if_neg (YR (by omega))]
  exact ZA (by rw[List.drop_of_length_le (by omega)];rfl)
 | succ j ih=>
  intro i hi h0
  have hlt:i<s.length:=by omega
  refine Tc s i ?_
  rw[if_pos (YO hlt)]
  have eg:List.getD s (Int.toNat (i:Int)) 0=s[i]:=by simp[List.getD,hlt]
  rw[eg,next (by omega)]
  refine⟨by simp[hlt],Zf (s[i],()) rfl rfl,Zd (s[i],()) rfl ?_⟩
  rw[List.drop_eq_getElem_cons hlt,List.all_cons]
  show if (!lowB s[i])=true then _ else _
  cases hd:lowB s[i]
  ·rw[d2z,if_neg (by simp;omega)]
   refine⟨by simp[hlt],Zf (s[i],()) rfl rfl,Zd (s[i],()) rfl ?_⟩
   show if (!digB s[i])=true then _ else _
   cases hd:digB s[i]
   ·exact ZA rfl
   ·rw[if_neg (by simp)]
    simpa using ih (i+1) (by omega) (by omega)
  ·rw[if_neg (by simp)]
   simpa using ih (i+1) (by omega) (by omega)
theorem a9u: ∀ a:Str×Unit,true=true->Ze Va 0 (Za Wl (Zi (Yq a.1))) Wi [] (Z0 b4p (encL a)):=by
 rintro⟨⟨s⟩,⟨⟩⟩ -
 refine d1g s ?_
 cases s with
 | nil=>exact ZA rfl
 | cons c r=>
  rw[if_neg (by simp;omega)]
  by_cases h30:((c::r).length:Int)>30
  ·rw[if_pos (by simpa using h30)]
   refine ZA ?_
   have : ¬ r.length<=29:=by simp at h30;omega
   have h9 : ¬ r.length<=9:=by omega
   simp[Yq,this,h9]
  ·rw[if_neg (by simpa using h30)]
   have hl:(c::r).length<=30:=by omega
   refine⟨by simp,?_⟩
   show if ((c.toNat:Int)==95)=true then _ else _
   by_cases hc:c=95
   ·subst hc
    rw[if_pos (by rfl)]
    simp only[Yq,if_true]
    cases r with
    | nil=>exact ZA rfl
    | cons d r=>
     rw[if_neg (by simp;omega)]
     by_cases h10:((95::d::r:List UInt8).length:Int)>10
     ·rw[if_pos (by simpa using h10)]
      refine ZA ?_
      have:decide ((d::r).length<=9)=false:=decide_eq_false (by simp at h10 ⊢;omega)
      rw[this,Bool.and_false]
     ·rw[if_neg (by simpa using h10)]
      refine⟨by simp,?_⟩
      show if ((d.toNat:Int)==48)=true then _ else _
      by_cases hd:d=48
      ·subst hd
       rw[if_pos (by rfl)]
       exact ZA (by simp)
      ·rw[if_neg (by exact d2m 48 hd (by omega))]
       have h:=b5l (95::d::r) hl (d::r).length 1 (by simp)
       have e:(d::r).length<=9:=by simp at h10 ⊢;omega
       have e2:((d::r).all digB&& !(d::r).isEmpty&&decide ((d::r).head? ≠ some 48)&&decide ((d::r).length<=9))=(d::r).all digB:=by rw[decide_eq_true e,show decide ((d::r).head? ≠ some (48:UInt8))=true by simpa using hd];simp
       rw[e2]
       exact h
   ·rw[if_neg (by exact d2m 95 hc (by omega))]
    refine Tc (c::r) 0 ?_
    rw[if_pos (by simp)]
    refine⟨by simp,Zf (c,()) rfl rfl,Zd (c,()) rfl ?_⟩
    show if (!lowB c)=true then _ else _
    have en:Yq ⟨c::r⟩=(lowB c&&r.all (fun c=>lowB c||digB c)):=by
     have:r.length<=29:=by simp at hl;omega
     simp[Yq,hc,this]
    rw[en]
    cases hlow:lowB c
    ·rw[d2z,if_pos (by rfl)]
     exact ZA rfl
    ·rw[if_neg (by simp)]
     exact b3o (c::r) hl r.length 1 (by simp) (by omega)
def CB(prev:Option (List UInt8)):List Coef->Bool
 | []=>true
 | t::r=>Yq t.v&&decide (t.c≠0)&&Yp t.c&&(match prev with|none=>true|some p=>decide (p<t.v.s))&&CB (some t.v.s) r
theorem Ja(p:Option (List UInt8))(t:Coef)(r:List Coef):CB p (t::r)=(Yq t.v&&decide (t.c≠0)&&Yp t.c&&(match p with|none=>true|some p=>decide (p<t.v.s))&&CB (some t.v.s) r):=by cases p <;> rfl
theorem FW: ∀ (l:List Coef) (p:List UInt8),CB (some p) l=(l.all (fun t=>Yq t.v&&decide (t.c≠0)&&Yp t.c)&&(match l with|[]=>true|t::_=>decide (p<t.v.s))&&RQ l)
 | [],p=>by simp[CB,RQ]
 | t::r,p=>by
  rw[Ja,FW r]
  cases r with
  | nil=>simp[RQ]
  | cons u r=>
   simp only[List.all_cons,RQ]
   ac_rfl
theorem c4h(l:List Coef):CB none l=(l.all (fun t=>Yq t.v&&decide (t.c≠0)&&Yp t.c)&&RQ l):=by
 cases l with
 | nil=>simp[CB,RQ]
 | cons t r=>
  rw[Ja,FW r]
  cases r with
  | nil=>simp[RQ]
  | cons u r=>
   simp only[List.all_cons,RQ,Bool.and_true]
   ac_rfl
theorem Ry(l:Lin):Zp l=(Yp l.k&&decide (l.t.length<=12)&&CB none l.t):=by
 rw[c4h,Zp]
 ac_rfl
def OD(ts:List Coef):Nat->Option (List UInt8)
 | 0=>none
 | i+1=>(ts[i]?).map (·.v.s)
theorem M5{k:Nat}(h:k<9223372036854775807):IntKind.i64.wrap (((k+1:Nat):Int) - 1)=(k:Int):=by rw[Vn (by omega) (by omega)];omega
theorem EL(l:Lin)(hl:l.t.length<=9223372036854775807): ∀ (j i:Nat),j+i=l.t.length->At VT 0 (Za WJ (Zi (CB (OD l.t i) (l.t.drop i)))) WI 0 58 [(1,.ptr 0 0),(3,.pv (.int .i64 i))] [.obj (.box [.pv (.int .i64 l.k),.pv (enc l.t)])]:=by
 intro j
 induction j with
 | zero=>
  intro i hi
  refine PL l i ?_
  rw[if_neg (QF (by omega))]
  exact ZA (by rw[List.drop_of_length_le (by omega)];rfl)
 | succ j ih=>
  intro i hi
  have hlt:i<l.t.length:=by omega
  have h:=ih (i+1) (by omega)
  refine PL l i ?_
  simp only[co1,co2,co3,co4]
  refine Yv (QR hlt) ⟨ZT hlt rfl,Yk hlt (Zd (l.t[i].v,()) rfl (VY (fun hn=> ?_) fun hn=>ZL (fun hc=> ?_) fun hc=>Zd (l.t[i].c,()) rfl (VY (fun hk=> ?_) fun hk=> ?_)))⟩
  all_goals rw[List.drop_eq_getElem_cons hlt,Ja]
  ·have hn:Yq l.t[i].v=false:=hn
   exact ZA (by simp[hn])
  ·exact ZA (by simp[hc])
  ·have hk:Yp l.t[i].c=false:=hk
   exact ZA (by simp[hk])
  have hn:Yq l.t[i].v=true:=hn
  have hk:Yp l.t[i].c=true:=hk
  rw[next (by omega),hn,hk,decide_eq_true hc]
  have ep:OD l.t (i+1)=some l.t[i].v.s:=by simp[OD,hlt]
  rw[ep]at h
  cases i with
  | zero=>exact YA (by simp) h
  | succ i=>
   refine Yv (by simp) ?_
   rw[M5 (by omega)]
   refine⟨ZT (by omega) rfl,Yk (by omega) ?_⟩
   have e2:OD l.t (i+1)=some l.t[i].v.s:=by simp[OD,show i<l.t.length by omega]
   rw[e2]
   refine VY (fun hb=> ?_) fun hb=> ?_
   all_goals
    have hb':=(X6 l.t[i].v.s l.t[i+1].v.s).symm.trans hb
    simp only[hb',Bool.and_true,Bool.true_and,Bool.and_false,Bool.false_and]
   ·exact ZA rfl
   ·exact h
theorem a1y: ∀ a:Lin×Unit,X3 a.1=true->Ze VT 0 (Za WJ (Zi (Zp a.1))) WI [] (Z0 b1x (encL a)):=by
 rintro⟨l,⟨⟩⟩ hl
 have hl:l.t.length<=9223372036854775807:=by simpa [X3]using hl
 refine b7m l (Zd (l.k,()) rfl ?_)
 show if (!Yp l.k)=true then _ else _
 show if (!Yp l.k)=true then Zi (Zp l) _ else if _ then Zi (Zp l) _ else At VT 0 (Za WJ (Zi (Zp l))) WI 0 58 _ _
 rw[Ry]
 cases hk:Yp l.k
 ·exact ZA rfl
 rw[e0i]
 by_cases h12:l.t.length<=12
 ·rw[if_neg (by simp;omega)]
  have h:=EL l hl l.t.length 0 (by omega)
  simp only[h12,decide_true,Bool.true_and]
  exact h
 ·rw[if_pos (by simp;omega)]
  exact ZA (by simp[h12])
end Go.Pl
namespace Go.Pl
open Go.RowKit
end Go.Pl
namespace Go.Pl
open Go.RowKit
open Enc (enc dec is)
open EncL (encL decL isL)
theorem a2w{c:UInt8}(h:digB c=true):c≠95:=by
 rintro rfl
 revert h;decide
theorem d0y(c:UInt8):a9j c=(ldB c||c==95):=by unfold a9j ldB;cases lowB c <;> cases digB c <;> cases (c==95) <;> rfl
theorem XA{u:Nat}(h:u<10):Lib.decDigits u=[UInt8.ofNat (48+u)]:=by rw[Lib.decDigits,dif_pos h]
theorem D8{u:Nat}(h : ¬ u<10):Lib.decDigits u=Lib.decDigits (u / 10)++[UInt8.ofNat (48+u % 10)]:=by rw[Lib.decDigits,dif_neg h]
theorem Aj: ∀ (k u:Nat),u<10 ^ (k+1)->(Lib.decDigits u).length<=k+1
 | 0,u,h=>by rw[XA (by simpa using h)];simp
 | k+1,u,h=>by
  by_cases hu:u<10
  ·rw[XA hu];simp
  ·rw[D8 hu,List.length_append,List.length_singleton]
   have:=Aj k (u / 10) (by rw[Nat.pow_succ]at h;omega)
   omega
theorem Mm(u:Nat):(Lib.decDigits u).all digB=true∧Lib.decDigits u≠[]∧((Lib.decDigits u).length>1->(Lib.decDigits u).headD 0≠48):=by
 by_cases h:1<=u
 ·obtain⟨a,b,c⟩:=Sc u h
  refine⟨a,c,fun _ e=>b ?_⟩
  cases hd:Lib.decDigits u with
  | nil=>exact absurd hd c
  | cons x r=>rw[hd]at e;rw[List.head?_cons];exact congrArg some e
 ·obtain rfl:u=0:=by omega
  rw[XA (by omega)]
  exact⟨by decide,by simp,by simp⟩
def Wv(n:Nat)(v:List UInt8):List UInt8:=(if v=[]then Lib.decDigits n else if n>1 then Lib.decDigits n else [])++v
theorem Ri{v:List UInt8}(h:Yq ⟨v⟩=true): ∃ c w,v=c::w∧(lowB c||c==95)=true∧w.all ldB=true∧v.length<=30:=by
 cases v with
 | nil=>cases h
 | cons c w=>
  have hl:=Jo h
  refine⟨c,w,rfl,?_,?_,hl⟩
  ·unfold Yq at h
   simp only at h
   by_cases h95:c=95
   ·subst h95;decide
   ·rw[if_neg h95]at h
    simp only[Bool.and_eq_true]at h
    rw[h.1.1];rfl
  ·unfold Yq at h
   simp only at h
   by_cases h95:c=95
   ·rw[if_pos h95]at h
    simp only[Bool.and_eq_true]at h
    have:=h.1.1.1
    rw[List.all_eq_true]at this ⊢
    intro x hx
    unfold ldB
    rw[this x hx];rfl
   ·rw[if_neg h95]at h
    simp only[Bool.and_eq_true]at h
    have:=h.1.2
    rw[List.all_eq_true]at this ⊢
    intro x hx
    have:=this x hx
    unfold ldB
    rw[Bool.or_comm];exact this
theorem a7h{c:UInt8}(h:(lowB c||c==95)=true):digB c=false∧a9j c=true∧c≠32∧c≠43∧c≠45:=by
 have hd:digB c=false:=by
  cases hd:digB c with
  | false=>rfl
  | true=>
   have h2:=a2w hd
   rw[WT]at hd
   have:lowB c=false:=by
    unfold lowB
    rw[Bool.and_eq_false_iff]
    left
    rw[decide_eq_false_iff_not,UInt8.le_iff_toNat_le]
    have:(97:UInt8).toNat=97:=rfl
    omega
   rw[this,Bool.false_or]at h
   exact absurd (eq_of_beq h) h2
 refine⟨hd,by unfold a9j;rw[h];rfl,?_,?_,?_⟩ <;> (rintro rfl;revert h;decide)
theorem b2r{n:Nat}{v:List UInt8}(hv:v=[]∨Yq ⟨v⟩=true): ∃ c w,Wv n v=c::w∧c≠32∧c≠43∧c≠45:=by
 have hdec : ∃ c w,Lib.decDigits n=c::w∧c≠32∧c≠43∧c≠45:=by
  obtain⟨d1,d2,_⟩:=Mm n
  cases hd:Lib.decDigits n with
  | nil=>exact absurd hd d2
  | cons c w=>
   rw[hd,List.all_cons,Bool.and_eq_true]at d1
   refine⟨c,w,rfl,?_,?_,?_⟩ <;> (rintro rfl;exact absurd d1.1 (by decide))
 obtain⟨c,w,hd,h⟩:=hdec
 unfold Wv
 rcases hv with rfl|hv
 ·exact⟨c,w,by rw[if_pos rfl,List.append_nil,hd],h⟩
 ·obtain⟨x,y,rfl,hc,_,_⟩:=Ri hv
  rw[if_neg (by simp)]
  by_cases hn:n>1
  ·rw[if_pos hn]
   exact⟨c,w++x::y,by rw[hd];rfl,h⟩
  ·rw[if_neg hn]
   exact⟨x,y,rfl,(a7h hc).2.2⟩
def sgT(c:Int):List UInt8:=if c<0 then [45]else [43]
def VU:List (Int×List UInt8)->List UInt8
 | []=>[]
 | q::r=>sgT q.1++(Wv q.1.natAbs q.2++VU r)
def Bq:List (Int×List UInt8)->List UInt8
 | []=>[]
 | q::r=>(if q.1<0 then [45]else [])++(Wv q.1.natAbs q.2++VU r)
def c6r(q:Int×List UInt8):Prop:=q.1.natAbs<=1000000∧(q.2=[]∨Yq ⟨q.2⟩=true∧1<=q.1.natAbs)
theorem a7v{q:Int×List UInt8}(h:c6r q):q.2=[]∨Yq ⟨q.2⟩=true:=by
 rcases h.2 with h|h
 ·exact .inl h
 ·exact .inr h.1
theorem Oc:Lib.trimSuffix [49] [49]=[]∧Lib.trimSuffix [45,49] [49]=[45]:=by constructor <;> decide
theorem WR{n:Int}(h:n<0):(Zn n).s=45::Lib.decDigits n.natAbs:=by
 show Lib.itoa n=_
 unfold Lib.itoa;rw[if_pos h]
theorem YH{n:Int}(h : ¬ n<0):(Zn n).s=Lib.decDigits n.natAbs:=by
 show Lib.itoa n=_
 unfold Lib.itoa
 rw[if_neg h]
 congr 1
 omega
theorem Ar{o s:List UInt8}{n:Int}(hs:s≠[])(hn:n≠0):XP o n s=o++((if n<0 then [45]else if o=[]then []else [43])++Wv n.natAbs s):=by
 unfold XP Wv
 rw[if_neg hs,decide_eq_true hs,Bool.true_and]
 by_cases h:n<0
 ·rw[decide_eq_false (show ¬ n ≥ 0 by omega),Bool.false_and,if_neg (by simp),if_pos h,WR h]
  by_cases h1:n = -1
  ·subst h1
   rw[if_pos (by decide),if_neg (by decide),show(-1:Int).natAbs=1 from rfl,XA (by omega)]
   show o++(Lib.trimSuffix [45,49] [49]++s)=_
   rw[Oc.2];rfl
  ·rw[decide_eq_false h1,decide_eq_false (show ¬ n=1 by omega),if_neg (by simp),if_pos (by omega)]
   simp
 ·rw[decide_eq_true (show n ≥ 0 by omega),Bool.true_and,if_neg h,YH h]
  have e:(if decide (o≠[])=true then o++[43]else o)=o++(if o=[]then []else [43]):=by
   by_cases ho:o=[]
   ·rw[if_neg (by simpa using ho),if_pos ho,List.append_nil]
   ·rw[if_pos (by simpa using ho),if_neg ho]
  rw[e]
  generalize (if o=[]then []else [43]:List UInt8)=z
  by_cases h1:n=1
  ·subst h1
   rw[if_pos (show(decide ((1:Int)=1)||decide ((1:Int) = -1))=true by decide),if_neg (show ¬ (1:Int).natAbs>1 by decide),show(1:Int).natAbs=1 from rfl,XA (by omega)]
   show o++z++(Lib.trimSuffix [49] [49]++s)=_
   rw[Oc.1];simp
  ·rw[decide_eq_false h1,decide_eq_false (show ¬ n = -1 by omega),if_neg (show ¬ ((false||false)=true) by simp),if_pos (show n.natAbs>1 by omega)]
   simp
theorem Ls(o:List UInt8)(n:Int):XP o n []=o++((if n<0 then [45]else if o=[]then []else [43])++Wv n.natAbs []):=by
 unfold XP Wv
 rw[if_pos rfl,decide_eq_false (show ¬ ([]:List UInt8)≠[] by simp),Bool.false_and,if_neg (show ¬ (false=true) by simp)]
 by_cases h:n<0
 ·rw[decide_eq_false (show ¬ n ≥ 0 by omega),Bool.false_and,if_neg (show ¬ (false=true) by simp),if_pos h,WR h]
  simp
 ·rw[decide_eq_true (show n ≥ 0 by omega),Bool.true_and,if_neg h,YH h]
  have e:(if decide (o≠[])=true then o++[43]else o)=o++(if o=[]then []else [43]):=by
   by_cases ho:o=[]
   ·rw[if_neg (by simpa using ho),if_pos ho,List.append_nil]
   ·rw[if_pos (by simpa using ho),if_neg ho]
  rw[e];simp
theorem Sg: ∀ (x:List Coef) (o:List UInt8),o≠[]->(∀ t∈x,t.c≠0∧t.v.s≠[])->x.foldl (fun o t=>XP o t.c t.v.s) o=o++VU (x.map fun t=>(t.c,t.v.s))
 | [],o,_,_=>by simp[VU]
 | t::x,o,ho,h=>by
  obtain⟨h1,h2⟩:=h t (by simp)
  rw[List.foldl_cons,Ar h2 h1,if_neg ho]
  have:(if t.c<0 then [45]else [43]:List UInt8)=sgT t.c:=rfl
  rw[this,Sg x _ (by simp[ho]) fun u hu=>h u (by simp[hu]),List.map_cons,VU]
  simp
theorem c1f(a b:List (Int×List UInt8)):VU (a++b)=VU a++VU b:=by
 induction a with
 | nil=>rfl
 | cons q a ih=>rw[List.cons_append,VU,VU,ih];simp
def U7(l:Lin):List (Int×List UInt8):=(l.t.map fun t=>(t.c,t.v.s))++if decide (l.k≠0)||l.t.isEmpty then [(l.k,[])]else []
theorem O5{l:Lin}(h:Zp l=true): ∀ t∈l.t,t.c≠0∧t.v.s≠[]:=fun t ht=>by
 obtain⟨a,b,_⟩:=Ue h ht
 refine⟨b,fun e=> ?_⟩
 have:t.v=⟨[]⟩:=by cases hv:t.v;rw[hv]at e;simp at e;rw[e]
 rw[this]at a;cases a
theorem LK{n:Nat}{v:List UInt8}(hv:v=[]∨Yq ⟨v⟩=true):Wv n v≠[]:=by
 obtain⟨c,w,h,_⟩:=b2r (n:=n) hv
 rw[h];simp
theorem Rh{l:Lin}(h:Zp l=true):ZY l=Bq (U7 l):=by
 have hn:=O5 h
 unfold ZY U7 Ck
 rw[if_pos h]
 cases ht:l.t with
 | nil=>
  rw[List.foldl_nil,decide_eq_true (show([]:List UInt8)=[]from rfl),Bool.or_true,if_pos rfl,Ls]
  show _=Bq (([]:List (Int×List UInt8))++if (decide (l.k≠0)||true)=true then [(l.k,[])]else [])
  rw[Bool.or_true,if_pos rfl]
  show _=(if l.k<0 then [45]else [])++(Wv l.k.natAbs []++[])
  rw[List.append_nil,List.nil_append]
 | cons t x=>
  rw[ht]at hn
  have h1:=hn t (by simp)
  have hv:Yq t.v=true:=(Ue h (by rw[ht];simp)).1
  rw[List.foldl_cons,Ar h1.2 h1.1,List.nil_append,if_pos rfl]
  have hne:((if t.c<0 then [45]else [])++Wv t.c.natAbs t.v.s:List UInt8)≠[]:=by
   intro e
   exact LK (.inr hv) (List.append_eq_nil_iff.1 e).2
  rw[Sg x _ hne fun u hu=>hn u (by simp[hu])]
  have hne2 : ¬ ((if t.c<0 then [45]else [])++Wv t.c.natAbs t.v.s++VU (x.map fun t=>(t.c,t.v.s)):List UInt8)=[]:=fun e=>hne (List.append_eq_nil_iff.1 e).1
  rw[decide_eq_false hne2,Bool.or_false]
  show _=Bq (((t.c,t.v.s)::x.map fun t=>(t.c,t.v.s))++if (decide (l.k≠0)||false)=true then [(l.k,[])]else [])
  rw[Bool.or_false]
  by_cases hk:l.k=0
  ·rw[decide_eq_false (show ¬ l.k≠0 from fun h=>h hk),if_neg (show ¬ (false=true) by simp),if_neg (show ¬ (false=true) by simp),List.append_nil,Bq,List.append_assoc]
  ·rw[decide_eq_true hk,if_pos (show true=true from rfl),if_pos (show true=true from rfl),Ls,if_neg hne2,List.cons_append,Bq,c1f]
   have:(if l.k<0 then [45]else [43]:List UInt8)=sgT l.k:=rfl
   rw[this]
   simp[VU]
theorem Ec{l:Lin}(h:Zp l=true): ∀ q∈U7 l,c6r q:=by
 intro q hq
 unfold U7 at hq
 rcases List.mem_append.1 hq with hq|hq
 ·obtain⟨t,ht,rfl⟩:=List.mem_map.1 hq
  obtain⟨a,b,c,d⟩:=Ue h ht
  exact⟨by show t.c.natAbs<=_;omega,.inr ⟨a,by show 1<=t.c.natAbs;omega⟩⟩
 ·have hk:=MJ h
  split at hq
  ·have:q=(l.k,[]):=by simpa using hq
   subst this
   exact⟨by show l.k.natAbs<=_;omega,.inl rfl⟩
  ·cases hq
theorem TY{n:Nat}{v:List UInt8}(hn:n<=1000000)(hv:v.length<=30):(Wv n v).length<=37:=by
 have:=Aj 6 n (by omega)
 unfold Wv
 rw[List.length_append]
 split
 ·omega
 ·split
  ·omega
  ·rw[List.length_nil];omega
theorem Pj: ∀ r:List (Int×List UInt8),(∀ q∈r,c6r q)->(VU r).length<=r.length*38
 | [],_=>by simp[VU]
 | q::r,h=>by
  have h1:=Pj r fun p hp=>h p (by simp[hp])
  have hq:=h q (by simp)
  have hl:q.2.length<=30:=by
   rcases hq.2 with e|⟨e,_⟩
   ·rw[e];simp
   ·exact Jo e
  have h2:=TY hq.1 hl
  have h3:(sgT q.1).length=1:=by unfold sgT;split <;> rfl
  rw[VU,List.length_append,List.length_append,h3,List.length_cons]
  omega
theorem Vr(l:Lin):(ZY l).length<=1000:=by
 by_cases h:Zp l=true
 ·rw[Rh h]
  have hok:=Ec h
  have hv:=Jy h
  have hl:(U7 l).length<=13:=by
   unfold U7
   rw[List.length_append,List.length_map]
   split
   ·simp;omega
   ·simp;omega
  have ht:=Pj _ hok
  have:(Bq (U7 l)).length<=(VU (U7 l)).length:=by
   cases U7 l with
   | nil=>exact Nat.le_refl _
   | cons q r=>
    rw[Bq,VU]
    simp only[List.length_append]
    have:(if q.1<0 then [45]else []:List UInt8).length<=(sgT q.1).length:=by unfold sgT;split <;> simp
    omega
  omega
 ·unfold ZY
  rw[if_neg h];simp
def SV(s:Str)(b:Bool):Str:=⟨s.s.takeWhile fun c=>digB c||(b&&lowB c)⟩
def UT(s:Str):R3 Str Str Bool:=match s.s.dropWhile fun c=>c != 46 with
 | []=>⟨s,⟨[]⟩,false⟩
 | _::r=>⟨⟨s.s.takeWhile fun c=>c != 46⟩,⟨r⟩,true⟩
def YB(n:Int):Bool:=decide (n<0)||decide (6<n)
def YF(n:Nd)(a b:Int):Bool:=decide ((n.sizes.length:Int)<=a)&&decide ((n.ranks.length:Int)<=b)&&n.sizes.all Zp
end Go.Pl
namespace Go.Pl
open Go.RowKit
open Enc (enc dec is)
open EncL (encL decL isL)
def VR:List AV->List AObj->Bool
 | [.pv p],[]=>can Tm p
 | _,_=>false
def Qn(f:Nat):List AV->List AObj->AV×List AObj×List AObj
 | [.pv p],_=>(.fn f [] [.ptr 0 0],[],[.box (p.cells.map .pv)])
 | _,_=>default
mutual
theorem a7p(l:Nat): ∀ t:Tm,∀ p∈Yn l t,K7 p.1<=K7 t
 | .mk n ks=>fun p hp=>by
  rw[Yn]at hp
  rcases List.mem_cons.1 hp with rfl|hp
  ·exact Nat.le_refl _
  ·have:=OE (l+1) ks p hp
   rw[K7];omega
theorem OE(l:Nat): ∀ ks:List Tm,∀ p∈Yf l ks,K7 p.1<=Us ks
 | []=>fun p hp=>by simp[Yf]at hp
 | k::ks=>fun p hp=>by
  rw[Yf]at hp
  rw[Us]
  rcases List.mem_append.1 hp with hp|hp
  ·have:=a7p l k p hp;omega
  ·have:=OE l ks p hp;omega
end
theorem Dz{l:Nat}{t:Tm}(h:tW t=true){p:Tm×Int}(hp:p∈Yn l t):tW p.1=true:=decide_eq_true (Nat.le_trans (a7p l t p hp) (of_decide_eq_true h))
def okN(k:Nat)(p:Tm×Int):Bool:=decide (k<400)&&decide (p.2<=40)&&Jp p.1
theorem a9l(t:Tm)(h : ∀ k p,(Yn 1 t)[k]? = some p->okN k p=true):Y4 t=true:=by
 have hl:=QW 1 t
 obtain⟨h1,p,hp,e⟩:=CQ 1 t
 have hpos:1<=Yl t:=by cases t;rw[Yl];omega
 have hlast:okN ((Yn 1 t).length - 1) ((Yn 1 t)[(Yn 1 t).length - 1]'(by omega))=true:=h _ _ (List.getElem?_eq_getElem (by omega))
 unfold okN at hlast
 simp only[Bool.and_eq_true,decide_eq_true_eq]at hlast
 obtain⟨i,hi,hip⟩:=List.getElem_of_mem hp
 have hp2:=h i p (by rw[List.getElem?_eq_getElem hi,hip])
 unfold okN at hp2
 simp only[Bool.and_eq_true,decide_eq_true_eq]at hp2
 unfold Y4
 rw[decide_eq_true (by omega),decide_eq_true (by omega),Bool.true_and,Bool.true_and,List.all_eq_true]
 intro x hx
 unfold Y6 at hx
 obtain⟨q,hq,rfl⟩:=List.mem_map.1 hx
 obtain⟨j,hj,hjq⟩:=List.getElem_of_mem hq
 have:=h j q (by rw[List.getElem?_eq_getElem hj,hjq])
 unfold okN at this
 simp only[Bool.and_eq_true]at this
 exact this.2
theorem b8y(t:Tm){k:Nat}{p:Tm×Int}(h:(Yn 1 t)[k]? = some p)(hn:okN k p=false):Y4 t=false:=by
 have hl:=QW 1 t
 have hk:=(List.getElem?_eq_some_iff.1 h).1
 have hm:=List.mem_of_getElem? h
 have h1:=(CQ 1 t).1 p hm
 rw[<- Bool.not_eq_true]
 intro hv
 unfold Y4 at hv
 simp only[Bool.and_eq_true,decide_eq_true_eq,List.all_eq_true]at hv
 have h3:Jp p.1=true:=hv.2 _ (List.mem_map.2 ⟨p,hm,rfl⟩)
 unfold okN at hn
 rw[decide_eq_true (by omega),decide_eq_true (by omega),h3]at hn
 cases hn
end Go.Pl
namespace Go.Pl
open Go.RowKit
open Enc (enc dec is)
open EncL (encL decL isL)
def Jm(m:List Str):List (PV×PV):=m.map fun s=>(PV.str s.s,PV.bool true)
def Ko(m:List Str)(s:Str):List Str:=if s∈m then m else m++[s]
def JU:List AV->List AObj->Bool
 | [.map 0],[.map _]=>true
 | _,_=>false
def G9(f:Nat):List AV->List AObj->AV×List AObj×List AObj
 | [.map 0],[.map es]=>(.fn f [] [.ptr 1 0],[.map es],[.box [.map 0]])
 | _,_=>default
def YT(t:Tm):List Str:=(Y6 t).flatMap Ut
def Gt(l:List Str):List Str:=l.foldl Ko []
def V6(t:Tm):List Str:=(WP ((Gt (YT t)).map (·.s))).map Str.mk
theorem d4k(m:List Str)(s:Str):a5s (.str s.s) (.bool true) (Jm m)=true∧a1f (.str s.s) (.bool true) (Jm m)=Jm (Ko m s):=by
 have key:upd (.str s.s) (.bool true) (Jm m)=some (Jm (Ko m s)):=by
  induction m with
  | nil=>rfl
  | cons a m ih=>
   show(match TF (.str s.s) (.str a.s)with|some true=>some ((PV.str s.s,PV.bool true)::Jm m)|some false=>(upd (.str s.s) (.bool true) (Jm m)).map ((PV.str a.s,PV.bool true):: ·)|none=>none)=_
   by_cases h:s=a
   ·subst h
    have:TF (.str s.s) (.str s.s)=some true:=by simp[TF]
    rw[this]
    unfold Ko
    rw[if_pos (by simp)]
    rfl
   ·have hs:s.s≠a.s:=fun e=>h (by cases s;cases a;simp at e;subst e;rfl)
    have:TF (.str s.s) (.str a.s)=some false:=by simp[TF,hs]
    rw[this,ih]
    unfold Ko
    by_cases hm:s∈m
    ·rw[if_pos hm,if_pos (by simp[hm])];rfl
    ·rw[if_neg hm,if_neg (by simp[hm,h])];rfl
 exact⟨by unfold a5s;rw[key];rfl,by unfold a1f;rw[key];rfl⟩
theorem a1n{m:List Str}(h:m.Nodup)(s:Str):(Ko m s).Nodup:=by
 unfold Ko
 split
 ·exact h
 ·rename_i hs
  exact List.nodup_append.2 ⟨h,by simp,fun a ha b hb=>by simp at hb;subst hb;exact fun e=>hs (e▸ha)⟩
theorem BG: ∀ (l m:List Str),m.Nodup->(l.foldl Ko m).Nodup
 | [],m,h=>h
 | a::l,m,h=>BG l _ (a1n h a)
theorem b5c{m:List Str}{s x:Str}:x∈Ko m s ↔ x∈m∨x=s:=by
 unfold Ko
 split
 ·rename_i h
  exact⟨.inl,fun k=>k.elim id fun e=>e▸h⟩
 ·simp
theorem Jv: ∀ (l m:List Str) (x:Str),x∈l.foldl Ko m ↔ x∈m∨x∈l
 | [],m,x=>by simp
 | a::l,m,x=>by rw[List.foldl_cons,Jv l _ x,b5c];simp[or_assoc]
theorem c2i(m:List Str)(s:Str):(Ko m s).length<=m.length+1:=by unfold Ko;split <;> simp
theorem Ch: ∀ (l m:List Str),(l.foldl Ko m).length<=m.length+l.length
 | [],m=>by simp
 | a::l,m=>by
  rw[List.foldl_cons]
  have h1:=Ch l (Ko m a)
  have h2:=c2i m a
  rw[List.length_cons];omega
theorem c9t(n:Nd)(ks:List Tm):(Ut (.mk n ks)).length<=(n.sizes.map EP).sum:=by
 show(n.sizes.flatMap fun l=>l.t.map (·.v)).length<=_
 generalize n.sizes=l
 induction l with
 | nil=>simp
 | cons a l ih=>
  rw[List.flatMap_cons,List.length_append,List.map_cons,List.sum_cons,List.length_map]
  have:=AP (f:=wCf) (fun x=>by unfold wCf;omega) a.t
  have:EP a=(a.t.map wCf).sum+2:=rfl
  omega
mutual
theorem Jr(l:Nat): ∀ t:Tm,(((Yn l t).map (·.1)).flatMap Ut).length<=K7 t
 | .mk n ks=>by
  rw[Yn,List.map_cons,List.flatMap_cons,List.length_append,K7]
  have h1:=PX (l+1) ks
  have h2:=c9t n ks
  have h3:(n.sizes.map EP).sum<=wNd n:=by unfold wNd;omega
  exact Nat.add_le_add (Nat.le_trans h2 h3) h1
theorem PX(l:Nat): ∀ ks:List Tm,(((Yf l ks).map (·.1)).flatMap Ut).length<=Us ks
 | []=>by simp[Yf]
 | k::ks=>by
  rw[Yf,List.map_append,List.flatMap_append,List.length_append,Us]
  have h1:=Jr l k
  have h2:=PX l ks
  omega
end
theorem Jf{t:Tm}(h:tW t=true): ∀ s∈YT t,s.s.length<=1048576:=by
 intro s hs
 unfold YT at hs
 rw[List.mem_flatMap]at hs
 obtain⟨x,hx,hs⟩:=hs
 unfold Y6 at hx
 obtain⟨p,hp,rfl⟩:=List.mem_map.1 hx
 have hw:=Dz h hp
 obtain⟨⟨n,ks⟩,v⟩:=p
 have hs:s∈n.sizes.flatMap fun l=>l.t.map (·.v):=hs
 rw[List.mem_flatMap]at hs
 obtain⟨l,hl,hs⟩:=hs
 obtain⟨c,hc,rfl⟩:=List.mem_map.1 hs
 exact(EQ hw).vars l hl c hc
theorem JH(t:Tm)(p:Str->Bool):(V6 t).all p=(YT t).all p:=by
 rw[Bool.eq_iff_iff,List.all_eq_true,List.all_eq_true]
 have hm : ∀ s,s∈V6 t ↔ s∈YT t:=by
  intro s
  unfold V6 WP
  rw[List.mem_map]
  constructor
  ·rintro⟨b,hb,rfl⟩
   rw[(List.mergeSort_perm _ _).mem_iff,List.mem_map]at hb
   obtain⟨x,hx,rfl⟩:=hb
   have:=(Jv (YT t) [] x).1 hx
   simpa using this
  ·intro hs
   refine⟨s.s,?_,rfl⟩
   rw[(List.mergeSort_perm _ _).mem_iff,List.mem_map]
   exact⟨s,(Jv (YT t) [] s).2 (.inr hs),rfl⟩
 exact⟨fun h s hs=>h s ((hm s).2 hs),fun h s hs=>h s ((hm s).1 hs)⟩
theorem a6q(m:List Str):(Jm m).map Kq=m.map (·.s):=by
 unfold Jm
 rw[List.map_map];rfl
theorem d9k{t:Tm}(h:tW t=true):GG (Jm (Gt (YT t)))=true:=by
 have h1:(Jm (Gt (YT t))).all d2i=true:=by
  rw[List.all_eq_true]
  intro x hx
  unfold Jm at hx
  obtain⟨s,hs,rfl⟩:=List.mem_map.1 hx
  have:=(Jv (YT t) [] s).1 hs
  exact decide_eq_true (Jf h s (by simpa using this))
 have h2:((Jm (Gt (YT t))).map Kq).Nodup:=by
  rw[a6q]
  have:=BG (YT t) [] (by simp)
  exact List.pairwise_map.2 (this.imp fun {a b} hab e=>hab (by cases a;cases b;simp at e;subst e;rfl))
 have h3:(Jm (Gt (YT t))).length<=1048576:=by
  unfold Jm
  rw[List.length_map]
  have h4:=Ch (YT t) []
  have h5:=Jr 1 t
  have h6:K7 t<=1048576:=of_decide_eq_true h
  have h7:(YT t).length=(((Yn 1 t).map (·.1)).flatMap Ut).length:=rfl
  simp only[List.length_nil,Nat.zero_add]at h4
  unfold Gt
  omega
 unfold GG
 rw[h1,decide_eq_true h2,decide_eq_true h3];rfl
end Go.Pl
namespace Go.Pl
open Go.RowKit
open Enc (enc dec is)
open EncL (encL decL isL)
def Vq(c:UInt8):Bool:=decide (33<=c.toNat)&&decide (c.toNat<=126)
def Ul:Bool->List UInt8->Bool
 | p,[]=> !p
 | p,c::r=>if c=32 then !p&&Ul true r else Vq c&&Ul false r
theorem JF: ∀ (a b:List UInt8) (p:Bool),Ul p a=true->Ul p (a++b)=Ul false b
 | [],b,p,h=>by cases p <;> simp[Ul]at h ⊢
 | c::r,b,p,h=>by
  rw[List.cons_append]
  unfold Ul at h
  rw[Ul]
  split
  ·rename_i hc
   rw[if_pos hc,Bool.and_eq_true]at h
   rw[h.1,Bool.true_and]
   exact JF r b true h.2
  ·rename_i hc
   rw[if_neg hc,Bool.and_eq_true]at h
   rw[h.1,Bool.true_and]
   exact JF r b false h.2
theorem Uq: ∀ s:List UInt8,Ul true s=true->Ul false s=true
 | [],h=>by simp[Ul]at h
 | c::r,h=>by
  unfold Ul at h ⊢
  split at h
  ·simp at h
  ·rename_i hc;rw[if_neg hc];exact h
theorem YU{a b:List UInt8}(ha:Ul true a=true)(hb:Ul false b=true):Ul true (a++b)=true:=by rw[JF _ _ _ ha,hb]
theorem Qx{a b:List UInt8}(ha:Ul false a=true)(hb:Ul false b=true):Ul false (a++b)=true:=by rw[JF _ _ _ ha,hb]
theorem J3{b:List UInt8}(hb:Ul true b=true):Ul false (32::b)=true:=by unfold Ul;rw[if_pos rfl,hb];rfl
theorem d4q{b:List UInt8}(hb:Ul true b=true):Ul false (44::32::b)=true:=by
 unfold Ul;rw[if_neg (by decide),J3 hb];rfl
theorem b5o: ∀ {s:List UInt8},s.all Vq=true->Ul false s=true
 | [],_=>rfl
 | c::r,h=>by
  rw[List.all_cons,Bool.and_eq_true]at h
  unfold Ul
  rw[if_neg (by rintro rfl;exact absurd h.1 (by decide)),h.1,b5o h.2];rfl
theorem C8{s:List UInt8}(h0:s≠[])(h:s.all Vq=true):Ul true s=true:=by
 cases s with
 | nil=>exact absurd rfl h0
 | cons c r=>
  rw[List.all_cons,Bool.and_eq_true]at h
  unfold Ul
  rw[if_neg (by rintro rfl;exact absurd h.1 (by decide)),h.1,b5o h.2];rfl
theorem G8{c:UInt8}(h:digB c=true):Vq c=true:=by
 unfold digB at h
 simp only[Bool.and_eq_true,decide_eq_true_eq,UInt8.le_iff_toNat_le]at h
 unfold Vq
 rw[decide_eq_true (by have:(48:UInt8).toNat=48:=rfl;omega),decide_eq_true (by have:(57:UInt8).toNat=57:=rfl;omega)];rfl
theorem Tj{c:UInt8}(h:lowB c=true):Vq c=true:=by
 unfold lowB at h
 simp only[Bool.and_eq_true,decide_eq_true_eq,UInt8.le_iff_toNat_le]at h
 unfold Vq
 rw[decide_eq_true (by have:(97:UInt8).toNat=97:=rfl;omega),decide_eq_true (by have:(122:UInt8).toNat=122:=rfl;omega)];rfl
theorem D9{p:UInt8->Bool}(hp : ∀ c,p c=true->Vq c=true){s:List UInt8}(h:s.all p=true):s.all Vq=true:=by
 rw[List.all_eq_true]at h ⊢
 exact fun c hc=>hp c (h c hc)
theorem c3s(c:UInt8)(h:Fh c=true):Vq c=true:=by
 unfold Fh at h
 rcases Bool.or_eq_true _ _▸h with h|h
 ·exact G8 h
 ·exact Tj h
theorem Vj{s:List UInt8}(h:ZN s=true):s≠[]∧s.all Vq=true∧s.length<=30:=by
 cases s with
 | nil=>cases h
 | cons c r=>
  unfold ZN at h
  simp only[Bool.and_eq_true,decide_eq_true_eq]at h
  refine⟨by simp,?_,by rw[List.length_cons];omega⟩
  rw[List.all_cons,Tj h.1.1.1,D9 c3s h.1.1.2];rfl
theorem e0b: ∀ (s:List UInt8) (c:UInt8) (r:List UInt8),(s.dropWhile fun c=>c != 46)=c::r->c=46
 | [],_,_,h=>by cases h
 | a::s,c,r,h=>by
  rw[List.dropWhile_cons]at h
  split at h
  ·exact e0b s c r h
  ·rename_i ha
   cases h
   simpa using ha
theorem Vz{s:List UInt8}(h:JV s=true):s≠[]∧s.all Vq=true∧s.length<=61:=by
 unfold JV at h
 rcases Bool.or_eq_true _ _▸h with h|h
 ·have:=Vj h
  exact⟨this.1,this.2.1,by omega⟩
 ·unfold fullI at h
  split at h
  ·cases h
  ·rename_i c r hd
   rw[Bool.and_eq_true]at h
   have h1:=Vj h.1
   have h2:=Vj h.2
   have e:s=(s.takeWhile fun c=>c != 46)++c::r:=by rw[<- hd,List.takeWhile_append_dropWhile]
   have hc:c=46:=e0b s c r hd
   rw[e]
   refine⟨by simp,?_,?_⟩
   ·rw[List.all_append,List.all_cons,h1.2.1,h2.2.1,hc];rfl
   ·rw[List.length_append,List.length_cons]
    omega
theorem a6u(n:Int):Qw n≠[]∧(Qw n).all Vq=true:=by
 unfold Qw
 have h:=Mm n.natAbs
 have hs:=D9 (fun c=>G8) h.1
 by_cases hn:n<0
 ·rw[WR hn]
  exact⟨by simp,by rw[List.all_cons,hs];rfl⟩
 ·rw[YH hn]
  exact⟨h.2.1,hs⟩
theorem DC(n:Int):Ul true (Qw n)=true:=C8 (a6u n).1 (a6u n).2
theorem Qh{n:Int}(h:n.natAbs<18446744073709551616):(Qw n).length<=21:=by
 unfold Qw
 have:=Aj 19 n.natAbs (by omega)
 by_cases hn:n<0
 ·rw[WR hn,List.length_cons];omega
 ·rw[YH hn];omega
theorem PE(c:UInt8)(h:a9j c=true):Vq c=true:=by
 unfold a9j at h
 rcases Bool.or_eq_true _ _▸h with h|h
 ·rcases Bool.or_eq_true _ _▸h with h|h
  ·exact Tj h
  ·rw[eq_of_beq h];rfl
 ·exact G8 h
theorem a0g{s:List UInt8}(h:Yq ⟨s⟩=true):s.all Vq=true:=by
 obtain⟨c,w,rfl,hc,hw,_⟩:=Ri h
 rw[List.all_cons,D9 (p:=ldB) (fun c hc=>PE c (by rw[d0y,hc];rfl)) hw,PE c (a7h hc).2.1];rfl
theorem Pf{n:Nat}{v:List UInt8}(hv:v=[]∨Yq ⟨v⟩=true):(Wv n v).all Vq=true:=by
 have hd:=D9 (fun c=>G8) (Mm n).1
 have hv:v.all Vq=true:=by
  rcases hv with rfl|hv
  ·rfl
  ·exact a0g hv
 unfold Wv
 rw[List.all_append,hv,Bool.and_true]
 split
 ·exact hd
 ·split
  ·exact hd
  ·rfl
theorem Te: ∀ r:List (Int×List UInt8),(∀ q∈r,c6r q)->(VU r).all Vq=true
 | [],_=>rfl
 | q::r,h=>by
  rw[VU,List.all_append,List.all_append,Te r fun p hp=>h p (by simp[hp]),Pf (a7v (h q (by simp)))]
  unfold sgT
  split <;> rfl
theorem TA{l:Lin}(h:Zp l=true):ZY l≠[]∧(ZY l).all Vq=true:=by
 have hok:=Ec h
 rw[Rh h]
 cases hi:U7 l with
 | nil=>
  exfalso
  unfold U7 at hi
  cases ht:l.t with
  | nil=>rw[ht]at hi;simp at hi
  | cons a b=>rw[ht]at hi;simp at hi
 | cons q r=>
  rw[hi]at hok
  have hq:=a7v (hok q (by simp))
  rw[Bq]
  refine⟨?_,?_⟩
  ·intro e
   exact LK (n:=q.1.natAbs) hq (List.append_eq_nil_iff.1 (List.append_eq_nil_iff.1 e).2).1
  ·rw[List.all_append,List.all_append,Pf hq,Te r fun p hp=>hok p (by simp[hp])]
   split <;> rfl
theorem O0{l:Lin}(h:Zp l=true):Ul true (ZY l)=true:=C8 (TA h).1 (TA h).2
theorem F5: ∀ {l:List (List UInt8)},l≠[]->(∀ s∈l,Ul true s=true)->Ul true (Ya l)=true
 | [],h0,_=>absurd rfl h0
 | [s],_,h=>h s (by simp)
 | s::t::r,_,h=>by
  rw[Ya,List.append_assoc]
  ·exact YU (h s (by simp)) (d4q (F5 (by simp) fun x hx=>h x (by simp[List.mem_cons.1 hx])))
  ·simp
theorem Ji{l:List (List UInt8)}(h : ∀ s∈l,Ul true s=true):Ul false (Ya l)=true:=by
 cases l with
 | nil=>rfl
 | cons a l=>exact Uq _ (F5 (by simp) h)
theorem Es: ∀ l:List Int,Ul false (Vh l)=true
 | []=>rfl
 | [n]=>Uq _ (DC n)
 | n::m::r=>by
  have h:=Es (m::r)
  have hc:Ul true (Vh (m::r))=true:=by
   cases r with
   | nil=>exact DC m
   | cons a r=>
    rw[Vh]
    ·rw[List.append_assoc]
     have h2:=h
     rw[Vh,List.append_assoc]at h2
     ·rw[JF _ _ _ (Uq _ (DC m))]at h2
      rw[JF _ _ _ (DC m)]
      exact h2
     ·simp
    ·simp
  rw[Vh,List.append_assoc]
  ·exact Qx (Uq _ (DC n)) (J3 hc)
  ·simp
theorem a6d: ∀ l:List Int,Ul false (l.flatMap fun n=>[32]++Qw n)=true
 | []=>rfl
 | n::l=>by
  rw[List.flatMap_cons]
  exact Qx (J3 (DC n)) (a6d l)
theorem d5k(a:Arr):Ul true (CG a)=true:=by
 unfold CG
 refine YU (YU (YU (YU ?_ (Es _)) (by decide)) (a6d _)) (by decide)
 split <;> decide
theorem d5w(n:Nd):Ul true (Cz n)=true:=by
 unfold Cz
 split
 ·exact DC _
 ·split <;> decide
theorem c8f{n:Nd}{ks:List (List UInt8)}(hn:n.name.s≠[]∧n.name.s.all Vq=true)(hs:n.sizes.all Zp=true)(hk : ∀ s∈ks,Ul true s=true):Ul true (V3 n ks)=true:=by
 unfold V3
 refine YU (YU (YU (YU (C8 hn.1 hn.2) ?_) ?_) ?_) (Qx (Qx (by decide) (Ji hk)) (by decide))
 ·split
  ·rfl
  ·refine Qx (Qx (by decide) (Ji fun s h=> ?_)) (by decide)
   obtain⟨l,hl,rfl⟩:=List.mem_map.1 h
   exact O0 (List.all_eq_true.1 hs l hl)
 ·split
  ·rfl
  ·exact Qx (Qx (by decide) (Uq _ (DC _))) (by decide)
 ·split
  ·rfl
  ·refine Qx (Qx (by decide) (Ji fun s h=> ?_)) (by decide)
   obtain⟨l,hl,rfl⟩:=List.mem_map.1 h
   exact DC _
theorem a4b{b:Bool}{s:List UInt8}(h:Ul true s=true):Ul true (VZ b s)=true:=by
 unfold VZ
 split
 ·exact YU (YU (by decide) (Uq _ h)) (by decide)
 ·exact h
theorem Bu{n:Nd}{k:Nat}{r:OpR}(h:Jh n k=some r):Ul true r.s=true∧r.s.length<=2:=by
 unfold Jh at h
 cases hq:GA n.name.s with
 | none=>simp[hq]at h
 | some q=>
  simp[hq]at h
  have hm:=List.mem_of_find?_eq_some hq
  have : ∀ r∈XL,Ul true r.s=true∧r.s.length<=2:=by decide
  rw[<- h.2]
  exact this q hm
theorem d5t{n:Nd}{ks:List (Int×Bool×List UInt8)}(hv:Wx n ks.length=true)(hk : ∀ x∈ks,Ul true x.2.2=true):Ul true (Ql n ks)=true:=by
 have hm : ∀ s∈ks.map (·.2.2),Ul true s=true:=fun s h=>by
  obtain⟨x,hx,rfl⟩:=List.mem_map.1 h
  exact hk x hx
 unfold Wx YI at hv
 simp only[Bool.and_eq_true]at hv
 replace hv:=hv.2
 unfold Ql
 split
 ·rename_i r k ho
  exact YU (Bu ho).1 (Uq _ (a4b (hk k (by simp))))
 ·rename_i r a b ho
  have ha:=a4b (b:=decide (a.1<r.l)||(decide (a.1=3)&&decide (r.l=3))) (hk a (by simp))
  have hb:=a4b (b:=decide (b.1<=r.l)) (hk b (by simp))
  show Ul true (VZ (decide (a.1<r.l)||(decide (a.1=3)&&decide (r.l=3))) a.2.2++[32]++r.s++[32]++VZ (decide (b.1<=r.l)) b.2.2)=true
  generalize VZ (decide (a.1<r.l)||(decide (a.1=3)&&decide (r.l=3))) a.2.2=x at ha ⊢
  generalize VZ (decide (b.1<=r.l)) b.2.2=y at hb ⊢
  have e:x++[32]++r.s++[32]++y=x++(32::(r.s++(32::y))):=by simp
  rw[e]
  exact YU ha (J3 (YU (Bu ho).1 (J3 hb)))
 ·rename_i ks o k2 hx1 hx2
  split at hv
  ·rename_i h;rw[if_pos h]
   simp only[Bool.and_eq_true]at hv
   have:=Vj hv.1.1.1.2
   exact C8 this.1 this.2.1
  ·rename_i h;rw[if_neg h]
   split at hv
   ·rename_i h;rw[if_pos h];exact d5w n
   ·rename_i h;rw[if_neg h]
    split at hv
    ·rename_i h
     rw[if_neg (by omega),if_neg (by omega),if_neg (by omega),if_neg (by omega),if_neg (by omega),if_neg (by omega)]
     exact d5k _
    ·split at hv
     ·rename_i h;rw[if_pos h]
      simp only[Bool.and_eq_true]at hv
      refine YU (YU (by decide) ?_) (by decide)
      split
      ·rfl
      ·rename_i l r he
       rw[he]at hv
       exact Uq _ (O0 (List.all_eq_true.1 hv.1.2 l (by simp)))
     ·rename_i h;rw[if_neg h]
      split at hv
      ·rename_i h;rw[if_pos h]
       simp only[Bool.and_eq_true,decide_eq_true_eq]at hv
       have hn:=Vj hv.1.1.1.2
       have hl:ks.length=2:=hv.1.2
       match ks,hl,hk with
       | [a,b],_,hk=>
        have ha:=hk a (by simp)
        have hb:=hk b (by simp)
        show Ul true ([108,101,116,32]++n.name.s++[32,61,32]++(a.2.2++[32,105,110,32]++b.2.2))=true
        have e:[108,101,116,32]++n.name.s++[32,61,32]++(a.2.2++[32,105,110,32]++b.2.2)=[108,101,116]++(32::(n.name.s++(32::([61]++(32::(a.2.2++(32::([105,110]++(32::b.2.2))))))))):=by simp
        rw[e]
        exact YU (by decide) (J3 (YU (C8 hn.1 hn.2.1) (J3 (YU (by decide) (J3 (YU ha (J3 (YU (by decide) (J3 hb)))))))))
      ·rename_i h;rw[if_neg h]
       split at hv
       ·rename_i h;rw[if_pos h]
        unfold XK at hv
        simp only[Bool.and_eq_true]at hv
        have hn:=Vz hv.2.1.1.1.1.1.1.1
        exact c8f ⟨hn.1,hn.2.1⟩ hv.2.1.2 hm
       ·rename_i h;rw[if_neg h]
        split at hv
        ·rename_i h;rw[if_pos h]
         exact YU (YU (by decide) (Ji hm)) (by decide)
        ·rename_i h;rw[if_neg h]
         have hc (hf:JV n.name.s=true):Ul false (Ya (n.name.s::ks.map (·.2.2)))=true:=Ji fun s hs=>by
          rcases List.mem_cons.1 hs with rfl|hs
          ·exact C8 (Vz hf).1 (Vz hf).2.1
          ·exact hm s hs
         split at hv
         ·rename_i h;rw[if_pos h]
          simp only[Bool.and_eq_true]at hv
          exact YU (YU (by decide) (hc hv.1.1.1.2)) (by decide)
         ·rename_i h;rw[if_neg h]
          split at hv
          ·rename_i h;rw[if_pos h]
           simp only[Bool.and_eq_true]at hv
           exact YU (YU (by decide) (hc hv.1.1.1.2)) (by decide)
          ·cases hv
mutual
def ZU:Tm->Bool
 | .mk n ks=>Wx n ks.length&&YP ks
def YP:List Tm->Bool
 | []=>true
 | k::ks=>ZU k&&YP ks
end
theorem V7(ks:List Tm):YP ks=ks.all ZU:=by
 induction ks with
 | nil=>simp[YP]
 | cons k ks ih=>simp[YP,ih]
mutual
theorem HY(l:Nat): ∀ t:Tm,((Yn l t).map (·.1)).all Jp=ZU t
 | .mk n ks=>by rw[Yn,List.map_cons,List.all_cons,BF (l+1) ks,ZU];rfl
theorem BF(l:Nat): ∀ ks:List Tm,((Yf l ks).map (·.1)).all Jp=YP ks
 | []=>by simp[Yf,YP]
 | k::ks=>by rw[Yf,List.map_append,List.all_append,HY l k,BF l ks,YP]
end
theorem Sd{t:Tm}(h:Y4 t=true):ZU t=true:=by
 unfold Y4 Y6 at h
 rw[HY]at h
 simp only[Bool.and_eq_true]at h
 exact h.2
theorem Qd{n:Nd}{ks:List Tm}(h:ZU (.mk n ks)=true):Wx n ks.length=true∧ ∀ k∈ks,ZU k=true:=by
 rw[ZU,Bool.and_eq_true,V7,List.all_eq_true]at h
 exact h
mutual
theorem c7z: ∀ t:Tm,ZU t=true->Ul true (ZX t)=true
 | .mk n ks,h=>by
  have h2:=Qd h
  rw[ZX]
  refine d5t (by rw[WE,List.length_map];exact h2.1) (Fz ks ?_)
  rw[ZU,Bool.and_eq_true]at h
  exact h.2
theorem Fz: ∀ ks:List Tm,YP ks=true-> ∀ x∈YC ks,Ul true x.2.2=true
 | [],_=>by simp[YC]
 | k::ks,h=>by
  rw[YP,Bool.and_eq_true]at h
  intro x hx
  rw[YC]at hx
  rcases List.mem_cons.1 hx with rfl|hx
  ·exact c7z k h.1
  ·exact Fz ks h.2 x hx
end
end Go.Pl
namespace Go.Pl
open Go.RowKit
open Enc (enc dec is)
open EncL (encL decL isL)
theorem Xc: ∀ l:List (List UInt8),(Ya l).length<=(l.map fun s=>s.length+2).sum
 | []=>by simp[Ya]
 | [s]=>by simp[Ya]
 | s::t::r=>by
  have h:=Xc (t::r)
  rw[Ya]
  ·rw[List.length_append,List.length_append,List.map_cons,List.sum_cons]
   show s.length+2+_<=_
   omega
  ·simp
theorem Gj{α:Type}{f:α->Nat}{c:Nat}: ∀ {l:List α},(∀ x∈l,f x<=c)->(l.map f).sum<=c*l.length
 | [],_=>by simp
 | a::l,h=>by
  have h1:=h a (by simp)
  have h2:=Gj (l:=l) fun x hx=>h x (by simp[hx])
  rw[List.map_cons,List.sum_cons,List.length_cons,Nat.mul_succ]
  omega
theorem Pv: ∀ l:List Int,(∀ n∈l,n.natAbs<18446744073709551616)->(Vh l).length<=22*l.length
 | [],_=>by simp[Vh]
 | [n],h=>by have:=Qh (h n (by simp));simp only[Vh,List.length_cons,List.length_nil];omega
 | n::m::r,h=>by
  have h1:=Qh (h n (by simp))
  have h2:=Pv (m::r) fun x hx=>h x (by simp[List.mem_cons.1 hx])
  rw[Vh]
  ·rw[List.length_append,List.length_append,List.length_cons (a:=n)]
   show _+1+_<=_
   omega
  ·simp
theorem Ed: ∀ l:List Int,(∀ n∈l,n.natAbs<18446744073709551616)->(l.flatMap fun n=>[32]++Qw n).length<=22*l.length
 | [],_=>by simp
 | n::l,h=>by
  have h1:=Qh (h n (by simp))
  have h2:=Ed l fun x hx=>h x (by simp[hx])
  rw[List.flatMap_cons,List.length_append,List.length_append,List.length_cons (a:=n)]
  show 1+_+_<=_
  omega
theorem Nv{a:Arr}(h:X8 a=true):(∀ n∈a.d,n.natAbs<9223372036854775808)∧ ∀ n∈a.x,n.natAbs<9223372036854775808:=by
 unfold X8 KD at h
 split at h
 ·cases h
 ·split at h
  ·rename_i h1 h2;rw[eq_of_beq h]at h2;exact absurd rfl h2
  ·rename_i h1 h2
   split at h
   ·cases h
   ·split at h
    ·rename_i h3 h4
     refine⟨?_,fun n hn=> ?_⟩
     ·have h2:(Y2 a.d).2=0:=Classical.not_not.1 h2
      unfold Y2 at h2
      cases h5:decide (6<a.d.length)with
      | true=>rw[h5]at h2;cases h2
      | false=>
       rw[h5]at h2
       cases h6:a.d.all UM with
       | false=>rw[h6]at h2;cases h2
       | true=>
        intro n hn
        have:=List.all_eq_true.1 h6 n hn
        unfold UM at this
        simp only[Bool.and_eq_true,decide_eq_true_eq]at this
        omega
     ·have h:=List.all_eq_true.1 h4 n hn
      unfold X4 at h
      split at h
      ·simp only[Bool.and_eq_true,decide_eq_true_eq]at h
       omega
      ·split at h
       ·simp only[Bool.or_eq_true,beq_iff_eq]at h
        omega
       ·cases h
    ·cases h
theorem Ou{a:Arr}(h:X8 a=true):(∀ n∈a.d,n.natAbs<18446744073709551616)∧ ∀ n∈a.x,n.natAbs<18446744073709551616:=by
 have:=Nv h
 exact⟨fun n hn=>by have:=this.1 n hn;omega,fun n hn=>by have:=this.2 n hn;omega⟩
theorem c7k{a:Arr}(h:X8 a=true):(CG a).length<=10+22*(a.d.length+a.x.length):=by
 have h1:=Pv a.d (Ou h).1
 have h2:=Ed a.x (Ou h).2
 have h3:(if a.e.s=XJ then [35,98,91]else [35,91]:List UInt8).length<=3:=by split <;> decide
 unfold CG
 rw[List.length_append,List.length_append,List.length_append,List.length_append]
 show _+_+1+_+1<=_
 omega
theorem c6y{n:Nd}(h:Uv n=true):(Cz n).length<=21:=by
 unfold Cz
 split
 ·rename_i hs
  refine Qh ?_
  unfold Uv at h
  rw[if_neg (by rw[hs];decide)]at h
  simp only[Bool.and_eq_true,decide_eq_true_eq]at h
  omega
 ·split <;> decide
theorem UH(b:Bool)(s:List UInt8):(VZ b s).length<=s.length+2:=by
 unfold VZ
 split
 ·rw[List.length_append,List.length_append];show 1+_+1<=_;omega
 ·omega
theorem b5p{n:Nd}{k:Nat}{ks:List (List UInt8)}(h:XK n k=true):(V3 n ks).length<=150+1002*n.sizes.length+23*n.ranks.length+(ks.map fun s=>s.length+2).sum:=by
 unfold XK at h
 simp only[Bool.and_eq_true,decide_eq_true_eq]at h
 have h1:=(Vz h.1.1.1.1.1.1.1).2.2
 have h2:=Xc ks
 have h3:(if n.sizes=[]then []else [91]++Ya (n.sizes.map ZY)++[93]:List UInt8).length<=2+1002*n.sizes.length:=by
  split
  ·simp
  ·have:=Xc (n.sizes.map ZY)
   rw[List.map_map]at this
   have h4:=Gj (f:=(fun s:List UInt8=>s.length+2) ∘ ZY) (c:=1002) (l:=n.sizes) fun x _=>by
    have:=Vr x
    show(ZY x).length+2<=_
    omega
   rw[List.length_append,List.length_append]
   show 1+_+1<=_
   omega
 have h5:(if n.num=0 then []else [123]++Qw n.num++[125]:List UInt8).length<=23:=by
  split
  ·simp
  ·have:=Qh (n:=n.num) (by omega)
   rw[List.length_append,List.length_append]
   show 1+_+1<=_
   omega
 have h6:(if n.ranks=[]then []else [64,40]++Ya (n.ranks.map Qw)++[41]:List UInt8).length<=3+23*n.ranks.length:=by
  split
  ·simp
  ·have:=Xc (n.ranks.map Qw)
   rw[List.map_map]at this
   have h4:=Gj (f:=(fun s:List UInt8=>s.length+2) ∘ Qw) (c:=23) (l:=n.ranks) fun x hx=>by
    have h7:=List.all_eq_true.1 h.2 x hx
    simp only[Bool.and_eq_true,decide_eq_true_eq]at h7
    have:=Qh (n:=x) (by omega)
    show(Qw x).length+2<=_
    omega
   rw[List.length_append,List.length_append]
   show 2+_+1<=_
   omega
 unfold V3
 rw[List.length_append,List.length_append,List.length_append,List.length_append,List.length_append,List.length_append]
 show _+_+_+_+(1+_+1)<=_
 omega
theorem DZ{α β:Type}(f:β->Nat)(g:α->β)(l:List α):((l.map g).map f).sum=(l.map fun x=>f (g x)).sum:=by rw[List.map_map];rfl
theorem G6{α:Type}{f g:α->Nat}: ∀ {l:List α},(∀ x∈l,f x<=g x)->(l.map f).sum<=(l.map g).sum
 | [],_=>Nat.le_refl _
 | a::l,h=>by
  have h1:=h a (by simp)
  have h2:=G6 (l:=l) fun x hx=>h x (by simp[hx])
  rw[List.map_cons,List.sum_cons,List.map_cons,List.sum_cons];omega
theorem c9x{n:Nd}{ks:List (Int×Bool×List UInt8)}(hv:Wx n ks.length=true):(Ql n ks).length<=200+1002*n.sizes.length+23*n.ranks.length+22*(n.dims.length+n.data.length)+(ks.map fun x=>x.2.2.length+4).sum:=by
 have hm:((ks.map (·.2.2)).map fun s=>s.length+2).sum<=(ks.map fun x=>x.2.2.length+4).sum:=by
  rw[DZ]
  exact G6 fun x _=>by omega
 have hc (s:List UInt8):(Ya (s::ks.map (·.2.2))).length<=s.length+2+(ks.map fun x=>x.2.2.length+4).sum:=by
  have:=Xc (s::ks.map (·.2.2))
  rw[List.map_cons,List.sum_cons]at this
  omega
 have hc0:=Xc (ks.map (·.2.2))
 unfold Wx YI at hv
 simp only[Bool.and_eq_true]at hv
 replace hv:=hv.2
 unfold Ql
 split
 ·rename_i r k ho
  have h1:=(Bu ho).2
  have h2:=UH (decide (k.1<6)||(decide (r.s=[45])&&k.2.1)) k.2.2
  rw[List.length_append,List.map_cons,List.sum_cons]
  omega
 ·rename_i r a b ho
  have h1:=(Bu ho).2
  have h2:=UH (decide (a.1<r.l)||(decide (a.1=3)&&decide (r.l=3))) a.2.2
  have h3:=UH (decide (b.1<=r.l)) b.2.2
  rw[List.length_append,List.length_append,List.length_append,List.length_append,List.map_cons,List.sum_cons,List.map_cons,List.sum_cons]
  show _+1+_+1+_<=_
  omega
 ·rename_i ks o k2 hx1 hx2
  split at hv
  ·rename_i h;rw[if_pos h]
   simp only[Bool.and_eq_true]at hv
   have:=(Vj hv.1.1.1.2).2.2
   omega
  ·rename_i h;rw[if_neg h]
   split at hv
   ·rename_i h;rw[if_pos h]
    simp only[Bool.and_eq_true]at hv
    have:=c6y hv.1.1.2
    omega
   ·rename_i h;rw[if_neg h]
    split at hv
    ·rename_i h
     simp only[Bool.and_eq_true]at hv
     rw[if_neg (by omega),if_neg (by omega),if_neg (by omega),if_neg (by omega),if_neg (by omega),if_neg (by omega)]
     have:(CG (Ux n)).length<=10+22*(n.dims.length+n.data.length):=c7k hv.2
     show(CG (Ux n)).length<=_
     omega
    ·split at hv
     ·rename_i h;rw[if_pos h]
      rw[List.length_append,List.length_append]
      simp only[Bool.and_eq_true,decide_eq_true_eq]at hv
      have h1:n.sizes.length=1:=hv.1.1.2
      show 5+_+1<=_
      split
      ·simp;omega
      ·rename_i l _ _
       have:=Vr l
       omega
     ·rename_i h;rw[if_neg h]
      split at hv
      ·rename_i h;rw[if_pos h]
       simp only[Bool.and_eq_true,decide_eq_true_eq]at hv
       have hn:=(Vj hv.1.1.1.2).2.2
       have hl:ks.length=2:=hv.1.2
       match ks,hl with
       | [a,b],_=>
        rw[List.length_append,List.length_append,List.length_append,List.map_cons,List.sum_cons,List.map_cons,List.sum_cons]
        show 4+_+3+(a.2.2++[32,105,110,32]++b.2.2).length<=_
        rw[List.length_append,List.length_append]
        show 4+_+3+(_+4+_)<=_
        omega
      ·rename_i h;rw[if_neg h]
       split at hv
       ·rename_i h;rw[if_pos h]
        rw[Bool.and_eq_true]at hv
        have:=b5p (ks:=ks.map (·.2.2)) hv.2
        omega
       ·rename_i h;rw[if_neg h]
        split at hv
        ·rename_i h;rw[if_pos h]
         rw[List.length_append,List.length_append]
         show 1+_+1<=_
         omega
        ·rename_i h;rw[if_neg h]
         split at hv
         ·rename_i h;rw[if_pos h]
          simp only[Bool.and_eq_true]at hv
          have h1:=(Vz hv.1.1.1.2).2.2
          have h2:=hc n.name.s
          rw[List.length_append,List.length_append]
          show 5+_+1<=_
          omega
         ·rename_i h;rw[if_neg h]
          split at hv
          ·rename_i h;rw[if_pos h]
           simp only[Bool.and_eq_true]at hv
           have h1:=(Vz hv.1.1.1.2).2.2
           have h2:=hc n.name.s
           rw[List.length_append,List.length_append]
           show 5+_+1<=_
           omega
          ·cases hv
mutual
theorem EB: ∀ t:Tm,ZU t=true->(ZX t).length+8<=1100*K7 t
 | .mk n ks,h=>by
  have h2:=Qd h
  have h3:=c9x (n:=n) (ks:=YC ks) (by rw[WE,List.length_map];exact h2.1)
  rw[ZU,Bool.and_eq_true]at h
  have h4:=JG ks h.2
  have h5:=AP (f:=EP) (fun x=>by unfold EP;omega) n.sizes
  rw[ZX,K7]
  unfold wNd
  omega
theorem JG: ∀ ks:List Tm,YP ks=true->((YC ks).map fun x=>x.2.2.length+4).sum<=1100*Us ks
 | [],_=>by simp[YC]
 | k::ks,h=>by
  rw[YP,Bool.and_eq_true]at h
  have h1:=EB k h.1
  have h2:=JG ks h.2
  rw[YC,Us,List.map_cons,List.sum_cons]
  show(ZX k).length+4+_<=_
  omega
end
theorem Tf{t:Tm}(hw:tW t=true)(h:ZU t=true):(ZX t).length<=1153433592:=by
 have h1:=EB t h
 have h2:K7 t<=1048576:=of_decide_eq_true hw
 omega
end Go.Pl
namespace Go.Pl
open Go.RowKit
open Enc (enc dec is)
open EncL (encL decL isL)
def Y3(t:Tm):Bool:=Y4 t&&(V6 t).all fun s=>ZN s.s
def Zq(t:Tm):Str:=⟨ZX t⟩
def Tk(s:Str):Str×Int:=if (s.s.length:Int)>20000 then(⟨[]⟩,3)else(s,0)
def Wt(t:Tm):Str×Int:=if Y3 t then Tk (Zq t)else(⟨[]⟩,1)
def ZR:PV:=.agg (XL.flatMap fun r=>[.str r.s,.bool r.u,.str r.n,.int .i64 r.l])
def Az:List PV->Bool
 | []=>true
 | _=>false
def Am:List PV->PV:=fun _=>ZR
def KS(n:Str):R3 Str Bool Bool:=match GA n.s with
 | some r=>⟨⟨r.s⟩,r.u,true⟩
 | none=>⟨⟨[]⟩,false,false⟩
def YJ(s:Str)(u:Bool):R3 Str Int Bool:=match a2r s.s u with
 | some r=>⟨⟨r.n⟩,r.l,true⟩
 | none=>⟨⟨[]⟩,0,false⟩
def MM(n:Nd)(k:Nat):Str×Int:=match Jh n k with
 | some r=>(⟨r.s⟩,if r.u then 1 else 2)
 | none=>(⟨[]⟩,0)
def Q7(t:Tm):Str×Int:=MM t.nd t.ks.length
def Yh(l:List Str):Str:=⟨Ya (l.map (·.s))⟩
def UE(l:List Str):Bool:=decide (l.length<=1048576)&&l.all fun s=>decide (s.s.length<=1048576)
def XQ(l:List Str):Bool:=decide (l.length<=1048576)&&decide ((Ya (l.map (·.s))).length<=1099511627776)
def d1a(b:Bool):Str:=⟨if b then [116,114,117,101]else [102,97,108,115,101]⟩
def Yz(l:Lin):Str:=⟨ZY l⟩
def Ea(n:Nd):Str:=⟨Cz n⟩
def Qf(t:Tm):Str:=⟨V3 t.nd (t.ks.map ZX)⟩
def Q9(a:Arr):Str×Int:=(⟨CG a⟩,0)
def e1v(t:Tm)(k:Int)(b:Bool):Str:=⟨VZ (!b) (ZX (t.ks.getD k.toNat (.mk nd0 [])))⟩
def Ox:List AV->Option Tm
 | [.pv a,.pv b,.pv c,.pv d,.pv e,.pv f,.pv g,.pv h,.pv i,.pv j]=>if can Tm (.agg [a,b,c,d,e,f,g,h,i,j])then some (dec (.agg [a,b,c,d,e,f,g,h,i,j]))else none
 | _=>none
@[irreducible] def Y9 (xs : List AV) (k : Int) (b : Bool) : List UInt8 := (e1v ((Ox xs).getD (.mk nd0 [])) k b).s
@[irreducible] def RF (N : Nat) (xs : List AV) (k : Int) : Bool := match Ox xs with
 | some t=>tW t&&ZU t&&decide (ZW t.ks<N)&&decide (0<=k)&&decide (k<t.ks.length)
 | none=>false
def Xq(N:Nat):List AV->List AObj->Bool
 | [.pv (.int .i64 k),.pv (.bool _),.ptr 0 0],[.box xs]=>RF N xs k
 | _,_=>false
def LU:List AV->List AObj->AV×List AObj×List AObj
 | [.pv (.int _ k),.pv (.bool b),_],[.box xs]=>(.pv (.str (Y9 xs k b)),[.box xs],[])
 | _,_=>default
def Z7(n:Nd)(ks:List Tm):List AV:=[.pv (.int .i64 n.kind),.pv (.int .i64 n.line),.pv (.str n.name.s),.pv (.int .i64 n.num),.pv (.str n.elem.s),.pv (.sl 1 false (n.dims.map enc)),.pv (.sl 1 false (n.data.map enc)),.pv (.sl 2 false (n.sizes.map enc)),.pv (.sl 1 false (n.ranks.map enc)),.pv (.sl 10 false (ks.map enc))]
theorem Fx(n:Nd)(ks:List Tm):Ox (Z7 n ks)=some (.mk n ks):=by
 show(if can Tm (.agg [enc n.kind,enc n.line,enc n.name,enc n.num,enc n.elem,enc n.dims,enc n.data,enc n.sizes,enc n.ranks,enc ks])then some (dec (.agg [enc n.kind,enc n.line,enc n.name,enc n.num,enc n.elem,enc n.dims,enc n.data,enc n.sizes,enc n.ranks,enc ks]))else none)=_
 rw[<- Yy,A8,Enc.dec_enc];rfl
theorem Kj(n:Nd)(ks:List Tm)(k:Int)(b:Bool):Y9 (Z7 n ks) k b=VZ (!b) (ZX (ks.getD k.toNat (.mk nd0 []))):=by unfold Y9;rw[Fx];rfl
theorem TL{N:Nat}{n:Nd}{ks:List Tm}{k:Int}(h1:tW (.mk n ks)=true)(h2:ZU (.mk n ks)=true)(h3:ZW ks<N)(h4:0<=k)(h5:k<ks.length):RF N (Z7 n ks) k=true:=by
 unfold RF
 rw[Fx]
 show(tW (.mk n ks)&&ZU (.mk n ks)&&decide (ZW ks<N)&&decide (0<=k)&&decide (k<(ks.length:Int)))=true
 rw[h1,h2,decide_eq_true h3,decide_eq_true h4,decide_eq_true h5];rfl
def Wd(y0:Tm):List PV:=[(.agg [(.int .i64 (PV.asInt (List.getD (PV.cells (enc y0)) 0 default))),(.int .i64 (PV.asInt (List.getD (PV.cells (enc y0)) (0+1) default))),(.str (PV.asStr (List.getD (PV.cells (enc y0)) (0+1+1) default))),(.int .i64 (PV.asInt (List.getD (PV.cells (enc y0)) (0+1+1+1) default))),(.str (PV.asStr (List.getD (PV.cells (enc y0)) (0+1+1+1+1) default))),(.sl 1 (PV.asT (List.getD (PV.cells (enc y0)) (0+1+1+1+1+1) default)) (PV.asXs (List.getD (PV.cells (enc y0)) (0+1+1+1+1+1) default))),(.sl 1 (PV.asT (List.getD (PV.cells (enc y0)) (0+1+1+1+1+1+1) default)) (PV.asXs (List.getD (PV.cells (enc y0)) (0+1+1+1+1+1+1) default))),(.sl 2 (PV.asT (List.getD (PV.cells (enc y0)) (0+1+1+1+1+1+1+1) default)) (PV.asXs (List.getD (PV.cells (enc y0)) (0+1+1+1+1+1+1+1) default))),(.sl 1 (PV.asT (List.getD (PV.cells (enc y0)) (0+1+1+1+1+1+1+1+1) default)) (PV.asXs (List.getD (PV.cells (enc y0)) (0+1+1+1+1+1+1+1+1) default))),(.sl 10 (PV.asT (List.getD (PV.cells (enc y0)) (0+1+1+1+1+1+1+1+1+1) default)) (PV.asXs (List.getD (PV.cells (enc y0)) (0+1+1+1+1+1+1+1+1+1) default)))])]
def Cb(y0:Tm):Bool:=(decide (0+List.length [Sh.int .i64,Sh.int .i64,Sh.str,Sh.int .i64,Sh.str,Sh.sl 1,Sh.sl 1,Sh.sl 2,Sh.sl 1,Sh.sl 10]<=List.length (PV.cells (enc y0)))&&Yx (PV.cells (enc y0)) 0 [Sh.int .i64,Sh.int .i64,Sh.str,Sh.int .i64,Sh.str,Sh.sl 1,Sh.sl 1,Sh.sl 2,Sh.sl 1,Sh.sl 10])
theorem Yj(t:Tm):Wd t=encL (t,()):=by
 obtain⟨n,ks⟩:=t
 show _=[enc (Tm.mk n ks)]
 unfold Wd
 rw[Yy]
 rfl
theorem Xx(t:Tm):Cb t=true:=by
 obtain⟨n,ks⟩:=t
 unfold Cb
 rw[Yy]
 rfl
def V4(n:Nd)(ks:List Tm):List PV:=[.agg [.int .i64 n.kind,.int .i64 n.line,.str n.name.s,.int .i64 n.num,.str n.elem.s,.sl 1 false (n.dims.map enc),.sl 1 false (n.data.map enc),.sl 2 false (n.sizes.map enc),.sl 1 false (n.ranks.map enc),.sl 10 false (ks.map enc)]]
theorem ZH(n:Nd)(ks:List Tm):V4 n ks=encL (Tm.mk n ks,()):=by
 show _=[enc (Tm.mk n ks)]
 rw[Yy]
 rfl
theorem QX(l:List Lin):(Yh (l.map Yz)).s=Ya (l.map ZY):=by unfold Yh;rw[List.map_map];rfl
theorem b7j(l:List Int):(Yh (l.map Zn)).s=Ya (l.map Qw):=by unfold Yh;rw[List.map_map];rfl
theorem VH(l:List Tm):(Yh (l.map Zq)).s=Ya (l.map ZX):=by unfold Yh;rw[List.map_map];rfl
def vT(s:Str):Tm:=.mk {nd0 with kind:=1,name:=s} []
def cT(s:Str)(ks:List Tm):Tm:=.mk {nd0 with kind:=6,name:=s} ks
def nT(n:Int):Tm:=.mk {nd0 with kind:=2,name:=⟨Wo⟩,num:=n} []
end Go.Pl
namespace Go.Pl
open Go.RowKit
open Enc (enc dec is)
open EncL (encL decL isL)
mutual
theorem Fw: ∀ t:Tm,ZM t<=Yl t
 | .mk n ks=>by have:=P8 ks;rw[ZM,Yl];omega
theorem P8: ∀ ks:List Tm,ZW ks<=Z9 ks
 | []=>Nat.le_refl _
 | k::ks=>by
  have h1:=Fw k
  have h2:=P8 ks
  rw[ZW,Z9]
  omega
end
theorem Du{t:Tm}(h:tW t=true):Yl t<=1048576:=Nat.le_trans (GQ t) (of_decide_eq_true h)
theorem b2c(l:List Tm)(k:Tm):ZW (l++[k])=max (ZW l) (ZM k):=by
 induction l with
 | nil=>simp[ZW]
 | cons a l ih=>rw[List.cons_append,ZW,ih,ZW];omega
theorem KM(l:List Tm)(k:Tm):Z9 (l++[k])=Z9 l+Yl k:=by
 induction l with
 | nil=>simp[Z9]
 | cons a l ih=>rw[List.cons_append,Z9,ih,Z9];omega
theorem Bt(ks:List Tm)(i:Nat):Z9 (ks.take i)<=Z9 ks:=by
 induction ks generalizing i with
 | nil=>simp
 | cons a ks ih=>
  cases i with
  | zero=>simp[Z9]
  | succ i=>have:=ih i;rw[List.take_succ_cons,Z9,Z9];omega
mutual
theorem PP(l m:Nat): ∀ t:Tm,(Yn l t).map (·.1)=(Yn m t).map (·.1)
 | .mk n ks=>by rw[Yn,Yn,List.map_cons,List.map_cons,SG (l+1) (m+1) ks]
theorem SG(l m:Nat): ∀ ks:List Tm,(Yf l ks).map (·.1)=(Yf m ks).map (·.1)
 | []=>by simp[Yf]
 | k::ks=>by rw[Yf,Yf,List.map_append,List.map_append,PP l m k,SG l m ks]
end
theorem b0x(l:Nat)(ks:List Tm):(Yf l ks).map (·.1)=ks.flatMap Y6:=by
 induction ks with
 | nil=>simp[Yf]
 | cons k ks ih=>rw[Yf,List.map_append,ih,List.flatMap_cons,PP l 1 k];rfl
theorem c9g(n:Nd)(ks:List Tm):Y6 (.mk n ks) = .mk n ks::ks.flatMap Y6:=by
 unfold Y6
 rw[Yn,List.map_cons]
 exact congrArg (Tm.mk n ks:: ·) (b0x 2 ks)
theorem DF(t:Tm):(Y6 t).length=Yl t:=by unfold Y6;rw[List.length_map,QW]
theorem M3(ks:List Tm):(ks.flatMap Y6).length=Z9 ks:=by
 induction ks with
 | nil=>simp[Z9]
 | cons k ks ih=>rw[List.flatMap_cons,List.length_append,DF,ih,Z9]
theorem UZ{α:Type}{l:List α}{i:Nat}(h:i<l.length):l.take (i+1)=l.take i++[l[i]]:=by rw[List.take_add_one];simp[h]
theorem d2k{s:List UInt8}(h:Ul true s=true):s≠[]:=by rintro rfl;cases h
def ex1:Tm:=cT ⟨[115,117,98]⟩ [vT ⟨[97]⟩,cT ⟨[115,117,98]⟩ [vT ⟨[98]⟩,cT ⟨[110,101,103]⟩ [nT 5]]]
def ex2:Tm:=cT ⟨[109,117,108]⟩ [cT ⟨[97,100,100]⟩ [vT ⟨[97]⟩,vT ⟨[98]⟩],nT (-2)]
def tx1:List UInt8:=[97,32,45,32,40,98,32,45,32,45,40,53,41,41]
def tx2:List UInt8:=[40,97,32,43,32,98,41,32,42,32,45,50]
theorem b1q:Y3 ex1=true:=by
 unfold Y3
 rw[JH]
 kernel_rfl
theorem b3a:Y3 ex2=true:=by
 unfold Y3
 rw[JH]
 kernel_rfl
theorem d8w:tW ex1=true:=by kernel_rfl
theorem d9q:tW ex2=true:=by kernel_rfl
theorem d9c:Qw 5=[53]:=by
 unfold Qw
 rw[YH (by decide)]
 exact XA (by decide)
theorem d4s:Qw (-2)=[45,50]:=by
 unfold Qw
 rw[WR (by decide)]
 exact congrArg (45:: ·) (XA (u:=2) (by decide))
theorem e0a(s:Str):ZX (vT s)=s.s:=by
 have h:Jh {nd0 with kind:=1,name:=s} 0=none:=by
  unfold Jh
  cases GA s.s with
  | none=>rfl
  | some r=>rfl
 unfold vT
 rw[ZX]
 simp only[YC]
 unfold Ql
 rw[show([]:List (Int×Bool×List UInt8)).length=0 from rfl,h]
 rfl
theorem d9l(n:Int):ZX (nT n)=Qw n:=by
 unfold nT
 rw[ZX]
 simp only[YC]
 unfold Ql
 rw[show Jh {nd0 with kind:=2,name:=⟨Wo⟩,num:=n} ([]:List (Int×Bool×List UInt8)).length=none from rfl]
 rfl
theorem b8l:ZX ex1=tx1:=by
 unfold ex1 cT
 rw[ZX]
 simp only[YC,ZX,e0a]
 have e1:ZX (nT 5)=[53]:=by rw[d9l,d9c]
 rw[e1]
 show _=tx1
 kernel_rfl
theorem b8v:ZX ex2=tx2:=by
 unfold ex2 cT
 rw[ZX]
 simp only[YC,ZX,e0a]
 have e1:ZX (nT (-2))=[45,50]:=by rw[d9l,d4s]
 rw[e1]
 show _=tx2
 kernel_rfl
theorem b4y:Wt ex1=(⟨tx1⟩,0):=by
 unfold Wt Zq
 rw[b1q,b8l]
 rfl
theorem b6h:Wt ex2=(⟨tx2⟩,0):=by
 unfold Wt Zq
 rw[b3a,b8v]
 rfl
end Go.Pl
namespace Go.Pl
open Go.RowKit
open Enc (enc dec is)
open EncL (encL decL isL)
set_option maxRecDepth 100000
noncomputable def a3m:IC:=Xu Proofs.Tryz.f97
def a4l:List IRes:=[(.tmp 6)]
abbrev d5e:Nat:=21
def b6z:ZO:=YQ [(120,.own (H6 5) Mx)]
theorem d9z{G:AV×List AObj×List AObj->Prop}(n:Nat)(i:Int)(xs:List PV)(h:if (decide (i<0))=true then(List.length xs==n&&n==n&&decide ((n+List.length (List.drop 0 (List.take 1 [PV.int IntKind.u8 45])))*1<=1099511627776)&&decide (n+List.length (List.drop 0 (List.take 1 [PV.int IntKind.u8 45]))<=1099511627776))=true∧((H6 5 [(.row 0 (n+List.length (List.drop 0 (List.take 1 [PV.int IntKind.u8 45]))) 0 (n+List.length (List.drop 0 (List.take 1 [PV.int IntKind.u8 45])))),(.pv (.int IntKind.u64 (IntKind.wrap IntKind.u64 (-IntKind.wrap IntKind.u64 i)))),(.pv (.int .i64 10))] [(.row false 5 1 (xs++List.drop 0 (List.take 1 [PV.int IntKind.u8 45])))])=true∧(G (((.row 0 (n+List.length (List.drop 0 (List.take 1 [PV.int IntKind.u8 45]))+List.length (Lib.decDigits (Int.toNat (IntKind.wrap IntKind.u64 (-IntKind.wrap IntKind.u64 i))))) 0 (n+List.length (List.drop 0 (List.take 1 [PV.int IntKind.u8 45]))+List.length (Lib.decDigits (Int.toNat (IntKind.wrap IntKind.u64 (-IntKind.wrap IntKind.u64 i)))))),([(.row false 5 1 (xs++List.drop 0 (List.take 1 [PV.int IntKind.u8 45])++Zh (Lib.decDigits (Int.toNat (IntKind.wrap IntKind.u64 (-IntKind.wrap IntKind.u64 i))))))],[])))))else((H6 5 [(.row 0 n 0 n),(.pv (.int IntKind.u64 (IntKind.wrap IntKind.u64 i))),(.pv (.int .i64 10))] [(.row false 5 1 xs)])=true∧(G (((.row 0 (n+List.length (Lib.decDigits (Int.toNat (IntKind.wrap IntKind.u64 i)))) 0 (n+List.length (Lib.decDigits (Int.toNat (IntKind.wrap IntKind.u64 i))))),([(.row false 5 1 (xs++Zh (Lib.decDigits (Int.toNat (IntKind.wrap IntKind.u64 i)))))],[])))))):Ze b6z 1 (Xt 1 a4l G) a3m [] (Uz 21 [.row 0 n 0 n,.pv (.int .i64 i),.pv (.int .i64 10)] [.row false 5 1 xs]):=Ze.to (.lit (.ask (Zl 2 (.req (.req (.keep (.nil))))) (.req (.keep (.nil))))) h (by kernel_rfl)
noncomputable def ER:IC:=Xu Proofs.Tryz.f61
def a3b:List IRes:=[(.tmp 6)]
abbrev d3f:Nat:=11
def c1b:ZO:=YQ [(97,.own (UC 5) Cq)]
theorem e0l{G:AV×List AObj×List AObj->Prop}(n:Nat)(i:Int)(xs:List PV)(h:(UC 5 [(.row 0 n 0 n),(.pv (.int .i64 i)),(.pv (.int .i64 10))] [(.row false 5 1 xs)])=true∧(G (((.row 0 (n+List.length (Lib.itoa i)) 0 (n+List.length (Lib.itoa i))),([(.row false 5 1 (xs++Zh (Lib.itoa i)))],[]))))):Ze c1b 1 (Xt 1 a3b G) ER [] (Uz 11 [.row 0 n 0 n,.pv (.int .i64 i),.pv (.int .i64 10)] [.row false 5 1 xs]):=Ze.to (.req (.keep (.nil))) h (by kernel_rfl)
noncomputable def a0b:IC:=Xu Proofs.Tryz.f60
def EZ:List IRes:=[]
abbrev d5y:Nat:=12
def b8h:ZO:=YQ [(61,.own (UC 5) Cq)]
theorem d8u{G:AV×List AObj×List AObj->Prop}(n:Nat)(i:Int)(s:Bool)(xs:List PV)(h:if (s)=true then(List.length xs==n&&n==n&&decide ((n+List.length (List.drop 0 (List.take 1 [PV.int IntKind.u8 32])))*1<=1099511627776)&&decide (n+List.length (List.drop 0 (List.take 1 [PV.int IntKind.u8 32]))<=1099511627776))=true∧((UC 5 [(.row 0 (n+List.length (List.drop 0 (List.take 1 [PV.int IntKind.u8 32]))) 0 (n+List.length (List.drop 0 (List.take 1 [PV.int IntKind.u8 32])))),(.pv (.int .i64 i)),(.pv (.int .i64 10))] [(.row false 5 1 (xs++List.drop 0 (List.take 1 [PV.int IntKind.u8 32])))])=true∧(G (((.tup []),([(.box [(.row 1 (n+List.length (List.drop 0 (List.take 1 [PV.int IntKind.u8 32]))+List.length (Lib.itoa i)) 0 (n+List.length (List.drop 0 (List.take 1 [PV.int IntKind.u8 32]))+List.length (Lib.itoa i)))]),(.row false 5 1 (xs++List.drop 0 (List.take 1 [PV.int IntKind.u8 32])++Zh (Lib.itoa i)))],[])))))else((UC 5 [(.row 0 n 0 n),(.pv (.int .i64 i)),(.pv (.int .i64 10))] [(.row false 5 1 xs)])=true∧(G (((.tup []),([(.box [(.row 1 (n+List.length (Lib.itoa i)) 0 (n+List.length (Lib.itoa i)))]),(.row false 5 1 (xs++Zh (Lib.itoa i)))],[])))))):Ze b8h 2 (Xt 2 EZ G) a0b [] (Uz 12 [.pv (.int .i64 i),.pv (.bool s),.ptr 0 0] [.box [.row 1 n 0 n],.row false 5 1 xs]):=Ze.to (.ask (Zl 2 (.req (.req (.keep (.nil))))) (.req (.keep (.nil)))) h (by kernel_rfl)
noncomputable def Xd:IC:=Xu Proofs.Tryz.f30
def Xh:List IRes:=[(.tmp 2),(.tmp 3)]
abbrev b0y:Nat:=56
def XU:ZO:=YQ [(59,.pure (preT (fun x:Arr×Unit=>WQ x.1)) (Zb (fun x:Arr×Unit=>X8 x.1))),(60,.own (KX 5) Fg)]
theorem b3u{G:PV->Prop}(a:Arr)(h:(Go.Pl.preT (fun(x:Arr×Unit)=>WQ x.1) [(.agg [(.str (Str.s (Arr.e a))),(.sl 1 false (List.map enc (Arr.d a))),(.sl 1 false (List.map enc (Arr.x a)))])])=true∧(∃ y0:Bool,AV.pv (Zb (fun(x:Arr×Unit)=>X8 x.1) [(.agg [(.str (Str.s (Arr.e a))),(.sl 1 false (List.map enc (Arr.d a))),(.sl 1 false (List.map enc (Arr.x a)))])])=AV.pv (enc y0)∧(if (!y0)=true then G ((.tup [(.str []),(.int .i64 1)]))else(if (Str.s (Arr.e a)==[(98:UInt8),(111:UInt8),(111:UInt8),(108:UInt8)])=true then At XU 0 (Za Xh G) Xd 0 56 [(1,(.ptr 0 0)),(4,(.ptr 1 0)),(5,(.fn 60 [] [(.ptr 1 0)])),(21,(.pv (.int .i64 (↑(List.length (List.map enc (Arr.d a))):Int)))),(22,(.pv (.int .i64 0)))] [(.obj (.box [(.pv (.str (Str.s (Arr.e a)))),(.pv (.sl 1 false (List.map enc (Arr.d a)))),(.pv (.sl 1 false (List.map enc (Arr.x a))))])),(.obj (.box [(.row 2 3 0 3)])),(.obj (.row false 5 1 [(.int IntKind.u8 35),(.int IntKind.u8 98),(.int IntKind.u8 91)]))]else(At XU 0 (Za Xh G) Xd 0 56 [(1,(.ptr 0 0)),(4,(.ptr 1 0)),(5,(.fn 60 [] [(.ptr 1 0)])),(21,(.pv (.int .i64 (↑(List.length (List.map enc (Arr.d a))):Int)))),(22,(.pv (.int .i64 0)))] [(.obj (.box [(.pv (.str (Str.s (Arr.e a)))),(.pv (.sl 1 false (List.map enc (Arr.d a)))),(.pv (.sl 1 false (List.map enc (Arr.x a))))])),(.obj (.box [(.row 2 2 0 2)])),(.obj (.row false 5 1 [(.int IntKind.u8 35),(.int IntKind.u8 91)]))]))))):Ze XU 0 (Za Xh G) Xd [] (Z0 56 [.agg [enc a.e,enc a.d,enc a.x]]):=Ze.tp (.req (.abs (Bool) (fun YY=>AV.pv (enc YY)) (.ask (.nil) (Zl 3 (.ask (Zu 2) (.nil)))))) h (by kernel_rfl)
theorem Ph{G:PV->Prop}(a:Arr)(n:Nat)(i:Int)(xs:List PV)(h:if (decide (i<(↑(List.length (Arr.d a)):Int)))=true then(decide (0<=i)&&decide (Int.toNat i<List.length (List.map enc (Arr.d a)))&&Enc.sz Int==1)=true∧(∃ y0:Int,AV.pv (PV.rptr (PV.cells (List.getD (List.map enc (Arr.d a)) (Int.toNat i) default)))=AV.pv (PV.rptr (PV.cells ((enc) y0)))∧((KX 5 [(.pv (.int .i64 (PV.asInt (List.getD (PV.cells (enc y0)) 0 default)))),(.pv (.bool (decide (i>0)))),(.ptr 0 0)] [(.box [(.row 1 n 0 n)]),(.row false 5 1 xs)])=true∧(At XU 0 (Za Xh G) Xd 0 56 [(1,(.ptr 0 0)),(4,(.ptr 1 0)),(5,(.fn 60 [] [(.ptr 1 0)])),(21,(.pv (.int .i64 (↑(List.length (Arr.d a)):Int)))),(22,(.pv (.int .i64 (IntKind.wrap IntKind.i64 (i+1)))))] [(.obj (.box [(.pv (.str (Str.s (Arr.e a)))),(.pv (.sl 1 false (List.map enc (Arr.d a)))),(.pv (.sl 1 false (List.map enc (Arr.x a))))])),(.obj (.box [(.row 2 (n+List.length (Uc (decide (i>0)) (PV.asInt (List.getD (PV.cells (enc y0)) 0 default)))) 0 (n+List.length (Uc (decide (i>0)) (PV.asInt (List.getD (PV.cells (enc y0)) 0 default)))))])),(.obj (.row false 5 1 (xs++Zh (Uc (decide (i>0)) (PV.asInt (List.getD (PV.cells (enc y0)) 0 default))))))])))else((List.length xs==n&&n==n&&decide ((n+List.length (List.drop 0 (List.take 1 [PV.int IntKind.u8 58])))*1<=1099511627776)&&decide (n+List.length (List.drop 0 (List.take 1 [PV.int IntKind.u8 58]))<=1099511627776))=true∧(At XU 0 (Za Xh G) Xd 1 56 [(1,(.ptr 0 0)),(4,(.ptr 1 0)),(5,(.fn 60 [] [(.ptr 1 0)])),(40,(.pv (.int .i64 (↑(List.length (List.map enc (Arr.x a))):Int)))),(41,(.pv (.int .i64 0)))] [(.obj (.box [(.pv (.str (Str.s (Arr.e a)))),(.pv (.sl 1 false (List.map enc (Arr.d a)))),(.pv (.sl 1 false (List.map enc (Arr.x a))))])),(.obj (.box [(.row 2 (n+List.length (List.drop 0 (List.take 1 [PV.int IntKind.u8 58]))) 0 (n+List.length (List.drop 0 (List.take 1 [PV.int IntKind.u8 58]))))])),(.obj (.row false 5 1 (xs++List.drop 0 (List.take 1 [PV.int IntKind.u8 58]))))]))):At XU 0 (Za Xh G) Xd 0 56 [(1,.ptr 0 0),(4,.ptr 1 0),(5,.fn 60 [] [.ptr 1 0]),(21,.pv (.int .i64 a.d.length)),(22,.pv (.int .i64 i))] [.obj (.box [.pv (enc a.e),.pv (enc a.d),.pv (enc a.x)]),.obj (.box [.row 2 n 0 n]),.obj (.row false 5 1 xs)]:=At.tp (.lit (.ask (.req (.abs (Int) (fun YY=>AV.pv (PV.rptr (PV.cells ((enc) YY)))) (Zl 2 (.req (.keep (.lit (.nil))))))) (Zl 2 (.req (.nil))))) h (by kernel_rfl)
theorem PZ{G:PV->Prop}(a:Arr)(n:Nat)(i:Int)(xs:List PV)(h:if (decide (i<(↑(List.length (Arr.x a)):Int)))=true then(decide (0<=i)&&decide (Int.toNat i<List.length (List.map enc (Arr.x a)))&&Enc.sz Int==1)=true∧(∃ y0:Int,AV.pv (PV.rptr (PV.cells (List.getD (List.map enc (Arr.x a)) (Int.toNat i) default)))=AV.pv (PV.rptr (PV.cells ((enc) y0)))∧((KX 5 [(.pv (.int .i64 (PV.asInt (List.getD (PV.cells (enc y0)) 0 default)))),(.pv (.bool true)),(.ptr 0 0)] [(.box [(.row 1 n 0 n)]),(.row false 5 1 xs)])=true∧(At XU 0 (Za Xh G) Xd 1 56 [(1,(.ptr 0 0)),(4,(.ptr 1 0)),(5,(.fn 60 [] [(.ptr 1 0)])),(40,(.pv (.int .i64 (↑(List.length (Arr.x a)):Int)))),(41,(.pv (.int .i64 (IntKind.wrap IntKind.i64 (i+1)))))] [(.obj (.box [(.pv (.str (Str.s (Arr.e a)))),(.pv (.sl 1 false (List.map enc (Arr.d a)))),(.pv (.sl 1 false (List.map enc (Arr.x a))))])),(.obj (.box [(.row 2 (n+List.length (Uc true (PV.asInt (List.getD (PV.cells (enc y0)) 0 default)))) 0 (n+List.length (Uc true (PV.asInt (List.getD (PV.cells (enc y0)) 0 default)))))])),(.obj (.row false 5 1 (xs++Zh (Uc true (PV.asInt (List.getD (PV.cells (enc y0)) 0 default))))))])))else((List.length xs==n&&n==n&&decide ((n+List.length (List.drop 0 (List.take 1 [PV.int IntKind.u8 93])))*1<=1099511627776)&&decide (n+List.length (List.drop 0 (List.take 1 [PV.int IntKind.u8 93]))<=1099511627776))=true∧((List.length (xs++List.drop 0 (List.take 1 [PV.int IntKind.u8 93]))==n+List.length (List.drop 0 (List.take 1 [PV.int IntKind.u8 93]))&&List.all (xs++List.drop 0 (List.take 1 [PV.int IntKind.u8 93])) Gx&&1==1)=true∧(G ((.tup [(.str (YX (List.drop 0 (List.take (n+List.length (List.drop 0 (List.take 1 [PV.int IntKind.u8 93]))) (xs++List.drop 0 (List.take 1 [PV.int IntKind.u8 93])))))),(.int .i64 0)])))))):At XU 0 (Za Xh G) Xd 1 56 [(1,.ptr 0 0),(4,.ptr 1 0),(5,.fn 60 [] [.ptr 1 0]),(40,.pv (.int .i64 a.x.length)),(41,.pv (.int .i64 i))] [.obj (.box [.pv (enc a.e),.pv (enc a.d),.pv (enc a.x)]),.obj (.box [.row 2 n 0 n]),.obj (.row false 5 1 xs)]:=At.tp (.lit (.ask (.req (.abs (Int) (fun YY=>AV.pv (PV.rptr (PV.cells ((enc) YY)))) (.lit (.req (.keep (.lit (.nil))))))) (Zl 2 (.req (.req (.nil)))))) h (by kernel_rfl)
end Go.Pl
namespace Go.Pl
open Go.RowKit
open Enc (enc dec is)
open EncL (encL decL isL)
set_option maxRecDepth 100000
noncomputable def L9:IC:=Xu Proofs.Tryz.f45
def MO:List IRes:=[(.tmp 2)]
abbrev d0o:Nat:=6
def a3j:ZO:=YQ [(46,.pure (preT (fun x:Str×Unit=>decide (x.1.s.length<=1048576))) (Zb (fun x:Str×Unit=>ZN x.1.s)))]
theorem d5g{G:PV->Prop}(s:List UInt8)(h:(Go.Pl.preT (fun(x:Str×Unit)=>decide (List.length (Str.s x.1)<=1048576)) [(.str s)])=true∧(∃ y0:Bool,AV.pv (Zb (fun(x:Str×Unit)=>ZN (Str.s x.1)) [(.str s)])=AV.pv (enc y0)∧(G ((.bool !y0))))):Ze a3j 0 (Za MO G) L9 [] (Z0 6 [.str s]):=Ze.tp (.req (.abs (Bool) (fun YY=>AV.pv (enc YY)) (.nil))) h (by kernel_rfl)
noncomputable def Gs:IC:=Xu Proofs.Tryz.f80
def Gh:List IRes:=[(.tmp 4)]
abbrev d7t:Nat:=19
def Rk:ZO:=YQ [(45,.pure (preT (fun x:Str×Unit=>decide (x.1.s.length<=1048576))) (Zb (fun x:Str×Unit=> !(ZN x.1.s))))]
theorem d9v{G:PV->Prop}(l:List Str)(h:At Rk 0 (Za Gh G) Gs 0 19 [(0,(.pv (.sl 1 false (List.map enc l)))),(1,(.pv (.fn 45))),(7,(.pv (.int .i64 (↑(List.length (List.map enc l)):Int)))),(8,(.pv (.int .i64 0)))] []):Ze Rk 0 (Za Gh G) Gs [] (Z0 19 [enc l,.fn 45]):=Ze.tp (.nil) h (by kernel_rfl)
theorem b5q{G:PV->Prop}(l:List Str)(i:Int)(h:if (decide (i<(↑(List.length l):Int)))=true then(decide (0<=i)&&decide (Int.toNat i<List.length (List.map enc l))&&Enc.sz Str==1)=true∧(∃ y0:Str,AV.pv (PV.rptr (PV.cells (List.getD (List.map enc l) (Int.toNat i) default)))=AV.pv (PV.rptr (PV.cells ((enc) y0)))∧((Go.Pl.preT (fun(x:Str×Unit)=>decide (List.length (Str.s x.1)<=1048576)) [(.str (PV.asStr (List.getD (PV.cells (enc y0)) 0 default)))])=true∧(∃ y1:Bool,AV.pv (Zb (fun(x:Str×Unit)=> !ZN (Str.s x.1)) [(.str (PV.asStr (List.getD (PV.cells (enc y0)) 0 default)))])=AV.pv (enc y1)∧(if (y1)=true then G ((.int .i64 i))else(At Rk 0 (Za Gh G) Gs 0 19 [(0,(.pv (.sl 1 false (List.map enc l)))),(1,(.pv (.fn 45))),(7,(.pv (.int .i64 (↑(List.length l):Int)))),(8,(.pv (.int .i64 (IntKind.wrap IntKind.i64 (i+1)))))] [])))))else(G ((.int .i64 (-1))))):At Rk 0 (Za Gh G) Gs 0 19 [(0,.pv (enc l)),(1,.pv (.fn 45)),(7,.pv (.int .i64 l.length)),(8,.pv (.int .i64 i))] []:=At.tp (.lit (.ask (.req (.abs (Str) (fun YY=>AV.pv (PV.rptr (PV.cells ((enc) YY)))) (.lit (.req (.abs (Bool) (fun YY=>AV.pv (enc YY)) (.ask (.nil) (.lit (.nil)))))))) (.nil))) h (by kernel_rfl)
noncomputable def a2s:IC:=Xu Proofs.Tryz.f44
def a0o:List IRes:=[(.tmp 4)]
abbrev d4y:Nat:=9
def b4u:ZO:=YQ [(80,.pure (preT (fun x:List Str×FnV 45×Unit=>UE x.1)) (Zb (fun x:List Str×FnV 45×Unit=>XO (fun s:Str=> !(ZN s.s)) x.1)))]
theorem d9w{G:PV->Prop}(l:List Str)(h:(Go.Pl.preT (fun(x:List Str×FnV 45×Unit)=>UE x.1) [(.sl 1 false (List.map enc l)),(.fn 45)])=true∧(∃ y0:Int,AV.pv (Zb (fun(x:List Str×FnV 45×Unit)=>XO (fun(s:Str)=> !ZN (Str.s s)) x.1) [(.sl 1 false (List.map enc l)),(.fn 45)])=AV.pv (enc y0)∧(G ((.bool (decide (y0 ≥ 0))))))):Ze b4u 0 (Za a0o G) a2s [] (Z0 9 [enc l,.fn 45]):=Ze.tp (.req (.abs (Int) (fun YY=>AV.pv (enc YY)) (.lit (.nil)))) h (by kernel_rfl)
noncomputable def Bg:IC:=Xu Proofs.Tryz.f20
def CO:List IRes:=[(.tmp 2)]
abbrev a9z:Nat:=6
def TT:ZO:=YQ [(44,.pure (preT (fun x:List Str×FnV 45×Unit=>UE x.1)) (Zb (fun x:List Str×FnV 45×Unit=>x.1.any fun s:Str=> !(ZN s.s))))]
theorem c2u{G:PV->Prop}(l:List Str)(h:(Go.Pl.preT (fun(x:List Str×FnV 45×Unit)=>UE x.1) [(.sl 1 false (List.map enc l)),(.fn 45)])=true∧(∃ y0:Bool,AV.pv (Zb (fun(x:List Str×FnV 45×Unit)=>List.any x.1 fun(s:Str)=> !ZN (Str.s s)) [(.sl 1 false (List.map enc l)),(.fn 45)])=AV.pv (enc y0)∧(G ((.bool !y0))))):Ze TT 0 (Za CO G) Bg [] (Z0 6 [enc l]):=Ze.tp (.req (.abs (Bool) (fun YY=>AV.pv (enc YY)) (.nil))) h (by kernel_rfl)
noncomputable def CS:IC:=Xu Proofs.Tryz.f14
def JN:List IRes:=[(.tmp 2)]
abbrev a9v:Nat:=10
def GY:ZO:=YQ [(19,.pure (preT (fun x:Tm×Unit=>tW x.1)) (Zb (fun x:Tm×Unit=>Y4 x.1))),(21,.pure (preT (fun x:Tm×Unit=>tW x.1)) (Zb (fun x:Tm×Unit=>V6 x.1))),(20,.pure (preT (fun x:List Str×Unit=>UE x.1)) (Zb (fun x:List Str×Unit=>x.1.all fun s:Str=>ZN s.s)))]
theorem c3k{G:PV->Prop}(n:Nd)(ks:List Tm)(h:(Go.Pl.preT (fun(x:Tm×Unit)=>tW x.1) [(.agg [(.int .i64 (Nd.kind n)),(.int .i64 (Nd.line n)),(.str (Str.s (Nd.name n))),(.int .i64 (Nd.num n)),(.str (Str.s (Nd.elem n))),(.sl 1 false (List.map enc (Nd.dims n))),(.sl 1 false (List.map enc (Nd.data n))),(.sl 2 false (List.map enc (Nd.sizes n))),(.sl 1 false (List.map enc (Nd.ranks n))),(.sl 10 false (List.map enc ks))])])=true∧(∃ y0:Bool,AV.pv (Zb (fun(x:Tm×Unit)=>Y4 x.1) [(.agg [(.int .i64 (Nd.kind n)),(.int .i64 (Nd.line n)),(.str (Str.s (Nd.name n))),(.int .i64 (Nd.num n)),(.str (Str.s (Nd.elem n))),(.sl 1 false (List.map enc (Nd.dims n))),(.sl 1 false (List.map enc (Nd.data n))),(.sl 2 false (List.map enc (Nd.sizes n))),(.sl 1 false (List.map enc (Nd.ranks n))),(.sl 10 false (List.map enc ks))])])=AV.pv (enc y0)∧(if (y0)=true then(Go.Pl.preT (fun(x:Tm×Unit)=>tW x.1) [(.agg [(.int .i64 (Nd.kind n)),(.int .i64 (Nd.line n)),(.str (Str.s (Nd.name n))),(.int .i64 (Nd.num n)),(.str (Str.s (Nd.elem n))),(.sl 1 false (List.map enc (Nd.dims n))),(.sl 1 false (List.map enc (Nd.data n))),(.sl 2 false (List.map enc (Nd.sizes n))),(.sl 1 false (List.map enc (Nd.ranks n))),(.sl 10 false (List.map enc ks))])])=true∧(∃ y1:List Str,AV.pv (Zb (fun(x:Tm×Unit)=>V6 x.1) [(.agg [(.int .i64 (Nd.kind n)),(.int .i64 (Nd.line n)),(.str (Str.s (Nd.name n))),(.int .i64 (Nd.num n)),(.str (Str.s (Nd.elem n))),(.sl 1 false (List.map enc (Nd.dims n))),(.sl 1 false (List.map enc (Nd.data n))),(.sl 2 false (List.map enc (Nd.sizes n))),(.sl 1 false (List.map enc (Nd.ranks n))),(.sl 10 false (List.map enc ks))])])=AV.pv (enc y1)∧((Go.Pl.preT (fun(x:List Str×Unit)=>UE x.1) [(.sl 1 false (List.map enc y1))])=true∧(∃ y2:Bool,AV.pv (Zb (fun(x:List Str×Unit)=>List.all x.1 fun(s:Str)=>ZN (Str.s s)) [(.sl 1 false (List.map enc y1))])=AV.pv (enc y2)∧(G ((.bool y2))))))else(G ((.bool false)))))):Ze GY 0 (Za JN G) CS [] (Z0 10 [.agg [enc n.kind,enc n.line,enc n.name,enc n.num,enc n.elem,enc n.dims,enc n.data,enc n.sizes,enc n.ranks,enc ks]]):=Ze.tp (.req (.abs (Bool) (fun YY=>AV.pv (enc YY)) (.ask (.lit (.req (.abs (List Str) (fun YY=>AV.pv (enc YY)) (.lit (.req (.abs (Bool) (fun YY=>AV.pv (enc YY)) (.lit (.nil)))))))) (Zu 3)))) h (by kernel_rfl)
noncomputable def Mr:IC:=Xu Proofs.Tryz.f15
def Ll:List IRes:=[(.tmp 2),(.tmp 3)]
abbrev d1t:Nat:=8
def a2m:ZO:=YQ []
theorem d6j{G:PV->Prop}(s:List UInt8)(h:if (decide ((↑(List.length s):Int)>20000))=true then G ((.tup [(.str []),(.int .i64 3)]))else(G ((.tup [(.str s),(.int .i64 0)])))):Ze a2m 0 (Za Ll G) Mr [] (Z0 8 [.str s]):=Ze.tp (.lit (.ask (.nil) (.nil))) h (by kernel_rfl)
def MS:IC:=(V5 [Yd 0 (.alloc (.agg [(.str []),(.bool false),(.str []),(.int .i64 0),(.str []),(.bool false),(.str []),(.int .i64 0),(.str []),(.bool false),(.str []),(.int .i64 0),(.str []),(.bool false),(.str []),(.int .i64 0),(.str []),(.bool false),(.str []),(.int .i64 0),(.str []),(.bool false),(.str []),(.int .i64 0),(.str []),(.bool false),(.str []),(.int .i64 0),(.str []),(.bool false),(.str []),(.int .i64 0),(.str []),(.bool false),(.str []),(.int .i64 0),(.str []),(.bool false),(.str []),(.int .i64 0),(.str []),(.bool false),(.str []),(.int .i64 0),(.str []),(.bool false),(.str []),(.int .i64 0),(.str []),(.bool false),(.str []),(.int .i64 0),(.str []),(.bool false),(.str []),(.int .i64 0),(.str []),(.bool false),(.str []),(.int .i64 0)])) 0] (V5 [Yd 1 (.build [(.str []),(.bool false),(.str []),(.int .i64 0)] [(0,(1,(.c (.str [124,124])))),(1,(1,(.c (.bool false)))),(2,(1,(.c (.str [111,114])))),(3,(1,(WN 1)))]) 0,Yd 2 (.build [(.str []),(.bool false),(.str []),(.int .i64 0)] [(0,(1,(.c (.str [38,38])))),(1,(1,(.c (.bool false)))),(2,(1,(.c (.str [97,110,100])))),(3,(1,(WN 2)))]) 0,Yd 3 (.build [(.str []),(.bool false),(.str []),(.int .i64 0)] [(0,(1,(.c (.str [61,61])))),(1,(1,(.c (.bool false)))),(2,(1,(.c (.str [101,113])))),(3,(1,(WN 3)))]) 0,Yd 4 (.build [(.str []),(.bool false),(.str []),(.int .i64 0)] [(0,(1,(.c (.str [33,61])))),(1,(1,(.c (.bool false)))),(2,(1,(.c (.str [110,101])))),(3,(1,(WN 3)))]) 0,Yd 5 (.build [(.str []),(.bool false),(.str []),(.int .i64 0)] [(0,(1,(.c (.str [60])))),(1,(1,(.c (.bool false)))),(2,(1,(.c (.str [108,116])))),(3,(1,(WN 3)))]) 0,Yd 6 (.build [(.str []),(.bool false),(.str []),(.int .i64 0)] [(0,(1,(.c (.str [60,61])))),(1,(1,(.c (.bool false)))),(2,(1,(.c (.str [108,101])))),(3,(1,(WN 3)))]) 0,Yd 7 (.build [(.str []),(.bool false),(.str []),(.int .i64 0)] [(0,(1,(.c (.str [62])))),(1,(1,(.c (.bool false)))),(2,(1,(.c (.str [103,116])))),(3,(1,(WN 3)))]) 0,Yd 8 (.build [(.str []),(.bool false),(.str []),(.int .i64 0)] [(0,(1,(.c (.str [62,61])))),(1,(1,(.c (.bool false)))),(2,(1,(.c (.str [103,101])))),(3,(1,(WN 3)))]) 0,Yd 9 (.build [(.str []),(.bool false),(.str []),(.int .i64 0)] [(0,(1,(.c (.str [43])))),(1,(1,(.c (.bool false)))),(2,(1,(.c (.str [97,100,100])))),(3,(1,(WN 4)))]) 0,Yd 10 (.build [(.str []),(.bool false),(.str []),(.int .i64 0)] [(0,(1,(.c (.str [45])))),(1,(1,(.c (.bool false)))),(2,(1,(.c (.str [115,117,98])))),(3,(1,(WN 4)))]) 0,Yd 11 (.build [(.str []),(.bool false),(.str []),(.int .i64 0)] [(0,(1,(.c (.str [42])))),(1,(1,(.c (.bool false)))),(2,(1,(.c (.str [109,117,108])))),(3,(1,(WN 5)))]) 0,Yd 12 (.build [(.str []),(.bool false),(.str []),(.int .i64 0)] [(0,(1,(.c (.str [47])))),(1,(1,(.c (.bool false)))),(2,(1,(.c (.str [100,105,118])))),(3,(1,(WN 5)))]) 0,Yd 13 (.build [(.str []),(.bool false),(.str []),(.int .i64 0)] [(0,(1,(.c (.str [37])))),(1,(1,(.c (.bool false)))),(2,(1,(.c (.str [109,111,100])))),(3,(1,(WN 5)))]) 0,Yd 14 (.build [(.str []),(.bool false),(.str []),(.int .i64 0)] [(0,(1,(.c (.str [45])))),(1,(1,(.c (.bool true)))),(2,(1,(.c (.str [110,101,103])))),(3,(1,(WN 6)))]) 0,Yd 15 (.build [(.str []),(.bool false),(.str []),(.int .i64 0)] [(0,(1,(.c (.str [33])))),(1,(1,(.c (.bool true)))),(2,(1,(.c (.str [110,111,116])))),(3,(1,(WN 6)))]) 0,Yd 16 (.build [(.str []),(.bool false),(.str []),(.int .i64 0),(.str []),(.bool false),(.str []),(.int .i64 0),(.str []),(.bool false),(.str []),(.int .i64 0),(.str []),(.bool false),(.str []),(.int .i64 0),(.str []),(.bool false),(.str []),(.int .i64 0),(.str []),(.bool false),(.str []),(.int .i64 0),(.str []),(.bool false),(.str []),(.int .i64 0),(.str []),(.bool false),(.str []),(.int .i64 0),(.str []),(.bool false),(.str []),(.int .i64 0),(.str []),(.bool false),(.str []),(.int .i64 0),(.str []),(.bool false),(.str []),(.int .i64 0),(.str []),(.bool false),(.str []),(.int .i64 0),(.str []),(.bool false),(.str []),(.int .i64 0),(.str []),(.bool false),(.str []),(.int .i64 0),(.str []),(.bool false),(.str []),(.int .i64 0)] [(0,(4,(.t 1))),(4,(4,(.t 2))),(8,(4,(.t 3))),(12,(4,(.t 4))),(16,(4,(.t 5))),(20,(4,(.t 6))),(24,(4,(.t 7))),(28,(4,(.t 8))),(32,(4,(.t 9))),(36,(4,(.t 10))),(40,(4,(.t 11))),(44,(4,(.t 12))),(48,(4,(.t 13))),(52,(4,(.t 14))),(56,(4,(.t 15)))]) 0,o'' (.store 60 (.t 0) (.t 16)) 0] .ret))
def Ny:List IRes:=[(.cell true 60 0)]
abbrev c7c:Nat:=17
def a4c:ZO:=YQ []
theorem d6d{G:PV->Prop}(h:G ((.agg [(.str [(124:UInt8),(124:UInt8)]),(.bool false),(.str [(111:UInt8),(114:UInt8)]),(.int .i64 1),(.str [(38:UInt8),(38:UInt8)]),(.bool false),(.str [(97:UInt8),(110:UInt8),(100:UInt8)]),(.int .i64 2),(.str [(61:UInt8),(61:UInt8)]),(.bool false),(.str [(101:UInt8),(113:UInt8)]),(.int .i64 3),(.str [(33:UInt8),(61:UInt8)]),(.bool false),(.str [(110:UInt8),(101:UInt8)]),(.int .i64 3),(.str [(60:UInt8)]),(.bool false),(.str [(108:UInt8),(116:UInt8)]),(.int .i64 3),(.str [(60:UInt8),(61:UInt8)]),(.bool false),(.str [(108:UInt8),(101:UInt8)]),(.int .i64 3),(.str [(62:UInt8)]),(.bool false),(.str [(103:UInt8),(116:UInt8)]),(.int .i64 3),(.str [(62:UInt8),(61:UInt8)]),(.bool false),(.str [(103:UInt8),(101:UInt8)]),(.int .i64 3),(.str [(43:UInt8)]),(.bool false),(.str [(97:UInt8),(100:UInt8),(100:UInt8)]),(.int .i64 4),(.str [(45:UInt8)]),(.bool false),(.str [(115:UInt8),(117:UInt8),(98:UInt8)]),(.int .i64 4),(.str [(42:UInt8)]),(.bool false),(.str [(109:UInt8),(117:UInt8),(108:UInt8)]),(.int .i64 5),(.str [(47:UInt8)]),(.bool false),(.str [(100:UInt8),(105:UInt8),(118:UInt8)]),(.int .i64 5),(.str [(37:UInt8)]),(.bool false),(.str [(109:UInt8),(111:UInt8),(100:UInt8)]),(.int .i64 5),(.str [(45:UInt8)]),(.bool true),(.str [(110:UInt8),(101:UInt8),(103:UInt8)]),(.int .i64 6),(.str [(33:UInt8)]),(.bool true),(.str [(110:UInt8),(111:UInt8),(116:UInt8)]),(.int .i64 6)]))):Ze a4c 0 (Za Ny G) MS [] (Z0 17 []):=Ze.tp (.nil) h (by kernel_rfl)
noncomputable def ZK:IC:=Xu Proofs.Tryz.f49
def ZJ:List IRes:=[(.tmp 2),(.tmp 3),(.tmp 4)]
abbrev c8g:Nat:=20
def Z4:ZO:=YQ [(87,.pure Az Am)]
theorem d5b{G:PV->Prop}(s:List UInt8)(h:At Z4 0 (Za ZJ G) ZK 0 20 [(0,(.pv (.str s))),(7,(.pv ZR)),(8,(.pv (.int .i64 0)))] []):Ze Z4 0 (Za ZJ G) ZK [] (Z0 20 [.str s]):=Ze.tp (.lit (.keep (.nil))) h (by kernel_rfl)
theorem b8e{G:PV->Prop}(s:List UInt8)(h:if (OpR.n (OpR.mk [(124:UInt8),(124:UInt8)] false [(111:UInt8),(114:UInt8)] 1)==s)=true then G ((.tup [(.str (OpR.s (OpR.mk [(124:UInt8),(124:UInt8)] false [(111:UInt8),(114:UInt8)] 1))),(.bool false),(.bool true)]))else(At Z4 0 (Za ZJ G) ZK 0 20 [(0,(.pv (.str s))),(7,(.pv ZR)),(8,(.pv (.int .i64 1)))] [])):At Z4 0 (Za ZJ G) ZK 0 20 [(0,.pv (.str s)),(7,.pv ZR),(8,.pv (.int .i64 0))] []:=At.tp (Zl 4 (.ask (.nil) (.lit (.nil)))) h (by kernel_rfl)
theorem b7t{G:PV->Prop}(s:List UInt8)(h:if (OpR.n (OpR.mk [(38:UInt8),(38:UInt8)] false [(97:UInt8),(110:UInt8),(100:UInt8)] 2)==s)=true then G ((.tup [(.str (OpR.s (OpR.mk [(38:UInt8),(38:UInt8)] false [(97:UInt8),(110:UInt8),(100:UInt8)] 2))),(.bool false),(.bool true)]))else(At Z4 0 (Za ZJ G) ZK 0 20 [(0,(.pv (.str s))),(7,(.pv ZR)),(8,(.pv (.int .i64 2)))] [])):At Z4 0 (Za ZJ G) ZK 0 20 [(0,.pv (.str s)),(7,.pv ZR),(8,.pv (.int .i64 1))] []:=At.tp (Zl 4 (.ask (.nil) (.lit (.nil)))) h (by kernel_rfl)
theorem b7l{G:PV->Prop}(s:List UInt8)(h:if (OpR.n (OpR.mk [(61:UInt8),(61:UInt8)] false [(101:UInt8),(113:UInt8)] 3)==s)=true then G ((.tup [(.str (OpR.s (OpR.mk [(61:UInt8),(61:UInt8)] false [(101:UInt8),(113:UInt8)] 3))),(.bool false),(.bool true)]))else(At Z4 0 (Za ZJ G) ZK 0 20 [(0,(.pv (.str s))),(7,(.pv ZR)),(8,(.pv (.int .i64 3)))] [])):At Z4 0 (Za ZJ G) ZK 0 20 [(0,.pv (.str s)),(7,.pv ZR),(8,.pv (.int .i64 2))] []:=At.tp (Zl 4 (.ask (.nil) (.lit (.nil)))) h (by kernel_rfl)
theorem c2y{G:PV->Prop}(s:List UInt8)(h:if (OpR.n (OpR.mk [(33:UInt8),(61:UInt8)] false [(110:UInt8),(101:UInt8)] 3)==s)=true then G ((.tup [(.str (OpR.s (OpR.mk [(33:UInt8),(61:UInt8)] false [(110:UInt8),(101:UInt8)] 3))),(.bool false),(.bool true)]))else(At Z4 0 (Za ZJ G) ZK 0 20 [(0,(.pv (.str s))),(7,(.pv ZR)),(8,(.pv (.int .i64 4)))] [])):At Z4 0 (Za ZJ G) ZK 0 20 [(0,.pv (.str s)),(7,.pv ZR),(8,.pv (.int .i64 3))] []:=At.tp (Zl 4 (.ask (.nil) (.lit (.nil)))) h (by kernel_rfl)
theorem c2b{G:PV->Prop}(s:List UInt8)(h:if (OpR.n (OpR.mk [(60:UInt8)] false [(108:UInt8),(116:UInt8)] 3)==s)=true then G ((.tup [(.str (OpR.s (OpR.mk [(60:UInt8)] false [(108:UInt8),(116:UInt8)] 3))),(.bool false),(.bool true)]))else(At Z4 0 (Za ZJ G) ZK 0 20 [(0,(.pv (.str s))),(7,(.pv ZR)),(8,(.pv (.int .i64 5)))] [])):At Z4 0 (Za ZJ G) ZK 0 20 [(0,.pv (.str s)),(7,.pv ZR),(8,.pv (.int .i64 4))] []:=At.tp (Zl 4 (.ask (.nil) (.lit (.nil)))) h (by kernel_rfl)
theorem c2h{G:PV->Prop}(s:List UInt8)(h:if (OpR.n (OpR.mk [(60:UInt8),(61:UInt8)] false [(108:UInt8),(101:UInt8)] 3)==s)=true then G ((.tup [(.str (OpR.s (OpR.mk [(60:UInt8),(61:UInt8)] false [(108:UInt8),(101:UInt8)] 3))),(.bool false),(.bool true)]))else(At Z4 0 (Za ZJ G) ZK 0 20 [(0,(.pv (.str s))),(7,(.pv ZR)),(8,(.pv (.int .i64 6)))] [])):At Z4 0 (Za ZJ G) ZK 0 20 [(0,.pv (.str s)),(7,.pv ZR),(8,.pv (.int .i64 5))] []:=At.tp (Zl 4 (.ask (.nil) (.lit (.nil)))) h (by kernel_rfl)
theorem c4x{G:PV->Prop}(s:List UInt8)(h:if (OpR.n (OpR.mk [(62:UInt8)] false [(103:UInt8),(116:UInt8)] 3)==s)=true then G ((.tup [(.str (OpR.s (OpR.mk [(62:UInt8)] false [(103:UInt8),(116:UInt8)] 3))),(.bool false),(.bool true)]))else(At Z4 0 (Za ZJ G) ZK 0 20 [(0,(.pv (.str s))),(7,(.pv ZR)),(8,(.pv (.int .i64 7)))] [])):At Z4 0 (Za ZJ G) ZK 0 20 [(0,.pv (.str s)),(7,.pv ZR),(8,.pv (.int .i64 6))] []:=At.tp (Zl 4 (.ask (.nil) (.lit (.nil)))) h (by kernel_rfl)
theorem c0l{G:PV->Prop}(s:List UInt8)(h:if (OpR.n (OpR.mk [(62:UInt8),(61:UInt8)] false [(103:UInt8),(101:UInt8)] 3)==s)=true then G ((.tup [(.str (OpR.s (OpR.mk [(62:UInt8),(61:UInt8)] false [(103:UInt8),(101:UInt8)] 3))),(.bool false),(.bool true)]))else(At Z4 0 (Za ZJ G) ZK 0 20 [(0,(.pv (.str s))),(7,(.pv ZR)),(8,(.pv (.int .i64 8)))] [])):At Z4 0 (Za ZJ G) ZK 0 20 [(0,.pv (.str s)),(7,.pv ZR),(8,.pv (.int .i64 7))] []:=At.tp (Zl 4 (.ask (.nil) (.lit (.nil)))) h (by kernel_rfl)
theorem b4q{G:PV->Prop}(s:List UInt8)(h:if (OpR.n (OpR.mk [(43:UInt8)] false [(97:UInt8),(100:UInt8),(100:UInt8)] 4)==s)=true then G ((.tup [(.str (OpR.s (OpR.mk [(43:UInt8)] false [(97:UInt8),(100:UInt8),(100:UInt8)] 4))),(.bool false),(.bool true)]))else(At Z4 0 (Za ZJ G) ZK 0 20 [(0,(.pv (.str s))),(7,(.pv ZR)),(8,(.pv (.int .i64 9)))] [])):At Z4 0 (Za ZJ G) ZK 0 20 [(0,.pv (.str s)),(7,.pv ZR),(8,.pv (.int .i64 8))] []:=At.tp (Zl 4 (.ask (.nil) (.lit (.nil)))) h (by kernel_rfl)
theorem c5a{G:PV->Prop}(s:List UInt8)(h:if (OpR.n (OpR.mk [(45:UInt8)] false [(115:UInt8),(117:UInt8),(98:UInt8)] 4)==s)=true then G ((.tup [(.str (OpR.s (OpR.mk [(45:UInt8)] false [(115:UInt8),(117:UInt8),(98:UInt8)] 4))),(.bool false),(.bool true)]))else(At Z4 0 (Za ZJ G) ZK 0 20 [(0,(.pv (.str s))),(7,(.pv ZR)),(8,(.pv (.int .i64 10)))] [])):At Z4 0 (Za ZJ G) ZK 0 20 [(0,.pv (.str s)),(7,.pv ZR),(8,.pv (.int .i64 9))] []:=At.tp (Zl 4 (.ask (.nil) (.lit (.nil)))) h (by kernel_rfl)
theorem b6u{G:PV->Prop}(s:List UInt8)(h:if (OpR.n (OpR.mk [(42:UInt8)] false [(109:UInt8),(117:UInt8),(108:UInt8)] 5)==s)=true then G ((.tup [(.str (OpR.s (OpR.mk [(42:UInt8)] false [(109:UInt8),(117:UInt8),(108:UInt8)] 5))),(.bool false),(.bool true)]))else(At Z4 0 (Za ZJ G) ZK 0 20 [(0,(.pv (.str s))),(7,(.pv ZR)),(8,(.pv (.int .i64 11)))] [])):At Z4 0 (Za ZJ G) ZK 0 20 [(0,.pv (.str s)),(7,.pv ZR),(8,.pv (.int .i64 10))] []:=At.tp (Zl 4 (.ask (.nil) (.lit (.nil)))) h (by kernel_rfl)
theorem b8d{G:PV->Prop}(s:List UInt8)(h:if (OpR.n (OpR.mk [(47:UInt8)] false [(100:UInt8),(105:UInt8),(118:UInt8)] 5)==s)=true then G ((.tup [(.str (OpR.s (OpR.mk [(47:UInt8)] false [(100:UInt8),(105:UInt8),(118:UInt8)] 5))),(.bool false),(.bool true)]))else(At Z4 0 (Za ZJ G) ZK 0 20 [(0,(.pv (.str s))),(7,(.pv ZR)),(8,(.pv (.int .i64 12)))] [])):At Z4 0 (Za ZJ G) ZK 0 20 [(0,.pv (.str s)),(7,.pv ZR),(8,.pv (.int .i64 11))] []:=At.tp (Zl 4 (.ask (.nil) (.lit (.nil)))) h (by kernel_rfl)
theorem b9l{G:PV->Prop}(s:List UInt8)(h:if (OpR.n (OpR.mk [(37:UInt8)] false [(109:UInt8),(111:UInt8),(100:UInt8)] 5)==s)=true then G ((.tup [(.str (OpR.s (OpR.mk [(37:UInt8)] false [(109:UInt8),(111:UInt8),(100:UInt8)] 5))),(.bool false),(.bool true)]))else(At Z4 0 (Za ZJ G) ZK 0 20 [(0,(.pv (.str s))),(7,(.pv ZR)),(8,(.pv (.int .i64 13)))] [])):At Z4 0 (Za ZJ G) ZK 0 20 [(0,.pv (.str s)),(7,.pv ZR),(8,.pv (.int .i64 12))] []:=At.tp (Zl 4 (.ask (.nil) (.lit (.nil)))) h (by kernel_rfl)
theorem c4y{G:PV->Prop}(s:List UInt8)(h:if (OpR.n (OpR.mk [(45:UInt8)] true [(110:UInt8),(101:UInt8),(103:UInt8)] 6)==s)=true then G ((.tup [(.str (OpR.s (OpR.mk [(45:UInt8)] true [(110:UInt8),(101:UInt8),(103:UInt8)] 6))),(.bool true),(.bool true)]))else(At Z4 0 (Za ZJ G) ZK 0 20 [(0,(.pv (.str s))),(7,(.pv ZR)),(8,(.pv (.int .i64 14)))] [])):At Z4 0 (Za ZJ G) ZK 0 20 [(0,.pv (.str s)),(7,.pv ZR),(8,.pv (.int .i64 13))] []:=At.tp (Zl 4 (.ask (.nil) (.lit (.nil)))) h (by kernel_rfl)
theorem b4d{G:PV->Prop}(s:List UInt8)(h:if (OpR.n (OpR.mk [(33:UInt8)] true [(110:UInt8),(111:UInt8),(116:UInt8)] 6)==s)=true then G ((.tup [(.str (OpR.s (OpR.mk [(33:UInt8)] true [(110:UInt8),(111:UInt8),(116:UInt8)] 6))),(.bool true),(.bool true)]))else(At Z4 0 (Za ZJ G) ZK 0 20 [(0,(.pv (.str s))),(7,(.pv ZR)),(8,(.pv (.int .i64 15)))] [])):At Z4 0 (Za ZJ G) ZK 0 20 [(0,.pv (.str s)),(7,.pv ZR),(8,.pv (.int .i64 14))] []:=At.tp (Zl 4 (.ask (.nil) (.lit (.nil)))) h (by kernel_rfl)
theorem c1k{G:PV->Prop}(s:List UInt8)(h:G ((.tup [(.str []),(.bool false),(.bool false)]))):At Z4 0 (Za ZJ G) ZK 0 20 [(0,.pv (.str s)),(7,.pv ZR),(8,.pv (.int .i64 15))] []:=At.tp (Zu 2) h (by kernel_rfl)
noncomputable def Zx:IC:=Xu Proofs.Tryz.f50
def Zw:List IRes:=[(.tmp 4),(.tmp 5),(.tmp 6)]
abbrev c5w:Nat:=28
def ZG:ZO:=YQ [(87,.pure Az Am)]
theorem d6l{G:PV->Prop}(s:List UInt8)(u:Bool)(h:At ZG 0 (Za Zw G) Zx 0 28 [(0,(.pv (.str s))),(1,(.pv (.bool u))),(9,(.pv ZR)),(10,(.pv (.int .i64 0)))] []):Ze ZG 0 (Za Zw G) Zx [] (Z0 28 [.str s,.bool u]):=Ze.tp (.lit (.keep (.nil))) h (by kernel_rfl)
theorem b3k{G:PV->Prop}(s:List UInt8)(u:Bool)(h:if (OpR.s (OpR.mk [(124:UInt8),(124:UInt8)] false [(111:UInt8),(114:UInt8)] 1)==s)=true then if (OpR.u (OpR.mk [(124:UInt8),(124:UInt8)] false [(111:UInt8),(114:UInt8)] 1)==u)=true then G ((.tup [(.str (OpR.n (OpR.mk [(124:UInt8),(124:UInt8)] false [(111:UInt8),(114:UInt8)] 1))),(.int .i64 1),(.bool true)]))else(At ZG 0 (Za Zw G) Zx 0 28 [(0,(.pv (.str s))),(1,(.pv (.bool u))),(9,(.pv ZR)),(10,(.pv (.int .i64 1)))] [])else(At ZG 0 (Za Zw G) Zx 0 28 [(0,(.pv (.str s))),(1,(.pv (.bool u))),(9,(.pv ZR)),(10,(.pv (.int .i64 1)))] [])):At ZG 0 (Za Zw G) Zx 0 28 [(0,.pv (.str s)),(1,.pv (.bool u)),(9,.pv ZR),(10,.pv (.int .i64 0))] []:=At.tp (Zl 4 (.ask (Zl 5 (.ask (.nil) (.lit (.nil)))) (Zu 6))) h (by kernel_rfl)
theorem b5t{G:PV->Prop}(s:List UInt8)(u:Bool)(h:if (OpR.s (OpR.mk [(38:UInt8),(38:UInt8)] false [(97:UInt8),(110:UInt8),(100:UInt8)] 2)==s)=true then if (OpR.u (OpR.mk [(38:UInt8),(38:UInt8)] false [(97:UInt8),(110:UInt8),(100:UInt8)] 2)==u)=true then G ((.tup [(.str (OpR.n (OpR.mk [(38:UInt8),(38:UInt8)] false [(97:UInt8),(110:UInt8),(100:UInt8)] 2))),(.int .i64 2),(.bool true)]))else(At ZG 0 (Za Zw G) Zx 0 28 [(0,(.pv (.str s))),(1,(.pv (.bool u))),(9,(.pv ZR)),(10,(.pv (.int .i64 2)))] [])else(At ZG 0 (Za Zw G) Zx 0 28 [(0,(.pv (.str s))),(1,(.pv (.bool u))),(9,(.pv ZR)),(10,(.pv (.int .i64 2)))] [])):At ZG 0 (Za Zw G) Zx 0 28 [(0,.pv (.str s)),(1,.pv (.bool u)),(9,.pv ZR),(10,.pv (.int .i64 1))] []:=At.tp (Zl 4 (.ask (Zl 5 (.ask (.nil) (.lit (.nil)))) (Zu 6))) h (by kernel_rfl)
theorem b4w{G:PV->Prop}(s:List UInt8)(u:Bool)(h:if (OpR.s (OpR.mk [(61:UInt8),(61:UInt8)] false [(101:UInt8),(113:UInt8)] 3)==s)=true then if (OpR.u (OpR.mk [(61:UInt8),(61:UInt8)] false [(101:UInt8),(113:UInt8)] 3)==u)=true then G ((.tup [(.str (OpR.n (OpR.mk [(61:UInt8),(61:UInt8)] false [(101:UInt8),(113:UInt8)] 3))),(.int .i64 3),(.bool true)]))else(At ZG 0 (Za Zw G) Zx 0 28 [(0,(.pv (.str s))),(1,(.pv (.bool u))),(9,(.pv ZR)),(10,(.pv (.int .i64 3)))] [])else(At ZG 0 (Za Zw G) Zx 0 28 [(0,(.pv (.str s))),(1,(.pv (.bool u))),(9,(.pv ZR)),(10,(.pv (.int .i64 3)))] [])):At ZG 0 (Za Zw G) Zx 0 28 [(0,.pv (.str s)),(1,.pv (.bool u)),(9,.pv ZR),(10,.pv (.int .i64 2))] []:=At.tp (Zl 4 (.ask (Zl 5 (.ask (.nil) (.lit (.nil)))) (Zu 6))) h (by kernel_rfl)
theorem b9s{G:PV->Prop}(s:List UInt8)(u:Bool)(h:if (OpR.s (OpR.mk [(33:UInt8),(61:UInt8)] false [(110:UInt8),(101:UInt8)] 3)==s)=true then if (OpR.u (OpR.mk [(33:UInt8),(61:UInt8)] false [(110:UInt8),(101:UInt8)] 3)==u)=true then G ((.tup [(.str (OpR.n (OpR.mk [(33:UInt8),(61:UInt8)] false [(110:UInt8),(101:UInt8)] 3))),(.int .i64 3),(.bool true)]))else(At ZG 0 (Za Zw G) Zx 0 28 [(0,(.pv (.str s))),(1,(.pv (.bool u))),(9,(.pv ZR)),(10,(.pv (.int .i64 4)))] [])else(At ZG 0 (Za Zw G) Zx 0 28 [(0,(.pv (.str s))),(1,(.pv (.bool u))),(9,(.pv ZR)),(10,(.pv (.int .i64 4)))] [])):At ZG 0 (Za Zw G) Zx 0 28 [(0,.pv (.str s)),(1,.pv (.bool u)),(9,.pv ZR),(10,.pv (.int .i64 3))] []:=At.tp (Zl 4 (.ask (Zl 5 (.ask (.nil) (.lit (.nil)))) (Zu 6))) h (by kernel_rfl)
theorem c4q{G:PV->Prop}(s:List UInt8)(u:Bool)(h:if (OpR.s (OpR.mk [(60:UInt8)] false [(108:UInt8),(116:UInt8)] 3)==s)=true then if (OpR.u (OpR.mk [(60:UInt8)] false [(108:UInt8),(116:UInt8)] 3)==u)=true then G ((.tup [(.str (OpR.n (OpR.mk [(60:UInt8)] false [(108:UInt8),(116:UInt8)] 3))),(.int .i64 3),(.bool true)]))else(At ZG 0 (Za Zw G) Zx 0 28 [(0,(.pv (.str s))),(1,(.pv (.bool u))),(9,(.pv ZR)),(10,(.pv (.int .i64 5)))] [])else(At ZG 0 (Za Zw G) Zx 0 28 [(0,(.pv (.str s))),(1,(.pv (.bool u))),(9,(.pv ZR)),(10,(.pv (.int .i64 5)))] [])):At ZG 0 (Za Zw G) Zx 0 28 [(0,.pv (.str s)),(1,.pv (.bool u)),(9,.pv ZR),(10,.pv (.int .i64 4))] []:=At.tp (Zl 4 (.ask (Zl 5 (.ask (.nil) (.lit (.nil)))) (Zu 6))) h (by kernel_rfl)
theorem c4w{G:PV->Prop}(s:List UInt8)(u:Bool)(h:if (OpR.s (OpR.mk [(60:UInt8),(61:UInt8)] false [(108:UInt8),(101:UInt8)] 3)==s)=true then if (OpR.u (OpR.mk [(60:UInt8),(61:UInt8)] false [(108:UInt8),(101:UInt8)] 3)==u)=true then G ((.tup [(.str (OpR.n (OpR.mk [(60:UInt8),(61:UInt8)] false [(108:UInt8),(101:UInt8)] 3))),(.int .i64 3),(.bool true)]))else(At ZG 0 (Za Zw G) Zx 0 28 [(0,(.pv (.str s))),(1,(.pv (.bool u))),(9,(.pv ZR)),(10,(.pv (.int .i64 6)))] [])else(At ZG 0 (Za Zw G) Zx 0 28 [(0,(.pv (.str s))),(1,(.pv (.bool u))),(9,(.pv ZR)),(10,(.pv (.int .i64 6)))] [])):At ZG 0 (Za Zw G) Zx 0 28 [(0,.pv (.str s)),(1,.pv (.bool u)),(9,.pv ZR),(10,.pv (.int .i64 5))] []:=At.tp (Zl 4 (.ask (Zl 5 (.ask (.nil) (.lit (.nil)))) (Zu 6))) h (by kernel_rfl)
theorem c3g{G:PV->Prop}(s:List UInt8)(u:Bool)(h:if (OpR.s (OpR.mk [(62:UInt8)] false [(103:UInt8),(116:UInt8)] 3)==s)=true then if (OpR.u (OpR.mk [(62:UInt8)] false [(103:UInt8),(116:UInt8)] 3)==u)=true then G ((.tup [(.str (OpR.n (OpR.mk [(62:UInt8)] false [(103:UInt8),(116:UInt8)] 3))),(.int .i64 3),(.bool true)]))else(At ZG 0 (Za Zw G) Zx 0 28 [(0,(.pv (.str s))),(1,(.pv (.bool u))),(9,(.pv ZR)),(10,(.pv (.int .i64 7)))] [])else(At ZG 0 (Za Zw G) Zx 0 28 [(0,(.pv (.str s))),(1,(.pv (.bool u))),(9,(.pv ZR)),(10,(.pv (.int .i64 7)))] [])):At ZG 0 (Za Zw G) Zx 0 28 [(0,.pv (.str s)),(1,.pv (.bool u)),(9,.pv ZR),(10,.pv (.int .i64 6))] []:=At.tp (Zl 4 (.ask (Zl 5 (.ask (.nil) (.lit (.nil)))) (Zu 6))) h (by kernel_rfl)
theorem b4r{G:PV->Prop}(s:List UInt8)(u:Bool)(h:if (OpR.s (OpR.mk [(62:UInt8),(61:UInt8)] false [(103:UInt8),(101:UInt8)] 3)==s)=true then if (OpR.u (OpR.mk [(62:UInt8),(61:UInt8)] false [(103:UInt8),(101:UInt8)] 3)==u)=true then G ((.tup [(.str (OpR.n (OpR.mk [(62:UInt8),(61:UInt8)] false [(103:UInt8),(101:UInt8)] 3))),(.int .i64 3),(.bool true)]))else(At ZG 0 (Za Zw G) Zx 0 28 [(0,(.pv (.str s))),(1,(.pv (.bool u))),(9,(.pv ZR)),(10,(.pv (.int .i64 8)))] [])else(At ZG 0 (Za Zw G) Zx 0 28 [(0,(.pv (.str s))),(1,(.pv (.bool u))),(9,(.pv ZR)),(10,(.pv (.int .i64 8)))] [])):At ZG 0 (Za Zw G) Zx 0 28 [(0,.pv (.str s)),(1,.pv (.bool u)),(9,.pv ZR),(10,.pv (.int .i64 7))] []:=At.tp (Zl 4 (.ask (Zl 5 (.ask (.nil) (.lit (.nil)))) (Zu 6))) h (by kernel_rfl)
theorem b9z{G:PV->Prop}(s:List UInt8)(u:Bool)(h:if (OpR.s (OpR.mk [(43:UInt8)] false [(97:UInt8),(100:UInt8),(100:UInt8)] 4)==s)=true then if (OpR.u (OpR.mk [(43:UInt8)] false [(97:UInt8),(100:UInt8),(100:UInt8)] 4)==u)=true then G ((.tup [(.str (OpR.n (OpR.mk [(43:UInt8)] false [(97:UInt8),(100:UInt8),(100:UInt8)] 4))),(.int .i64 4),(.bool true)]))else(At ZG 0 (Za Zw G) Zx 0 28 [(0,(.pv (.str s))),(1,(.pv (.bool u))),(9,(.pv ZR)),(10,(.pv (.int .i64 9)))] [])else(At ZG 0 (Za Zw G) Zx 0 28 [(0,(.pv (.str s))),(1,(.pv (.bool u))),(9,(.pv ZR)),(10,(.pv (.int .i64 9)))] [])):At ZG 0 (Za Zw G) Zx 0 28 [(0,.pv (.str s)),(1,.pv (.bool u)),(9,.pv ZR),(10,.pv (.int .i64 8))] []:=At.tp (Zl 4 (.ask (Zl 5 (.ask (.nil) (.lit (.nil)))) (Zu 6))) h (by kernel_rfl)
theorem c4o{G:PV->Prop}(s:List UInt8)(u:Bool)(h:if (OpR.s (OpR.mk [(45:UInt8)] false [(115:UInt8),(117:UInt8),(98:UInt8)] 4)==s)=true then if (OpR.u (OpR.mk [(45:UInt8)] false [(115:UInt8),(117:UInt8),(98:UInt8)] 4)==u)=true then G ((.tup [(.str (OpR.n (OpR.mk [(45:UInt8)] false [(115:UInt8),(117:UInt8),(98:UInt8)] 4))),(.int .i64 4),(.bool true)]))else(At ZG 0 (Za Zw G) Zx 0 28 [(0,(.pv (.str s))),(1,(.pv (.bool u))),(9,(.pv ZR)),(10,(.pv (.int .i64 10)))] [])else(At ZG 0 (Za Zw G) Zx 0 28 [(0,(.pv (.str s))),(1,(.pv (.bool u))),(9,(.pv ZR)),(10,(.pv (.int .i64 10)))] [])):At ZG 0 (Za Zw G) Zx 0 28 [(0,.pv (.str s)),(1,.pv (.bool u)),(9,.pv ZR),(10,.pv (.int .i64 9))] []:=At.tp (Zl 4 (.ask (Zl 5 (.ask (.nil) (.lit (.nil)))) (Zu 6))) h (by kernel_rfl)
theorem c3d{G:PV->Prop}(s:List UInt8)(u:Bool)(h:if (OpR.s (OpR.mk [(42:UInt8)] false [(109:UInt8),(117:UInt8),(108:UInt8)] 5)==s)=true then if (OpR.u (OpR.mk [(42:UInt8)] false [(109:UInt8),(117:UInt8),(108:UInt8)] 5)==u)=true then G ((.tup [(.str (OpR.n (OpR.mk [(42:UInt8)] false [(109:UInt8),(117:UInt8),(108:UInt8)] 5))),(.int .i64 5),(.bool true)]))else(At ZG 0 (Za Zw G) Zx 0 28 [(0,(.pv (.str s))),(1,(.pv (.bool u))),(9,(.pv ZR)),(10,(.pv (.int .i64 11)))] [])else(At ZG 0 (Za Zw G) Zx 0 28 [(0,(.pv (.str s))),(1,(.pv (.bool u))),(9,(.pv ZR)),(10,(.pv (.int .i64 11)))] [])):At ZG 0 (Za Zw G) Zx 0 28 [(0,.pv (.str s)),(1,.pv (.bool u)),(9,.pv ZR),(10,.pv (.int .i64 10))] []:=At.tp (Zl 4 (.ask (Zl 5 (.ask (.nil) (.lit (.nil)))) (Zu 6))) h (by kernel_rfl)
theorem b3z{G:PV->Prop}(s:List UInt8)(u:Bool)(h:if (OpR.s (OpR.mk [(47:UInt8)] false [(100:UInt8),(105:UInt8),(118:UInt8)] 5)==s)=true then if (OpR.u (OpR.mk [(47:UInt8)] false [(100:UInt8),(105:UInt8),(118:UInt8)] 5)==u)=true then G ((.tup [(.str (OpR.n (OpR.mk [(47:UInt8)] false [(100:UInt8),(105:UInt8),(118:UInt8)] 5))),(.int .i64 5),(.bool true)]))else(At ZG 0 (Za Zw G) Zx 0 28 [(0,(.pv (.str s))),(1,(.pv (.bool u))),(9,(.pv ZR)),(10,(.pv (.int .i64 12)))] [])else(At ZG 0 (Za Zw G) Zx 0 28 [(0,(.pv (.str s))),(1,(.pv (.bool u))),(9,(.pv ZR)),(10,(.pv (.int .i64 12)))] [])):At ZG 0 (Za Zw G) Zx 0 28 [(0,.pv (.str s)),(1,.pv (.bool u)),(9,.pv ZR),(10,.pv (.int .i64 11))] []:=At.tp (Zl 4 (.ask (Zl 5 (.ask (.nil) (.lit (.nil)))) (Zu 6))) h (by kernel_rfl)
theorem b3j{G:PV->Prop}(s:List UInt8)(u:Bool)(h:if (OpR.s (OpR.mk [(37:UInt8)] false [(109:UInt8),(111:UInt8),(100:UInt8)] 5)==s)=true then if (OpR.u (OpR.mk [(37:UInt8)] false [(109:UInt8),(111:UInt8),(100:UInt8)] 5)==u)=true then G ((.tup [(.str (OpR.n (OpR.mk [(37:UInt8)] false [(109:UInt8),(111:UInt8),(100:UInt8)] 5))),(.int .i64 5),(.bool true)]))else(At ZG 0 (Za Zw G) Zx 0 28 [(0,(.pv (.str s))),(1,(.pv (.bool u))),(9,(.pv ZR)),(10,(.pv (.int .i64 13)))] [])else(At ZG 0 (Za Zw G) Zx 0 28 [(0,(.pv (.str s))),(1,(.pv (.bool u))),(9,(.pv ZR)),(10,(.pv (.int .i64 13)))] [])):At ZG 0 (Za Zw G) Zx 0 28 [(0,.pv (.str s)),(1,.pv (.bool u)),(9,.pv ZR),(10,.pv (.int .i64 12))] []:=At.tp (Zl 4 (.ask (Zl 5 (.ask (.nil) (.lit (.nil)))) (Zu 6))) h (by kernel_rfl)
theorem c4s{G:PV->Prop}(s:List UInt8)(u:Bool)(h:if (OpR.s (OpR.mk [(45:UInt8)] true [(110:UInt8),(101:UInt8),(103:UInt8)] 6)==s)=true then if (OpR.u (OpR.mk [(45:UInt8)] true [(110:UInt8),(101:UInt8),(103:UInt8)] 6)==u)=true then G ((.tup [(.str (OpR.n (OpR.mk [(45:UInt8)] true [(110:UInt8),(101:UInt8),(103:UInt8)] 6))),(.int .i64 6),(.bool true)]))else(At ZG 0 (Za Zw G) Zx 0 28 [(0,(.pv (.str s))),(1,(.pv (.bool u))),(9,(.pv ZR)),(10,(.pv (.int .i64 14)))] [])else(At ZG 0 (Za Zw G) Zx 0 28 [(0,(.pv (.str s))),(1,(.pv (.bool u))),(9,(.pv ZR)),(10,(.pv (.int .i64 14)))] [])):At ZG 0 (Za Zw G) Zx 0 28 [(0,.pv (.str s)),(1,.pv (.bool u)),(9,.pv ZR),(10,.pv (.int .i64 13))] []:=At.tp (Zl 4 (.ask (Zl 5 (.ask (.nil) (.lit (.nil)))) (Zu 6))) h (by kernel_rfl)
theorem b7c{G:PV->Prop}(s:List UInt8)(u:Bool)(h:if (OpR.s (OpR.mk [(33:UInt8)] true [(110:UInt8),(111:UInt8),(116:UInt8)] 6)==s)=true then if (OpR.u (OpR.mk [(33:UInt8)] true [(110:UInt8),(111:UInt8),(116:UInt8)] 6)==u)=true then G ((.tup [(.str (OpR.n (OpR.mk [(33:UInt8)] true [(110:UInt8),(111:UInt8),(116:UInt8)] 6))),(.int .i64 6),(.bool true)]))else(At ZG 0 (Za Zw G) Zx 0 28 [(0,(.pv (.str s))),(1,(.pv (.bool u))),(9,(.pv ZR)),(10,(.pv (.int .i64 15)))] [])else(At ZG 0 (Za Zw G) Zx 0 28 [(0,(.pv (.str s))),(1,(.pv (.bool u))),(9,(.pv ZR)),(10,(.pv (.int .i64 15)))] [])):At ZG 0 (Za Zw G) Zx 0 28 [(0,.pv (.str s)),(1,.pv (.bool u)),(9,.pv ZR),(10,.pv (.int .i64 14))] []:=At.tp (Zl 4 (.ask (Zl 5 (.ask (.nil) (.lit (.nil)))) (Zu 6))) h (by kernel_rfl)
theorem b7u{G:PV->Prop}(s:List UInt8)(u:Bool)(h:G ((.tup [(.str []),(.int .i64 0),(.bool false)]))):At ZG 0 (Za Zw G) Zx 0 28 [(0,.pv (.str s)),(1,.pv (.bool u)),(9,.pv ZR),(10,.pv (.int .i64 15))] []:=At.tp (Zu 2) h (by kernel_rfl)
noncomputable def a3a:IC:=Xu Proofs.Tryz.f22
def Lv:List IRes:=[(.tmp 2),(.tmp 3)]
abbrev d8b:Nat:=49
def a7j:ZO:=YQ [(49,.pure (preT (fun _:Str×Unit=>true)) (Zb (fun x:Str×Unit=>KS x.1)))]
theorem d8t{G:PV->Prop}(n:Nd)(ks:List Tm)(h : ∃ y0:R3 Str Bool Bool,AV.pv (Zb (fun(x:Str×Unit)=>KS x.1) [(.str (Str.s (Nd.name n)))])=AV.pv (enc y0)∧(if (R3.b y0)=true then if (!R3.c y0)=true then G ((.tup [(.str []),(.int .i64 0)]))else(if (Nd.kind n != 6)=true then G ((.tup [(.str []),(.int .i64 0)]))else(if ((↑(List.length (List.map enc ks)):Int) != 1)=true then G ((.tup [(.str []),(.int .i64 0)]))else(if (decide ((↑(List.length (List.map enc (Nd.sizes n))):Int)>0))=true then G ((.tup [(.str []),(.int .i64 0)]))else(if (Nd.num n != 0)=true then G ((.tup [(.str []),(.int .i64 0)]))else(if (decide ((↑(List.length (List.map enc (Nd.ranks n))):Int)>0))=true then G ((.tup [(.str []),(.int .i64 0)]))else(G ((.tup [(.str (Str.s (R3.a y0))),(.int .i64 1)]))))))))else(if (!R3.c y0)=true then G ((.tup [(.str []),(.int .i64 0)]))else(if (Nd.kind n != 6)=true then G ((.tup [(.str []),(.int .i64 0)]))else(if ((↑(List.length (List.map enc ks)):Int) != 2)=true then G ((.tup [(.str []),(.int .i64 0)]))else(if (decide ((↑(List.length (List.map enc (Nd.sizes n))):Int)>0))=true then G ((.tup [(.str []),(.int .i64 0)]))else(if (Nd.num n != 0)=true then G ((.tup [(.str []),(.int .i64 0)]))else(if (decide ((↑(List.length (List.map enc (Nd.ranks n))):Int)>0))=true then G ((.tup [(.str []),(.int .i64 0)]))else(G ((.tup [(.str (Str.s (R3.a y0))),(.int .i64 2)]))))))))))):Ze a7j 0 (Za Lv G) a3a [] (Z0 49 [.agg [enc n.kind,enc n.line,enc n.name,enc n.num,enc n.elem,enc n.dims,enc n.data,enc n.sizes,enc n.ranks,enc ks]]):=Ze.tp (.lit (.abs (R3 Str Bool Bool) (fun YY=>AV.pv (enc YY)) (.ask (.ask (Zu 24) (Zl 4 (.ask (Zu 20) (Zl 6 (.ask (Zu 14) (Zl 5 (.ask (Zu 9) (Zl 4 (.ask (Zu 5) (Zl 5 (.ask (.nil) (.nil)))))))))))) (.ask (Zu 24) (Zl 4 (.ask (Zu 20) (Zl 6 (.ask (Zu 14) (Zl 5 (.ask (Zu 9) (Zl 4 (.ask (Zu 5) (Zl 5 (.ask (.nil) (.nil))))))))))))))) h (by kernel_rfl)
noncomputable def LZ:IC:=Xu Proofs.Tryz.f24
def Aa:List IRes:=[(.tmp 2)]
abbrev d0v:Nat:=43
def NA:ZO:=YQ [(22,.pure (preT (fun x:Tm×Unit=>tW x.1)) (Zb (fun x:Tm×Unit=>Q7 x.1))),(50,.pure (preT (fun _:Str×Bool×Unit=>true)) (Zb (fun x:Str×Bool×Unit=>YJ x.1 x.2.1)))]
theorem d5f{G:PV->Prop}(n:Nd)(ks:List Tm)(h:(Go.Pl.preT (fun(x:Tm×Unit)=>tW x.1) [(.agg [(.int .i64 (Nd.kind n)),(.int .i64 (Nd.line n)),(.str (Str.s (Nd.name n))),(.int .i64 (Nd.num n)),(.str (Str.s (Nd.elem n))),(.sl 1 false (List.map enc (Nd.dims n))),(.sl 1 false (List.map enc (Nd.data n))),(.sl 2 false (List.map enc (Nd.sizes n))),(.sl 1 false (List.map enc (Nd.ranks n))),(.sl 10 false (List.map enc ks))])])=true∧(∃ y0:Str×Int,AV.pv (Zb (fun(x:Tm×Unit)=>Q7 x.1) [(.agg [(.int .i64 (Nd.kind n)),(.int .i64 (Nd.line n)),(.str (Str.s (Nd.name n))),(.int .i64 (Nd.num n)),(.str (Str.s (Nd.elem n))),(.sl 1 false (List.map enc (Nd.dims n))),(.sl 1 false (List.map enc (Nd.data n))),(.sl 2 false (List.map enc (Nd.sizes n))),(.sl 1 false (List.map enc (Nd.ranks n))),(.sl 10 false (List.map enc ks))])])=AV.pv (enc y0)∧(if (Nd.kind n==5)=true then G ((.int .i64 0))else(if (decide (y0.2>0))=true then ∃ y1:R3 Str Int Bool,AV.pv (Zb (fun(x:Str×Bool×Unit)=>YJ x.1 x.2.1) [(.str (Str.s y0.1)),(.bool (y0.2==1))])=AV.pv (enc y1)∧(G ((.int .i64 (R3.b y1))))else(if (Nd.kind n==2)=true then if (Str.s (Nd.name n)==[(105:UInt8),(110:UInt8),(116:UInt8)])=true then if (decide (Nd.num n<0))=true then G ((.int .i64 6))else(G ((.int .i64 7)))else(G ((.int .i64 7)))else(G ((.int .i64 7)))))))):Ze NA 0 (Za Aa G) LZ [] (Z0 43 [.agg [enc n.kind,enc n.line,enc n.name,enc n.num,enc n.elem,enc n.dims,enc n.data,enc n.sizes,enc n.ranks,enc ks]]):=Ze.tp (.req (.abs (Str×Int) (fun YY=>AV.pv (enc YY)) (.lit (.ask (.nil) (.lit (.ask (Zl 2 (.abs (R3 Str Int Bool) (fun YY=>AV.pv (enc YY)) (.nil))) (.lit (.ask (Zl 4 (.ask (Zl 4 (.ask (.nil) (.nil))) (Zu 4))) (Zu 8))))))))) h (by kernel_rfl)
noncomputable def TQ:IC:=Xu Proofs.Tryz.f28
def TM:List IRes:=[(.tmp 2)]
abbrev b9g:Nat:=5
def M4:ZO:=YQ [(55,.pure (preT (fun x:List Str×Str×Unit=>XQ x.1&&decide (x.2.1.s=[44,32]))) (Zb (fun x:List Str×Str×Unit=>Yh x.1)))]
theorem c5n{G:PV->Prop}(l:List Str)(h:(Go.Pl.preT (fun(x:List Str×Str×Unit)=>XQ x.1&&decide (Str.s x.2.1=[(44:UInt8),(32:UInt8)])) [(.sl 1 false (List.map enc l)),(.str [(44:UInt8),(32:UInt8)])])=true∧(∃ y0:Str,AV.pv (Zb (fun(x:List Str×Str×Unit)=>Yh x.1) [(.sl 1 false (List.map enc l)),(.str [(44:UInt8),(32:UInt8)])])=AV.pv (enc y0)∧(G ((.str (Str.s y0)))))):Ze M4 0 (Za TM G) TQ [] (Z0 5 [enc l]):=Ze.tp (.req (.abs (Str) (fun YY=>AV.pv (enc YY)) (.nil))) h (by kernel_rfl)
noncomputable def KU:IC:=Xu Proofs.Tryz.f53
def KA:List IRes:=[(.tmp 4)]
abbrev c5t:Nat:=27
def Gb:ZO:=YQ [(29,.pure (preT (fun x:Lin×Unit=>Ws x.1)) (Zb (fun x:Lin×Unit=>(⟨ZY x.1⟩:Str)))),(28,.pure (preT (fun x:List Str×Unit=>XQ x.1)) (Zb (fun x:List Str×Unit=>Yh x.1)))]
theorem d5s{G:PV->Prop}(l:List Lin)(h:(decide (0<=(↑(List.length (List.map enc l)):Int))&&(↑(List.length (List.map enc l)):Int)==(↑(List.length (List.map enc l)):Int)&&decide ((↑(List.length (List.map enc l)):Int)*(↑16:Int)<=1099511627776)&&decide ((↑(List.length (List.map enc l)):Int)<=1099511627776))=true∧(At Gb 0 (Za KA G) KU 0 27 [(1,(.pv (.fn 29))),(5,(.row 0 (Int.toNat (↑(List.length (List.map enc l)):Int)) 0 (Int.toNat (↑(List.length (List.map enc l)):Int)))),(11,(.pv (.sl 2 false (List.map enc l)))),(12,(.pv (.int .i64 (↑(List.length (List.map enc l)):Int)))),(13,(.pv (.int .i64 0)))] [(.obj (.row false 9 1 (List.replicate (Int.toNat (↑(List.length (List.map enc l)):Int)) (PV.str []))))])):Ze Gb 0 (Za KA G) KU [] (Z0 27 [enc l,.fn 29]):=Ze.tp (.req (.nil)) h (by kernel_rfl)
theorem a6v{G:PV->Prop}(l:List Lin)(i:Int)(o:List Str)(h:if (decide (i<(↑(List.length l):Int)))=true then(decide (0<=i)&&decide (Int.toNat i<List.length (List.map enc l))&&Enc.sz Lin==2)=true∧(∃ y0:Lin,AV.pv (PV.rptr (PV.cells (List.getD (List.map enc l) (Int.toNat i) default)))=AV.pv (PV.rptr (PV.cells ((enc) y0)))∧((Go.Pl.preT (fun(x:Lin×Unit)=>Ws x.1) [(.agg [(.int .i64 (PV.asInt (List.getD (PV.cells (enc y0)) 0 default))),(.sl 2 false (PV.asXs (List.getD (PV.cells (enc y0)) (0+1) default)))])])=true∧(∃ y1:Str,AV.pv (Zb (fun(x:Lin×Unit)=>Str.mk (ZY x.1)) [(.agg [(.int .i64 (PV.asInt (List.getD (PV.cells (enc y0)) 0 default))),(.sl 2 false (PV.asXs (List.getD (PV.cells (enc y0)) (0+1) default)))])])=AV.pv (enc y1)∧((decide (0<=i)&&decide (0+Int.toNat i<List.length l)&&List.length (List.map enc o)==List.length l)=true∧((List.length (List.map enc o)==List.length l&&decide (0+Int.toNat i<List.length (List.map enc o))&&List.length (PV.cells (enc y1))==1&&decide (0+1<=List.length (PV.cells (List.getD (List.map enc o) (0+Int.toNat i) default)))&&PV.cellsOk (enc y1))=true∧(At Gb 0 (Za KA G) KU 0 27 [(1,(.pv (.fn 29))),(5,(.row 0 (List.length l) 0 (List.length l))),(11,(.pv (.sl 2 false (List.map enc l)))),(12,(.pv (.int .i64 (↑(List.length l):Int)))),(13,(.pv (.int .i64 (IntKind.wrap IntKind.i64 (i+1)))))] [(.obj (.row false 9 1 (List.set (List.map enc o) (0+Int.toNat i) (PV.withCells (List.getD (List.map enc o) (0+Int.toNat i) default) (splice (PV.cells (List.getD (List.map enc o) (0+Int.toNat i) default)) 0 (PV.cells (enc y1)))))))]))))))else((List.length (List.map enc o)==List.length l)=true∧((Go.Pl.preT (fun(x:List Str×Unit)=>XQ x.1) [(.sl 1 false (List.drop 0 (List.take (List.length l) (List.map enc o))))])=true∧(∃ y2:Str,AV.pv (Zb (fun(x:List Str×Unit)=>Yh x.1) [(.sl 1 false (List.drop 0 (List.take (List.length l) (List.map enc o))))])=AV.pv (enc y2)∧(G ((.str (Str.s y2)))))))):At Gb 0 (Za KA G) KU 0 27 [(1,.pv (.fn 29)),(5,.row 0 l.length 0 l.length),(11,.pv (enc l)),(12,.pv (.int .i64 l.length)),(13,.pv (.int .i64 i))] [.obj (.row false 9 1 (o.map enc))]:=At.tp (.lit (.ask (.req (.abs (Lin) (fun YY=>AV.pv (PV.rptr (PV.cells ((enc) YY)))) (.lit (.req (.abs (Str) (fun YY=>AV.pv (enc YY)) (.req (.keep (.req (.lit (.nil)))))))))) (.req (.req (.abs (Str) (fun YY=>AV.pv (enc YY)) (.nil)))))) h (by kernel_rfl)
noncomputable def KT:IC:=Xu Proofs.Tryz.f54
def Q6:List IRes:=[(.tmp 4)]
abbrev c6u:Nat:=27
def Ha:ZO:=YQ [(51,.pure (preT (fun x:Int×Unit=>decide (-9223372036854775808<=x.1)&&decide (x.1<=9223372036854775807))) (Zb (fun x:Int×Unit=>Zn x.1))),(28,.pure (preT (fun x:List Str×Unit=>XQ x.1)) (Zb (fun x:List Str×Unit=>Yh x.1)))]
theorem d5n{G:PV->Prop}(l:List Int)(h:(decide (0<=(↑(List.length (List.map enc l)):Int))&&(↑(List.length (List.map enc l)):Int)==(↑(List.length (List.map enc l)):Int)&&decide ((↑(List.length (List.map enc l)):Int)*(↑16:Int)<=1099511627776)&&decide ((↑(List.length (List.map enc l)):Int)<=1099511627776))=true∧(At Ha 0 (Za Q6 G) KT 0 27 [(1,(.pv (.fn 51))),(5,(.row 0 (Int.toNat (↑(List.length (List.map enc l)):Int)) 0 (Int.toNat (↑(List.length (List.map enc l)):Int)))),(11,(.pv (.sl 1 false (List.map enc l)))),(12,(.pv (.int .i64 (↑(List.length (List.map enc l)):Int)))),(13,(.pv (.int .i64 0)))] [(.obj (.row false 9 1 (List.replicate (Int.toNat (↑(List.length (List.map enc l)):Int)) (PV.str []))))])):Ze Ha 0 (Za Q6 G) KT [] (Z0 27 [enc l,.fn 51]):=Ze.tp (.req (.nil)) h (by kernel_rfl)
theorem a6l{G:PV->Prop}(l:List Int)(i:Int)(o:List Str)(h:if (decide (i<(↑(List.length l):Int)))=true then(decide (0<=i)&&decide (Int.toNat i<List.length (List.map enc l))&&Enc.sz Int==1)=true∧(∃ y0:Int,AV.pv (PV.rptr (PV.cells (List.getD (List.map enc l) (Int.toNat i) default)))=AV.pv (PV.rptr (PV.cells ((enc) y0)))∧((Go.Pl.preT (fun(x:Int×Unit)=>decide ((-9223372036854775808:Int)<=x.1)&&decide (x.1<=9223372036854775807)) [(.int .i64 (PV.asInt (List.getD (PV.cells (enc y0)) 0 default)))])=true∧(∃ y1:Str,AV.pv (Zb (fun(x:Int×Unit)=>Zn x.1) [(.int .i64 (PV.asInt (List.getD (PV.cells (enc y0)) 0 default)))])=AV.pv (enc y1)∧((decide (0<=i)&&decide (0+Int.toNat i<List.length l)&&List.length (List.map enc o)==List.length l)=true∧((List.length (List.map enc o)==List.length l&&decide (0+Int.toNat i<List.length (List.map enc o))&&List.length (PV.cells (enc y1))==1&&decide (0+1<=List.length (PV.cells (List.getD (List.map enc o) (0+Int.toNat i) default)))&&PV.cellsOk (enc y1))=true∧(At Ha 0 (Za Q6 G) KT 0 27 [(1,(.pv (.fn 51))),(5,(.row 0 (List.length l) 0 (List.length l))),(11,(.pv (.sl 1 false (List.map enc l)))),(12,(.pv (.int .i64 (↑(List.length l):Int)))),(13,(.pv (.int .i64 (IntKind.wrap IntKind.i64 (i+1)))))] [(.obj (.row false 9 1 (List.set (List.map enc o) (0+Int.toNat i) (PV.withCells (List.getD (List.map enc o) (0+Int.toNat i) default) (splice (PV.cells (List.getD (List.map enc o) (0+Int.toNat i) default)) 0 (PV.cells (enc y1)))))))]))))))else((List.length (List.map enc o)==List.length l)=true∧((Go.Pl.preT (fun(x:List Str×Unit)=>XQ x.1) [(.sl 1 false (List.drop 0 (List.take (List.length l) (List.map enc o))))])=true∧(∃ y2:Str,AV.pv (Zb (fun(x:List Str×Unit)=>Yh x.1) [(.sl 1 false (List.drop 0 (List.take (List.length l) (List.map enc o))))])=AV.pv (enc y2)∧(G ((.str (Str.s y2)))))))):At Ha 0 (Za Q6 G) KT 0 27 [(1,.pv (.fn 51)),(5,.row 0 l.length 0 l.length),(11,.pv (enc l)),(12,.pv (.int .i64 l.length)),(13,.pv (.int .i64 i))] [.obj (.row false 9 1 (o.map enc))]:=At.tp (.lit (.ask (.req (.abs (Int) (fun YY=>AV.pv (PV.rptr (PV.cells ((enc) YY)))) (.lit (.req (.abs (Str) (fun YY=>AV.pv (enc YY)) (.req (.keep (.req (.lit (.nil)))))))))) (.req (.req (.abs (Str) (fun YY=>AV.pv (enc YY)) (.nil)))))) h (by kernel_rfl)
noncomputable def NC:IC:=Xu Proofs.Tryz.f25
def AO:List IRes:=[(.tmp 2)]
abbrev c9u:Nat:=13
def L6:ZO:=YQ [(51,.pure (preT (fun x:Int×Unit=>decide (-9223372036854775808<=x.1)&&decide (x.1<=9223372036854775807))) (Zb (fun x:Int×Unit=>Zn x.1))),(52,.pure (preT (fun _:Bool×Unit=>true)) (Zb (fun x:Bool×Unit=>d1a x.1)))]
theorem d5j{G:PV->Prop}(n:Nd)(ks:List Tm)(h:if (Str.s (Nd.name n)==[(105:UInt8),(110:UInt8),(116:UInt8)])=true then(Go.Pl.preT (fun(x:Int×Unit)=>decide ((-9223372036854775808:Int)<=x.1)&&decide (x.1<=9223372036854775807)) [(.int .i64 (Nd.num n))])=true∧(∃ y0:Str,AV.pv (Zb (fun(x:Int×Unit)=>Zn x.1) [(.int .i64 (Nd.num n))])=AV.pv (enc y0)∧(G ((.str (Str.s y0)))))else(∃ y1:Str,AV.pv (Zb (fun(x:Bool×Unit)=>d1a x.1) [(.bool (Nd.num n==1))])=AV.pv (enc y1)∧(G ((.str (Str.s y1)))))):Ze L6 0 (Za AO G) NC [] (Z0 13 [.agg [enc n.kind,enc n.line,enc n.name,enc n.num,enc n.elem,enc n.dims,enc n.data,enc n.sizes,enc n.ranks,enc ks]]):=Ze.tp (.lit (.ask (.req (.abs (Str) (fun YY=>AV.pv (enc YY)) (.nil))) (Zl 2 (.abs (Str) (fun YY=>AV.pv (enc YY)) (.nil))))) h (by kernel_rfl)
noncomputable def Sy:IC:=Xu Proofs.Tryz.f7
def Dt:List IRes:=[(.tmp 2),(.tmp 3)]
abbrev b5f:Nat:=12
def AB:ZO:=YQ [(14,.pure (preT (fun x:Tm×Unit=>tW x.1)) (Zb (fun x:Tm×Unit=>Y3 x.1))),(15,.pure (preT (fun _:Str×Unit=>true)) (Zb (fun x:Str×Unit=>Tk x.1))),(16,.pure (preT (fun x:Tm×Unit=>tW x.1&&ZU x.1)) (Zb (fun x:Tm×Unit=>Zq x.1)))]
theorem d1k{G:PV->Prop}(n:Nd)(ks:List Tm)(h:(Go.Pl.preT (fun(x:Tm×Unit)=>tW x.1) [(.agg [(.int .i64 (Nd.kind n)),(.int .i64 (Nd.line n)),(.str (Str.s (Nd.name n))),(.int .i64 (Nd.num n)),(.str (Str.s (Nd.elem n))),(.sl 1 false (List.map enc (Nd.dims n))),(.sl 1 false (List.map enc (Nd.data n))),(.sl 2 false (List.map enc (Nd.sizes n))),(.sl 1 false (List.map enc (Nd.ranks n))),(.sl 10 false (List.map enc ks))])])=true∧(∃ y0:Bool,AV.pv (Zb (fun(x:Tm×Unit)=>Y3 x.1) [(.agg [(.int .i64 (Nd.kind n)),(.int .i64 (Nd.line n)),(.str (Str.s (Nd.name n))),(.int .i64 (Nd.num n)),(.str (Str.s (Nd.elem n))),(.sl 1 false (List.map enc (Nd.dims n))),(.sl 1 false (List.map enc (Nd.data n))),(.sl 2 false (List.map enc (Nd.sizes n))),(.sl 1 false (List.map enc (Nd.ranks n))),(.sl 10 false (List.map enc ks))])])=AV.pv (enc y0)∧(if (!y0)=true then G ((.tup [(.str []),(.int .i64 1)]))else((Go.Pl.preT (fun(x:Tm×Unit)=>tW x.1&&ZU x.1) [(.agg [(.int .i64 (Nd.kind n)),(.int .i64 (Nd.line n)),(.str (Str.s (Nd.name n))),(.int .i64 (Nd.num n)),(.str (Str.s (Nd.elem n))),(.sl 1 false (List.map enc (Nd.dims n))),(.sl 1 false (List.map enc (Nd.data n))),(.sl 2 false (List.map enc (Nd.sizes n))),(.sl 1 false (List.map enc (Nd.ranks n))),(.sl 10 false (List.map enc ks))])])=true∧(∃ y1:Str,AV.pv (Zb (fun(x:Tm×Unit)=>Zq x.1) [(.agg [(.int .i64 (Nd.kind n)),(.int .i64 (Nd.line n)),(.str (Str.s (Nd.name n))),(.int .i64 (Nd.num n)),(.str (Str.s (Nd.elem n))),(.sl 1 false (List.map enc (Nd.dims n))),(.sl 1 false (List.map enc (Nd.data n))),(.sl 2 false (List.map enc (Nd.sizes n))),(.sl 1 false (List.map enc (Nd.ranks n))),(.sl 10 false (List.map enc ks))])])=AV.pv (enc y1)∧(∃ y2:Str×Int,AV.pv (Zb (fun(x:Str×Unit)=>Tk x.1) [(.str (Str.s y1))])=AV.pv (enc y2)∧(G ((.tup [(.str (Str.s y2.1)),(.int .i64 y2.2)]))))))))):Ze AB 0 (Za Dt G) Sy [] (Z0 12 [.agg [enc n.kind,enc n.line,enc n.name,enc n.num,enc n.elem,enc n.dims,enc n.data,enc n.sizes,enc n.ranks,enc ks]]):=Ze.tp (.req (.abs (Bool) (fun YY=>AV.pv (enc YY)) (.ask (.nil) (.req (.abs (Str) (fun YY=>AV.pv (enc YY)) (.lit (.abs (Str×Int) (fun YY=>AV.pv (enc YY)) (.nil)))))))) h (by kernel_rfl)
end Go.Pl
namespace Go.Pl
open Go.RowKit
open Enc (enc dec is)
open EncL (encL decL isL)
set_option maxRecDepth 100000
noncomputable def Bf:IC:=Dm
def CL:List IRes:=[(.tmp 2)]
abbrev b1k:Nat:=9
def Rp:ZO:=YQ []
theorem c0r{G:PV->Prop}(c:UInt8)(h:if (decide ((↑(UInt8.toNat c):Int) ≥ 97))=true then G ((.bool (decide ((↑(UInt8.toNat c):Int)<=122))))else(G ((.bool false)))):Ze Rp 0 (Za CL G) Bf [] (Z0 9 [enc c]):=Ze.tp (.lit (.ask (Zu 3) (Zu 2))) h (by kernel_rfl)
noncomputable def Cf:IC:=D5
def Ce:List IRes:=[(.tmp 2)]
abbrev a8u:Nat:=9
def Rv:ZO:=YQ []
theorem b9a{G:PV->Prop}(c:UInt8)(h:if (decide ((↑(UInt8.toNat c):Int) ≥ 48))=true then G ((.bool (decide ((↑(UInt8.toNat c):Int)<=57))))else(G ((.bool false)))):Ze Rv 0 (Za Ce G) Cf [] (Z0 9 [enc c]):=Ze.tp (.lit (.ask (Zu 3) (Zu 2))) h (by kernel_rfl)
noncomputable def UN:IC:=Xu Proofs.Tryz.f82
def UR:List IRes:=[(.tmp 4)]
abbrev c9y:Nat:=30
def KQ:ZO:=YQ [(107,.pure (preT (fun _:UInt8×Unit=>true)) (Zb (fun x:UInt8×Unit=>digB x.1))),(81,.pure (preT (fun _:UInt8×Unit=>true)) (Zb (fun x:UInt8×Unit=>lowB x.1)))]
theorem d6a{G:PV->Prop}(s:List UInt8)(b:Bool)(h:At KQ 0 (Za UR G) UN 0 30 [(0,(.pv (.str s))),(1,(.pv (.bool b))),(5,(.pv (.int .i64 0)))] []):Ze KQ 0 (Za UR G) UN [] (Z0 30 [.str s,.bool b]):=Ze.tp (.nil) h (by kernel_rfl)
theorem a7c{G:PV->Prop}(s:List UInt8)(b:Bool)(i:Int)(h:if (decide (i<(↑(List.length s):Int)))=true then(decide (0<=i)&&decide (Int.toNat i<List.length s))=true∧((Go.Pl.preT (fun(x:UInt8×Unit)=>true) [(.int IntKind.u8 (↑(UInt8.toNat (List.getD s (Int.toNat i) (0:UInt8))):Int))])=true∧(∃ y0:Bool,AV.pv (Zb (fun(x:UInt8×Unit)=>digB x.1) [(.int IntKind.u8 (↑(UInt8.toNat (List.getD s (Int.toNat i) (0:UInt8))):Int))])=AV.pv (enc y0)∧(if (y0)=true then At KQ 0 (Za UR G) UN 0 30 [(0,(.pv (.str s))),(1,(.pv (.bool b))),(5,(.pv (.int .i64 (IntKind.wrap IntKind.i64 (i+1)))))] []else(if (b)=true then(decide (0<=i)&&decide (Int.toNat i<List.length s))=true∧((Go.Pl.preT (fun(x:UInt8×Unit)=>true) [(.int IntKind.u8 (↑(UInt8.toNat (List.getD s (Int.toNat i) (0:UInt8))):Int))])=true∧(∃ y1:Bool,AV.pv (Zb (fun(x:UInt8×Unit)=>lowB x.1) [(.int IntKind.u8 (↑(UInt8.toNat (List.getD s (Int.toNat i) (0:UInt8))):Int))])=AV.pv (enc y1)∧(if (y1)=true then At KQ 0 (Za UR G) UN 0 30 [(0,(.pv (.str s))),(1,(.pv (.bool b))),(5,(.pv (.int .i64 (IntKind.wrap IntKind.i64 (i+1)))))] []else((true&&decide (0<=i)&&decide (0<=Int.toNat i)&&decide (Int.toNat i<=List.length s))=true∧(G ((.str (List.drop 0 (List.take (Int.toNat i) s)))))))))else((true&&decide (0<=i)&&decide (0<=Int.toNat i)&&decide (Int.toNat i<=List.length s))=true∧(G ((.str (List.drop 0 (List.take (Int.toNat i) s))))))))))else((true&&decide (0<=i)&&decide (0<=Int.toNat i)&&decide (Int.toNat i<=List.length s))=true∧(G ((.str (List.drop 0 (List.take (Int.toNat i) s))))))):At KQ 0 (Za UR G) UN 0 30 [(0,.pv (.str s)),(1,.pv (.bool b)),(5,.pv (.int .i64 i))] []:=At.tp (.lit (.ask (Zl 2 (.req (.lit (.req (.abs (Bool) (fun YY=>AV.pv (enc YY)) (.lit (.ask (Zu 7) (.lit (.ask (Zl 2 (.req (.lit (.req (.abs (Bool) (fun YY=>AV.pv (enc YY)) (Zl 5 (.ask (.lit (.nil)) (.req (.nil))))))))) (Zl 9 (.req (.nil)))))))))))) (Zl 7 (.req (.nil))))) h (by kernel_rfl)
noncomputable def AX:IC:=Xu Proofs.Tryz.f83
def La:List IRes:=[(.tmp 2)]
abbrev c7q:Nat:=19
def a3g:ZO:=YQ []
theorem d4c{G:PV->Prop}(s:List UInt8)(h:if (s==[(98:UInt8),(111:UInt8),(111:UInt8),(108:UInt8)])=true then G ((.bool true))else(if (s==[(100:UInt8),(101:UInt8),(102:UInt8)])=true then G ((.bool true))else(if (s==[(101:UInt8),(120:UInt8),(112:UInt8),(111:UInt8),(114:UInt8),(116:UInt8)])=true then G ((.bool true))else(if (s==[(102:UInt8),(97:UInt8),(108:UInt8),(115:UInt8),(101:UInt8)])=true then G ((.bool true))else(if (s==[(102:UInt8),(111:UInt8),(108:UInt8),(100:UInt8)])=true then G ((.bool true))else(if (s==[(105:UInt8),(109:UInt8),(112:UInt8),(111:UInt8),(114:UInt8),(116:UInt8)])=true then G ((.bool true))else(if (s==[(105:UInt8),(110:UInt8)])=true then G ((.bool true))else(if (s==[(105:UInt8),(110:UInt8),(116:UInt8)])=true then G ((.bool true))else(if (s==[(108:UInt8),(101:UInt8),(116:UInt8)])=true then G ((.bool true))else(if (s==[(109:UInt8),(111:UInt8),(100:UInt8),(117:UInt8),(108:UInt8),(101:UInt8)])=true then G ((.bool true))else(if (s==[(115:UInt8),(99:UInt8),(97:UInt8),(110:UInt8)])=true then G ((.bool true))else(if (s==[(115:UInt8),(105:UInt8),(122:UInt8),(101:UInt8)])=true then G ((.bool true))else(if (s==[(116:UInt8),(114:UInt8),(117:UInt8),(101:UInt8)])=true then G ((.bool true))else(if (s==[(119:UInt8),(104:UInt8),(101:UInt8),(114:UInt8),(101:UInt8)])=true then G ((.bool true))else(G ((.bool false))))))))))))))))):Ze a3g 0 (Za La G) AX [] (Z0 19 [.str s]):=Ze.tp (.lit (.ask (.lit (.nil)) (.lit (.ask (.lit (.nil)) (.lit (.ask (.lit (.nil)) (.lit (.ask (.lit (.nil)) (.lit (.ask (.lit (.nil)) (.lit (.ask (.lit (.nil)) (.lit (.ask (.lit (.nil)) (.lit (.ask (.lit (.nil)) (.lit (.ask (.lit (.nil)) (.lit (.ask (.lit (.nil)) (.lit (.ask (.lit (.nil)) (.lit (.ask (.lit (.nil)) (.lit (.ask (.lit (.nil)) (.lit (.ask (.nil) (.nil))))))))))))))))))))))))))))) h (by kernel_rfl)
noncomputable def TC:IC:=Xu Proofs.Tryz.f46
def Sr:List IRes:=[(.tmp 2)]
abbrev c0s:Nat:=26
def N9:ZO:=YQ [(81,.pure (preT (fun _:UInt8×Unit=>true)) (Zb (fun x:UInt8×Unit=>lowB x.1))),(82,.pure (preT (fun x:Str×Bool×Unit=>decide (x.1.s.length<=1048576))) (Zb (fun x:Str×Bool×Unit=>SV x.1 x.2.1))),(83,.pure (preT (fun _:Str×Unit=>true)) (Zb (fun x:Str×Unit=>Qk.contains x.1.s)))]
theorem c6i{G:PV->Prop}(s:List UInt8)(h:if (!s==[])=true then if (decide ((↑(List.length s):Int)<=30))=true then(decide (0<=0)&&decide (Int.toNat 0<List.length s))=true∧((Go.Pl.preT (fun(x:UInt8×Unit)=>true) [(.int IntKind.u8 (↑(UInt8.toNat (List.getD s (Int.toNat 0) (0:UInt8))):Int))])=true∧(∃ y0:Bool,AV.pv (Zb (fun(x:UInt8×Unit)=>lowB x.1) [(.int IntKind.u8 (↑(UInt8.toNat (List.getD s (Int.toNat 0) (0:UInt8))):Int))])=AV.pv (enc y0)∧(if (y0)=true then(Go.Pl.preT (fun(x:Str×Bool×Unit)=>decide (List.length (Str.s x.1)<=1048576)) [(.str s),(.bool true)])=true∧(∃ y1:Str,AV.pv (Zb (fun(x:Str×Bool×Unit)=>SV x.1 x.2.1) [(.str s),(.bool true)])=AV.pv (enc y1)∧(if (Str.s y1==s)=true then ∃ y2:Bool,AV.pv (Zb (fun(x:Str×Unit)=>List.contains Qk (Str.s x.1)) [(.str s)])=AV.pv (enc y2)∧(G ((.bool !y2)))else(G ((.bool false)))))else(G ((.bool false))))))else(G ((.bool false)))else(G ((.bool false)))):Ze N9 0 (Za Sr G) TC [] (Z0 26 [.str s]):=Ze.tp (.lit (.ask (Zl 4 (.ask (.lit (.req (.lit (.req (.abs (Bool) (fun YY=>AV.pv (enc YY)) (.lit (.ask (.lit (.req (.abs (Str) (fun YY=>AV.pv (enc YY)) (Zl 4 (.ask (Zl 2 (.abs (Bool) (fun YY=>AV.pv (enc YY)) (Zu 2))) (Zu 3)))))) (Zu 8)))))))) (Zu 12))) (Zu 16))) h (by kernel_rfl)
noncomputable def Tv:IC:=Xu Proofs.Tryz.f106
def GD:List IRes:=[(.tmp 2)]
abbrev b5u:Nat:=21
def BZ:ZO:=YQ [(131,.pure (preT (fun x:Str×Str×Unit=>decide (x.1.s.length<=1048576)&&decide (x.2.1.s=[46]))) (Zb (fun x:Str×Str×Unit=>UT x.1))),(46,.pure (preT (fun x:Str×Unit=>decide (x.1.s.length<=1048576))) (Zb (fun x:Str×Unit=>ZN x.1.s)))]
theorem c6h{G:PV->Prop}(s:List UInt8)(h:(Go.Pl.preT (fun(x:Str×Str×Unit)=>decide (List.length (Str.s x.1)<=1048576)&&decide (Str.s x.2.1=[(46:UInt8)])) [(.str s),(.str [(46:UInt8)])])=true∧(∃ y0:R3 Str Str Bool,AV.pv (Zb (fun(x:Str×Str×Unit)=>UT x.1) [(.str s),(.str [(46:UInt8)])])=AV.pv (enc y0)∧(if (R3.c y0)=true then(Go.Pl.preT (fun(x:Str×Unit)=>decide (List.length (Str.s x.1)<=1048576)) [(.str (Str.s (R3.a y0)))])=true∧(∃ y1:Bool,AV.pv (Zb (fun(x:Str×Unit)=>ZN (Str.s x.1)) [(.str (Str.s (R3.a y0)))])=AV.pv (enc y1)∧(if (y1)=true then(Go.Pl.preT (fun(x:Str×Unit)=>decide (List.length (Str.s x.1)<=1048576)) [(.str (Str.s (R3.b y0)))])=true∧(∃ y2:Bool,AV.pv (Zb (fun(x:Str×Unit)=>ZN (Str.s x.1)) [(.str (Str.s (R3.b y0)))])=AV.pv (enc y2)∧(G ((.bool y2))))else(G ((.bool false)))))else(G ((.bool false)))))):Ze BZ 0 (Za GD G) Tv [] (Z0 21 [.str s]):=Ze.tp (.req (.abs (R3 Str Str Bool) (fun YY=>AV.pv (enc YY)) (.ask (.lit (.req (.abs (Bool) (fun YY=>AV.pv (enc YY)) (.lit (.ask (.lit (.req (.abs (Bool) (fun YY=>AV.pv (enc YY)) (.lit (.nil))))) (Zu 2)))))) (Zu 5)))) h (by kernel_rfl)
noncomputable def MK:IC:=Xu Proofs.Tryz.f79
def Nk:List IRes:=[(.tmp 2)]
abbrev d0f:Nat:=9
def a4t:ZO:=YQ [(46,.pure (preT (fun x:Str×Unit=>decide (x.1.s.length<=1048576))) (Zb (fun x:Str×Unit=>ZN x.1.s))),(106,.pure (preT (fun x:Str×Unit=>decide (x.1.s.length<=1048576))) (Zb (fun x:Str×Unit=>fullI x.1.s)))]
theorem d6f{G:PV->Prop}(s:List UInt8)(h:(Go.Pl.preT (fun(x:Str×Unit)=>decide (List.length (Str.s x.1)<=1048576)) [(.str s)])=true∧(∃ y0:Bool,AV.pv (Zb (fun(x:Str×Unit)=>ZN (Str.s x.1)) [(.str s)])=AV.pv (enc y0)∧(if (y0)=true then G ((.bool true))else((Go.Pl.preT (fun(x:Str×Unit)=>decide (List.length (Str.s x.1)<=1048576)) [(.str s)])=true∧(∃ y1:Bool,AV.pv (Zb (fun(x:Str×Unit)=>fullI (Str.s x.1)) [(.str s)])=AV.pv (enc y1)∧(G ((.bool y1)))))))):Ze a4t 0 (Za Nk G) MK [] (Z0 9 [.str s]):=Ze.tp (.req (.abs (Bool) (fun YY=>AV.pv (enc YY)) (.ask (Zu 2) (.lit (.req (.abs (Bool) (fun YY=>AV.pv (enc YY)) (.lit (.nil)))))))) h (by kernel_rfl)
noncomputable def Li:IC:=Xu Proofs.Tryz.f77
def AZ:List IRes:=[(.tmp 2)]
abbrev d1i:Nat:=27
def LJ:ZO:=YQ []
theorem d5z{G:PV->Prop}(n:Nd)(ks:List Tm)(h:if (Str.s (Nd.name n)==[(98:UInt8),(111:UInt8),(111:UInt8),(108:UInt8)])=true then if (Nd.num n==0)=true then G ((.bool true))else(G ((.bool (Nd.num n==1))))else(if (Str.s (Nd.name n)==[(105:UInt8),(110:UInt8),(116:UInt8)])=true then if (decide (Nd.num n ≥ (-2147483648:Int)))=true then G ((.bool (decide (Nd.num n<2147483648))))else(G ((.bool false)))else(G ((.bool false))))):Ze LJ 0 (Za AZ G) Li [] (Z0 27 [.agg [enc n.kind,enc n.line,enc n.name,enc n.num,enc n.elem,enc n.dims,enc n.data,enc n.sizes,enc n.ranks,enc ks]]):=Ze.tp (.lit (.ask (.lit (.ask (Zu 3) (Zu 4))) (.lit (.ask (Zl 4 (.ask (Zu 4) (Zu 3))) (Zu 7))))) h (by kernel_rfl)
noncomputable def WU:IC:=Xu Proofs.Tryz.f56
def VW:List IRes:=[(.tmp 2)]
abbrev c0z:Nat:=54
def UJ:ZO:=YQ [(94,.pure (preT (fun _:Int×Unit=>true)) (Zb (fun x:Int×Unit=>Yp x.1))),(93,.pure (preT (fun x:Str×Unit=>decide (x.1.s.length<=281474976710656))) (Zb (fun x:Str×Unit=>Yq x.1)))]
theorem d1j{G:PV->Prop}(l:Lin)(h:At UJ 0 (Za VW G) WU 0 54 [(1,(.ptr 0 0)),(6,(.pv (.sl 2 false (List.map enc l.t)))),(7,(.pv (.int .i64 (↑(List.length (List.map enc l.t)):Int)))),(8,(.pv (.int .i64 0)))] [(.obj (.box [(.pv (.int .i64 l.k)),(.pv (.sl 2 false (List.map enc l.t)))]))]):Ze UJ 0 (Za VW G) WU [] (Z0 54 [enc l]):=Ze.tp (.nil) h (by kernel_rfl)
theorem OP{G:PV->Prop}(l:Lin)(i:Int)(h:if (decide (i<(↑(List.length l.t):Int)))=true then(decide (0<=i)&&decide (Int.toNat i<List.length (List.map enc l.t))&&Enc.sz Coef==2)=true∧(∃ y0:Coef,AV.pv (PV.rptr (PV.cells (List.getD (List.map enc l.t) (Int.toNat i) default)))=AV.pv (PV.rptr (PV.cells ((enc) y0)))∧((Go.Pl.preT (fun(x:Str×Unit)=>decide (List.length (Str.s x.1)<=281474976710656)) [(.str (PV.asStr (List.getD (PV.cells (enc y0)) 0 default)))])=true∧(∃ y1:Bool,AV.pv (Zb (fun(x:Str×Unit)=>Yq x.1) [(.str (PV.asStr (List.getD (PV.cells (enc y0)) 0 default)))])=AV.pv (enc y1)∧(if (!y1)=true then G ((.bool false))else(if (PV.asInt (List.getD (PV.cells (enc y0)) (0+1) default)==0)=true then G ((.bool false))else(∃ y2:Bool,AV.pv (Zb (fun(x:Int×Unit)=>Yp x.1) [(.int .i64 (PV.asInt (List.getD (PV.cells (enc y0)) (0+1) default)))])=AV.pv (enc y2)∧(if (!y2)=true then G ((.bool false))else(if (decide (i>0))=true then(decide (0<=IntKind.wrap IntKind.i64 (i - 1))&&decide (Int.toNat (IntKind.wrap IntKind.i64 (i - 1))<List.length (List.map enc l.t))&&Enc.sz Coef==2)=true∧(∃ y3:Coef,AV.pv (PV.rptr (PV.cells (List.getD (List.map enc l.t) (Int.toNat (IntKind.wrap IntKind.i64 (i - 1))) default)))=AV.pv (PV.rptr (PV.cells ((enc) y3)))∧(if (!Op.bytesLess (PV.asStr (List.getD (List.drop 0 (PV.cells (enc y3))) 0 default)) (PV.asStr (List.getD (PV.cells (enc y0)) 0 default)))=true then G ((.bool false))else(At UJ 0 (Za VW G) WU 0 54 [(1,(.ptr 0 0)),(6,(.pv (.sl 2 false (List.map enc l.t)))),(7,(.pv (.int .i64 (↑(List.length l.t):Int)))),(8,(.pv (.int .i64 (IntKind.wrap IntKind.i64 (i+1)))))] [(.obj (.box [(.pv (.int .i64 l.k)),(.pv (.sl 2 false (List.map enc l.t)))]))])))else(At UJ 0 (Za VW G) WU 0 54 [(1,(.ptr 0 0)),(6,(.pv (.sl 2 false (List.map enc l.t)))),(7,(.pv (.int .i64 (↑(List.length l.t):Int)))),(8,(.pv (.int .i64 (IntKind.wrap IntKind.i64 (i+1)))))] [(.obj (.box [(.pv (.int .i64 l.k)),(.pv (.sl 2 false (List.map enc l.t)))]))])))))))))else(∃ y4:Bool,AV.pv (Zb (fun(x:Int×Unit)=>Yp x.1) [(.int .i64 l.k)])=AV.pv (enc y4)∧(if (y4)=true then G ((.bool (decide ((↑(List.length (List.map enc l.t)):Int)<=12))))else(G ((.bool false)))))):At UJ 0 (Za VW G) WU 0 54 [(1,.ptr 0 0),(6,.pv (enc l.t)),(7,.pv (.int .i64 l.t.length)),(8,.pv (.int .i64 i))] [.obj (.box [.pv (.int .i64 l.k),.pv (enc l.t)])]:=At.tp (.lit (.ask (.req (.abs (Coef) (fun YY=>AV.pv (PV.rptr (PV.cells ((enc) YY)))) (.lit (.req (.abs (Bool) (fun YY=>AV.pv (enc YY)) (.ask (Zu 14) (Zl 4 (.ask (Zu 10) (Zl 3 (.abs (Bool) (fun YY=>AV.pv (enc YY)) (Zl 2 (.ask (Zu 5) (Zl 3 (.ask (Zl 5 (.req (.abs (Coef) (fun YY=>AV.pv (PV.rptr (PV.cells ((enc) YY)))) (Zl 10 (.ask (.nil) (.lit (.nil))))))) (Zu 14))))))))))))))) (.lit (.abs (Bool) (fun YY=>AV.pv (enc YY)) (.ask (Zu 5) (Zu 4)))))) h (by kernel_rfl)
noncomputable def Fb:IC:=Xu Proofs.Tryz.f103
def M7:List IRes:=[(.tmp 2)]
abbrev c9v:Nat:=6
def a3k:ZO:=YQ [(56,.pure (preT (fun x:Lin×Unit=>Qy x.1)) (Zb (fun x:Lin×Unit=>Zp x.1)))]
theorem d3n{G:PV->Prop}(l:Lin)(h:(Go.Pl.preT (fun(x:Lin×Unit)=>Qy x.1) [(.agg [(.int .i64 l.k),(.sl 2 false (List.map enc l.t))])])=true∧(∃ y0:Bool,AV.pv (Zb (fun(x:Lin×Unit)=>Zp x.1) [(.agg [(.int .i64 l.k),(.sl 2 false (List.map enc l.t))])])=AV.pv (enc y0)∧(G ((.bool !y0))))):Ze a3k 0 (Za M7 G) Fb [] (Z0 6 [.agg [enc l.k,enc l.t]]):=Ze.tp (.req (.abs (Bool) (fun YY=>AV.pv (enc YY)) (.nil))) h (by kernel_rfl)
noncomputable def He:IC:=Xu Proofs.Tryz.f129
def Gl:List IRes:=[(.tmp 4)]
abbrev d6v:Nat:=19
def Re:ZO:=YQ [(103,.pure (preT (fun x:Lin×Unit=>Qy x.1)) (Zb (fun x:Lin×Unit=> !(Zp x.1))))]
theorem e0x{G:PV->Prop}(l:List Lin)(h:At Re 0 (Za Gl G) He 0 19 [(0,(.pv (.sl 2 false (List.map enc l)))),(1,(.pv (.fn 103))),(7,(.pv (.int .i64 (↑(List.length (List.map enc l)):Int)))),(8,(.pv (.int .i64 0)))] []):Ze Re 0 (Za Gl G) He [] (Z0 19 [enc l,.fn 103]):=Ze.tp (.nil) h (by kernel_rfl)
theorem c5g{G:PV->Prop}(l:List Lin)(i:Int)(h:if (decide (i<(↑(List.length l):Int)))=true then(decide (0<=i)&&decide (Int.toNat i<List.length (List.map enc l))&&Enc.sz Lin==2)=true∧(∃ y0:Lin,AV.pv (PV.rptr (PV.cells (List.getD (List.map enc l) (Int.toNat i) default)))=AV.pv (PV.rptr (PV.cells ((enc) y0)))∧((Go.Pl.preT (fun(x:Lin×Unit)=>Qy x.1) [(.agg [(.int .i64 (PV.asInt (List.getD (PV.cells (enc y0)) 0 default))),(.sl 2 false (PV.asXs (List.getD (PV.cells (enc y0)) (0+1) default)))])])=true∧(∃ y1:Bool,AV.pv (Zb (fun(x:Lin×Unit)=> !Zp x.1) [(.agg [(.int .i64 (PV.asInt (List.getD (PV.cells (enc y0)) 0 default))),(.sl 2 false (PV.asXs (List.getD (PV.cells (enc y0)) (0+1) default)))])])=AV.pv (enc y1)∧(if (y1)=true then G ((.int .i64 i))else(At Re 0 (Za Gl G) He 0 19 [(0,(.pv (.sl 2 false (List.map enc l)))),(1,(.pv (.fn 103))),(7,(.pv (.int .i64 (↑(List.length l):Int)))),(8,(.pv (.int .i64 (IntKind.wrap IntKind.i64 (i+1)))))] [])))))else(G ((.int .i64 (-1))))):At Re 0 (Za Gl G) He 0 19 [(0,.pv (enc l)),(1,.pv (.fn 103)),(7,.pv (.int .i64 l.length)),(8,.pv (.int .i64 i))] []:=At.tp (.lit (.ask (.req (.abs (Lin) (fun YY=>AV.pv (PV.rptr (PV.cells ((enc) YY)))) (.lit (.req (.abs (Bool) (fun YY=>AV.pv (enc YY)) (.ask (.nil) (.lit (.nil)))))))) (.nil))) h (by kernel_rfl)
noncomputable def a4m:IC:=Xu Proofs.Tryz.f102
def a5b:List IRes:=[(.tmp 4)]
abbrev d3q:Nat:=9
def b5r:ZO:=YQ [(129,.pure (preT (fun x:List Lin×FnV 103×Unit=>decide (x.1.length<=1048576)&&x.1.all Qy)) (Zb (fun x:List Lin×FnV 103×Unit=>XO (fun l:Lin=> !(Zp l)) x.1)))]
theorem e0o{G:PV->Prop}(l:List Lin)(h:(Go.Pl.preT (fun(x:List Lin×FnV 103×Unit)=>decide (List.length x.1<=1048576)&&List.all x.1 Qy) [(.sl 2 false (List.map enc l)),(.fn 103)])=true∧(∃ y0:Int,AV.pv (Zb (fun(x:List Lin×FnV 103×Unit)=>XO (fun(l:Lin)=> !Zp l) x.1) [(.sl 2 false (List.map enc l)),(.fn 103)])=AV.pv (enc y0)∧(G ((.bool (decide (y0 ≥ 0))))))):Ze b5r 0 (Za a5b G) a4m [] (Z0 9 [enc l,.fn 103]):=Ze.tp (.req (.abs (Int) (fun YY=>AV.pv (enc YY)) (.lit (.nil)))) h (by kernel_rfl)
noncomputable def CV:IC:=Xu Proofs.Tryz.f76
def CY:List IRes:=[(.tmp 6)]
abbrev b1n:Nat:=25
def T9:ZO:=YQ [(102,.pure (preT (fun x:List Lin×FnV 103×Unit=>decide (x.1.length<=1048576)&&x.1.all Qy)) (Zb (fun x:List Lin×FnV 103×Unit=>x.1.any fun l:Lin=> !(Zp l))))]
theorem c4v{G:PV->Prop}(n:Nd)(ks:List Tm)(a b:Int)(h:if (decide ((↑(List.length (List.map enc (Nd.sizes n))):Int)<=a))=true then if (decide ((↑(List.length (List.map enc (Nd.ranks n))):Int)<=b))=true then(Go.Pl.preT (fun(x:List Lin×FnV 103×Unit)=>decide (List.length x.1<=1048576)&&List.all x.1 Qy) [(.sl 2 false (List.map enc (Nd.sizes n))),(.fn 103)])=true∧(∃ y0:Bool,AV.pv (Zb (fun(x:List Lin×FnV 103×Unit)=>List.any x.1 fun(l:Lin)=> !Zp l) [(.sl 2 false (List.map enc (Nd.sizes n))),(.fn 103)])=AV.pv (enc y0)∧(G ((.bool !y0))))else(G ((.bool false)))else(G ((.bool false)))):Ze T9 0 (Za CY G) CV [] (Z0 25 [.agg [enc n.kind,enc n.line,enc n.name,enc n.num,enc n.elem,enc n.dims,enc n.data,enc n.sizes,enc n.ranks,enc ks],.int .i64 a,.int .i64 b]):=Ze.tp (.lit (.ask (Zl 6 (.ask (Zl 2 (.req (.abs (Bool) (fun YY=>AV.pv (enc YY)) (Zu 2)))) (Zu 4))) (Zu 10))) h (by kernel_rfl)
noncomputable def Ml:IC:=Xu Proofs.Tryz.f105
def NG:List IRes:=[(.tmp 2)]
abbrev c5k:Nat:=9
def a3d:ZO:=YQ []
theorem d3t{G:PV->Prop}(n:Int)(h:if (decide (n<0))=true then G ((.bool true))else(G ((.bool (decide (n>6)))))):Ze a3d 0 (Za NG G) Ml [] (Z0 9 [.int .i64 n]):=Ze.tp (.lit (.ask (Zu 2) (Zu 3))) h (by kernel_rfl)
noncomputable def Je:IC:=Xu Proofs.Tryz.f130
def H8:List IRes:=[(.tmp 4)]
abbrev d8k:Nat:=19
def Rc:ZO:=YQ [(105,.pure (preT (fun _:Int×Unit=>true)) (Zb (fun x:Int×Unit=>YB x.1)))]
theorem d9i{G:PV->Prop}(l:List Int)(h:At Rc 0 (Za H8 G) Je 0 19 [(0,(.pv (.sl 1 false (List.map enc l)))),(1,(.pv (.fn 105))),(7,(.pv (.int .i64 (↑(List.length (List.map enc l)):Int)))),(8,(.pv (.int .i64 0)))] []):Ze Rc 0 (Za H8 G) Je [] (Z0 19 [enc l,.fn 105]):=Ze.tp (.nil) h (by kernel_rfl)
theorem c0g{G:PV->Prop}(l:List Int)(i:Int)(h:if (decide (i<(↑(List.length l):Int)))=true then(decide (0<=i)&&decide (Int.toNat i<List.length (List.map enc l))&&Enc.sz Int==1)=true∧(∃ y0:Int,AV.pv (PV.rptr (PV.cells (List.getD (List.map enc l) (Int.toNat i) default)))=AV.pv (PV.rptr (PV.cells ((enc) y0)))∧(∃ y1:Bool,AV.pv (Zb (fun(x:Int×Unit)=>YB x.1) [(.int .i64 (PV.asInt (List.getD (PV.cells (enc y0)) 0 default)))])=AV.pv (enc y1)∧(if (y1)=true then G ((.int .i64 i))else(At Rc 0 (Za H8 G) Je 0 19 [(0,(.pv (.sl 1 false (List.map enc l)))),(1,(.pv (.fn 105))),(7,(.pv (.int .i64 (↑(List.length l):Int)))),(8,(.pv (.int .i64 (IntKind.wrap IntKind.i64 (i+1)))))] []))))else(G ((.int .i64 (-1))))):At Rc 0 (Za H8 G) Je 0 19 [(0,.pv (enc l)),(1,.pv (.fn 105)),(7,.pv (.int .i64 l.length)),(8,.pv (.int .i64 i))] []:=At.tp (.lit (.ask (.req (.abs (Int) (fun YY=>AV.pv (PV.rptr (PV.cells ((enc) YY)))) (Zl 2 (.abs (Bool) (fun YY=>AV.pv (enc YY)) (.ask (.nil) (.lit (.nil))))))) (.nil))) h (by kernel_rfl)
noncomputable def ME:IC:=Xu Proofs.Tryz.f104
def a5g:List IRes:=[(.tmp 4)]
abbrev d5v:Nat:=9
def c0x:ZO:=YQ [(130,.pure (preT (fun x:List Int×FnV 105×Unit=>decide (x.1.length<=1048576))) (Zb (fun x:List Int×FnV 105×Unit=>XO YB x.1)))]
theorem d9a{G:PV->Prop}(l:List Int)(h:(Go.Pl.preT (fun(x:List Int×FnV 105×Unit)=>decide (List.length x.1<=1048576)) [(.sl 1 false (List.map enc l)),(.fn 105)])=true∧(∃ y0:Int,AV.pv (Zb (fun(x:List Int×FnV 105×Unit)=>XO YB x.1) [(.sl 1 false (List.map enc l)),(.fn 105)])=AV.pv (enc y0)∧(G ((.bool (decide (y0 ≥ 0))))))):Ze c0x 0 (Za a5g G) ME [] (Z0 9 [enc l,.fn 105]):=Ze.tp (.req (.abs (Int) (fun YY=>AV.pv (enc YY)) (.lit (.nil)))) h (by kernel_rfl)
noncomputable def Tz:IC:=Xu Proofs.Tryz.f78
def De:List IRes:=[(.tmp 2)]
abbrev b5e:Nat:=46
def Ac:ZO:=YQ [(79,.pure (preT (fun x:Str×Unit=>decide (x.1.s.length<=1048576))) (Zb (fun x:Str×Unit=>JV x.1.s))),(76,.pure (preT (fun x:Tm×Int×Int×Unit=>tW x.1)) (Zb (fun x:Tm×Int×Int×Unit=>YF x.1.nd x.2.1 x.2.2.1))),(104,.pure (preT (fun x:List Int×FnV 105×Unit=>decide (x.1.length<=1048576))) (Zb (fun x:List Int×FnV 105×Unit=>x.1.any YB)))]
theorem c6k{G:PV->Prop}(n:Nd)(ks:List Tm)(h:(Go.Pl.preT (fun(x:Str×Unit)=>decide (List.length (Str.s x.1)<=1048576)) [(.str (Str.s (Nd.name n)))])=true∧(∃ y0:Bool,AV.pv (Zb (fun(x:Str×Unit)=>JV (Str.s x.1)) [(.str (Str.s (Nd.name n)))])=AV.pv (enc y0)∧(if (!y0)=true then G ((.bool false))else(if (decide (Nd.num n<0))=true then G ((.bool false))else(if (decide (Nd.num n>64))=true then G ((.bool false))else(if (decide ((↑(List.length (List.map enc ks)):Int)>8))=true then G ((.bool false))else(if (decide ((↑(List.length (List.map enc (Nd.ranks n))):Int)>0))=true then if ((↑(List.length (List.map enc (Nd.ranks n))):Int) != (↑(List.length (List.map enc ks)):Int))=true then G ((.bool false))else((Go.Pl.preT (fun(x:Tm×Int×Int×Unit)=>tW x.1) [(.agg [(.int .i64 (Nd.kind n)),(.int .i64 (Nd.line n)),(.str (Str.s (Nd.name n))),(.int .i64 (Nd.num n)),(.str (Str.s (Nd.elem n))),(.sl 1 false (List.map enc (Nd.dims n))),(.sl 1 false (List.map enc (Nd.data n))),(.sl 2 false (List.map enc (Nd.sizes n))),(.sl 1 false (List.map enc (Nd.ranks n))),(.sl 10 false (List.map enc ks))]),(.int .i64 4),(.int .i64 8)])=true∧(∃ y1:Bool,AV.pv (Zb (fun(x:Tm×Int×Int×Unit)=>YF (Tm.nd x.1) x.2.1 x.2.2.1) [(.agg [(.int .i64 (Nd.kind n)),(.int .i64 (Nd.line n)),(.str (Str.s (Nd.name n))),(.int .i64 (Nd.num n)),(.str (Str.s (Nd.elem n))),(.sl 1 false (List.map enc (Nd.dims n))),(.sl 1 false (List.map enc (Nd.data n))),(.sl 2 false (List.map enc (Nd.sizes n))),(.sl 1 false (List.map enc (Nd.ranks n))),(.sl 10 false (List.map enc ks))]),(.int .i64 4),(.int .i64 8)])=AV.pv (enc y1)∧(if (y1)=true then(Go.Pl.preT (fun(x:List Int×FnV 105×Unit)=>decide (List.length x.1<=1048576)) [(.sl 1 false (List.map enc (Nd.ranks n))),(.fn 105)])=true∧(∃ y2:Bool,AV.pv (Zb (fun(x:List Int×FnV 105×Unit)=>List.any x.1 YB) [(.sl 1 false (List.map enc (Nd.ranks n))),(.fn 105)])=AV.pv (enc y2)∧(G ((.bool !y2))))else(G ((.bool false))))))else((Go.Pl.preT (fun(x:Tm×Int×Int×Unit)=>tW x.1) [(.agg [(.int .i64 (Nd.kind n)),(.int .i64 (Nd.line n)),(.str (Str.s (Nd.name n))),(.int .i64 (Nd.num n)),(.str (Str.s (Nd.elem n))),(.sl 1 false (List.map enc (Nd.dims n))),(.sl 1 false (List.map enc (Nd.data n))),(.sl 2 false (List.map enc (Nd.sizes n))),(.sl 1 false (List.map enc (Nd.ranks n))),(.sl 10 false (List.map enc ks))]),(.int .i64 4),(.int .i64 8)])=true∧(∃ y3:Bool,AV.pv (Zb (fun(x:Tm×Int×Int×Unit)=>YF (Tm.nd x.1) x.2.1 x.2.2.1) [(.agg [(.int .i64 (Nd.kind n)),(.int .i64 (Nd.line n)),(.str (Str.s (Nd.name n))),(.int .i64 (Nd.num n)),(.str (Str.s (Nd.elem n))),(.sl 1 false (List.map enc (Nd.dims n))),(.sl 1 false (List.map enc (Nd.data n))),(.sl 2 false (List.map enc (Nd.sizes n))),(.sl 1 false (List.map enc (Nd.ranks n))),(.sl 10 false (List.map enc ks))]),(.int .i64 4),(.int .i64 8)])=AV.pv (enc y3)∧(if (y3)=true then(Go.Pl.preT (fun(x:List Int×FnV 105×Unit)=>decide (List.length x.1<=1048576)) [(.sl 1 false (List.map enc (Nd.ranks n))),(.fn 105)])=true∧(∃ y4:Bool,AV.pv (Zb (fun(x:List Int×FnV 105×Unit)=>List.any x.1 YB) [(.sl 1 false (List.map enc (Nd.ranks n))),(.fn 105)])=AV.pv (enc y4)∧(G ((.bool !y4))))else(G ((.bool false))))))))))))):Ze Ac 0 (Za De G) Tz [] (Z0 46 [.agg [enc n.kind,enc n.line,enc n.name,enc n.num,enc n.elem,enc n.dims,enc n.data,enc n.sizes,enc n.ranks,enc ks]]):=Ze.tp (.req (.abs (Bool) (fun YY=>AV.pv (enc YY)) (.ask (Zu 20) (Zl 4 (.ask (Zu 16) (Zl 4 (.ask (Zu 12) (Zl 5 (.ask (Zu 7) (Zl 5 (.ask (Zl 10 (.ask (.nil) (.req (.abs (Bool) (fun YY=>AV.pv (enc YY)) (.ask (Zl 2 (.req (.abs (Bool) (fun YY=>AV.pv (enc YY)) (Zu 2)))) (Zu 4)))))) (Zl 10 (.req (.abs (Bool) (fun YY=>AV.pv (enc YY)) (.ask (Zl 2 (.req (.abs (Bool) (fun YY=>AV.pv (enc YY)) (Zu 2)))) (Zu 4)))))))))))))))) h (by kernel_rfl)
noncomputable def Rn:IC:=Xu Proofs.Tryz.f43
def DD:List IRes:=[(.tmp 2)]
abbrev b8u:Nat:=217
def Ad:ZO:=YQ [(46,.pure (preT (fun x:Str×Unit=>decide (x.1.s.length<=1048576))) (Zb (fun x:Str×Unit=>ZN x.1.s))),(76,.pure (preT (fun x:Tm×Int×Int×Unit=>tW x.1)) (Zb (fun x:Tm×Int×Int×Unit=>YF x.1.nd x.2.1 x.2.2.1))),(77,.pure (preT (fun x:Tm×Unit=>tW x.1)) (Zb (fun x:Tm×Unit=>Uv x.1.nd))),(59,.pure (preT (fun x:Arr×Unit=>WQ x.1)) (Zb (fun x:Arr×Unit=>X8 x.1))),(78,.pure (preT (fun x:Tm×Unit=>tW x.1)) (Zb (fun x:Tm×Unit=>XK x.1.nd x.1.ks.length))),(79,.pure (preT (fun x:Str×Unit=>decide (x.1.s.length<=1048576))) (Zb (fun x:Str×Unit=>JV x.1.s)))]
theorem c5s{G:PV->Prop}(n:Nd)(ks:List Tm)(h:if (decide (Nd.line n<0))=true then G ((.bool false))else(if (decide (Nd.line n>10000))=true then G ((.bool false))else(if (Str.s (Nd.elem n)==[])=true then if ((↑(List.length (List.map enc (Nd.dims n))):Int)==0)=true then if (Nd.kind n==1)=true then if ((↑(List.length (List.map enc (Nd.data n))):Int)==0)=true then(Go.Pl.preT (fun(x:Str×Unit)=>decide (List.length (Str.s x.1)<=1048576)) [(.str (Str.s (Nd.name n)))])=true∧(∃ y0:Bool,AV.pv (Zb (fun(x:Str×Unit)=>ZN (Str.s x.1)) [(.str (Str.s (Nd.name n)))])=AV.pv (enc y0)∧(if (y0)=true then if (Nd.num n==0)=true then if ((↑(List.length (List.map enc ks)):Int)==0)=true then(Go.Pl.preT (fun(x:Tm×Int×Int×Unit)=>tW x.1) [(.agg [(.int .i64 (Nd.kind n)),(.int .i64 (Nd.line n)),(.str (Str.s (Nd.name n))),(.int .i64 (Nd.num n)),(.str (Str.s (Nd.elem n))),(.sl 1 false (List.map enc (Nd.dims n))),(.sl 1 false (List.map enc (Nd.data n))),(.sl 2 false (List.map enc (Nd.sizes n))),(.sl 1 false (List.map enc (Nd.ranks n))),(.sl 10 false (List.map enc ks))]),(.int .i64 0),(.int .i64 0)])=true∧(∃ y1:Bool,AV.pv (Zb (fun(x:Tm×Int×Int×Unit)=>YF (Tm.nd x.1) x.2.1 x.2.2.1) [(.agg [(.int .i64 (Nd.kind n)),(.int .i64 (Nd.line n)),(.str (Str.s (Nd.name n))),(.int .i64 (Nd.num n)),(.str (Str.s (Nd.elem n))),(.sl 1 false (List.map enc (Nd.dims n))),(.sl 1 false (List.map enc (Nd.data n))),(.sl 2 false (List.map enc (Nd.sizes n))),(.sl 1 false (List.map enc (Nd.ranks n))),(.sl 10 false (List.map enc ks))]),(.int .i64 0),(.int .i64 0)])=AV.pv (enc y1)∧(G ((.bool y1))))else(G ((.bool false)))else(G ((.bool false)))else(G ((.bool false)))))else(G ((.bool false)))else(if (Nd.kind n==2)=true then if ((↑(List.length (List.map enc (Nd.data n))):Int)==0)=true then(Go.Pl.preT (fun(x:Tm×Unit)=>tW x.1) [(.agg [(.int .i64 (Nd.kind n)),(.int .i64 (Nd.line n)),(.str (Str.s (Nd.name n))),(.int .i64 (Nd.num n)),(.str (Str.s (Nd.elem n))),(.sl 1 false (List.map enc (Nd.dims n))),(.sl 1 false (List.map enc (Nd.data n))),(.sl 2 false (List.map enc (Nd.sizes n))),(.sl 1 false (List.map enc (Nd.ranks n))),(.sl 10 false (List.map enc ks))])])=true∧(∃ y2:Bool,AV.pv (Zb (fun(x:Tm×Unit)=>Uv (Tm.nd x.1)) [(.agg [(.int .i64 (Nd.kind n)),(.int .i64 (Nd.line n)),(.str (Str.s (Nd.name n))),(.int .i64 (Nd.num n)),(.str (Str.s (Nd.elem n))),(.sl 1 false (List.map enc (Nd.dims n))),(.sl 1 false (List.map enc (Nd.data n))),(.sl 2 false (List.map enc (Nd.sizes n))),(.sl 1 false (List.map enc (Nd.ranks n))),(.sl 10 false (List.map enc ks))])])=AV.pv (enc y2)∧(if (y2)=true then if ((↑(List.length (List.map enc ks)):Int)==0)=true then(Go.Pl.preT (fun(x:Tm×Int×Int×Unit)=>tW x.1) [(.agg [(.int .i64 (Nd.kind n)),(.int .i64 (Nd.line n)),(.str (Str.s (Nd.name n))),(.int .i64 (Nd.num n)),(.str (Str.s (Nd.elem n))),(.sl 1 false (List.map enc (Nd.dims n))),(.sl 1 false (List.map enc (Nd.data n))),(.sl 2 false (List.map enc (Nd.sizes n))),(.sl 1 false (List.map enc (Nd.ranks n))),(.sl 10 false (List.map enc ks))]),(.int .i64 0),(.int .i64 0)])=true∧(∃ y3:Bool,AV.pv (Zb (fun(x:Tm×Int×Int×Unit)=>YF (Tm.nd x.1) x.2.1 x.2.2.1) [(.agg [(.int .i64 (Nd.kind n)),(.int .i64 (Nd.line n)),(.str (Str.s (Nd.name n))),(.int .i64 (Nd.num n)),(.str (Str.s (Nd.elem n))),(.sl 1 false (List.map enc (Nd.dims n))),(.sl 1 false (List.map enc (Nd.data n))),(.sl 2 false (List.map enc (Nd.sizes n))),(.sl 1 false (List.map enc (Nd.ranks n))),(.sl 10 false (List.map enc ks))]),(.int .i64 0),(.int .i64 0)])=AV.pv (enc y3)∧(G ((.bool y3))))else(G ((.bool false)))else(G ((.bool false)))))else(G ((.bool false)))else(if (Nd.kind n==3)=true then if (Str.s (Nd.name n)==[])=true then if (Nd.num n==0)=true then if ((↑(List.length (List.map enc ks)):Int)==0)=true then(Go.Pl.preT (fun(x:Tm×Int×Int×Unit)=>tW x.1) [(.agg [(.int .i64 (Nd.kind n)),(.int .i64 (Nd.line n)),(.str (Str.s (Nd.name n))),(.int .i64 (Nd.num n)),(.str (Str.s (Nd.elem n))),(.sl 1 false (List.map enc (Nd.dims n))),(.sl 1 false (List.map enc (Nd.data n))),(.sl 2 false (List.map enc (Nd.sizes n))),(.sl 1 false (List.map enc (Nd.ranks n))),(.sl 10 false (List.map enc ks))]),(.int .i64 0),(.int .i64 0)])=true∧(∃ y4:Bool,AV.pv (Zb (fun(x:Tm×Int×Int×Unit)=>YF (Tm.nd x.1) x.2.1 x.2.2.1) [(.agg [(.int .i64 (Nd.kind n)),(.int .i64 (Nd.line n)),(.str (Str.s (Nd.name n))),(.int .i64 (Nd.num n)),(.str (Str.s (Nd.elem n))),(.sl 1 false (List.map enc (Nd.dims n))),(.sl 1 false (List.map enc (Nd.data n))),(.sl 2 false (List.map enc (Nd.sizes n))),(.sl 1 false (List.map enc (Nd.ranks n))),(.sl 10 false (List.map enc ks))]),(.int .i64 0),(.int .i64 0)])=AV.pv (enc y4)∧(if (y4)=true then(Go.Pl.preT (fun(x:Arr×Unit)=>WQ x.1) [(.agg [(.str (Str.s (Nd.elem n))),(.sl 1 false (List.map enc (Nd.dims n))),(.sl 1 false (List.map enc (Nd.data n)))])])=true∧(∃ y5:Bool,AV.pv (Zb (fun(x:Arr×Unit)=>X8 x.1) [(.agg [(.str (Str.s (Nd.elem n))),(.sl 1 false (List.map enc (Nd.dims n))),(.sl 1 false (List.map enc (Nd.data n)))])])=AV.pv (enc y5)∧(G ((.bool y5))))else(G ((.bool false)))))else(G ((.bool false)))else(G ((.bool false)))else(G ((.bool false)))else(if (Nd.kind n==4)=true then if ((↑(List.length (List.map enc (Nd.data n))):Int)==0)=true then if (Str.s (Nd.name n)==[])=true then if (Nd.num n==0)=true then if ((↑(List.length (List.map enc ks)):Int)==0)=true then if ((↑(List.length (List.map enc (Nd.sizes n))):Int)==1)=true then(Go.Pl.preT (fun(x:Tm×Int×Int×Unit)=>tW x.1) [(.agg [(.int .i64 (Nd.kind n)),(.int .i64 (Nd.line n)),(.str (Str.s (Nd.name n))),(.int .i64 (Nd.num n)),(.str (Str.s (Nd.elem n))),(.sl 1 false (List.map enc (Nd.dims n))),(.sl 1 false (List.map enc (Nd.data n))),(.sl 2 false (List.map enc (Nd.sizes n))),(.sl 1 false (List.map enc (Nd.ranks n))),(.sl 10 false (List.map enc ks))]),(.int .i64 1),(.int .i64 0)])=true∧(∃ y6:Bool,AV.pv (Zb (fun(x:Tm×Int×Int×Unit)=>YF (Tm.nd x.1) x.2.1 x.2.2.1) [(.agg [(.int .i64 (Nd.kind n)),(.int .i64 (Nd.line n)),(.str (Str.s (Nd.name n))),(.int .i64 (Nd.num n)),(.str (Str.s (Nd.elem n))),(.sl 1 false (List.map enc (Nd.dims n))),(.sl 1 false (List.map enc (Nd.data n))),(.sl 2 false (List.map enc (Nd.sizes n))),(.sl 1 false (List.map enc (Nd.ranks n))),(.sl 10 false (List.map enc ks))]),(.int .i64 1),(.int .i64 0)])=AV.pv (enc y6)∧(G ((.bool y6))))else(G ((.bool false)))else(G ((.bool false)))else(G ((.bool false)))else(G ((.bool false)))else(G ((.bool false)))else(if (Nd.kind n==5)=true then if ((↑(List.length (List.map enc (Nd.data n))):Int)==0)=true then(Go.Pl.preT (fun(x:Str×Unit)=>decide (List.length (Str.s x.1)<=1048576)) [(.str (Str.s (Nd.name n)))])=true∧(∃ y7:Bool,AV.pv (Zb (fun(x:Str×Unit)=>ZN (Str.s x.1)) [(.str (Str.s (Nd.name n)))])=AV.pv (enc y7)∧(if (y7)=true then if (Nd.num n==0)=true then if ((↑(List.length (List.map enc ks)):Int)==2)=true then(Go.Pl.preT (fun(x:Tm×Int×Int×Unit)=>tW x.1) [(.agg [(.int .i64 (Nd.kind n)),(.int .i64 (Nd.line n)),(.str (Str.s (Nd.name n))),(.int .i64 (Nd.num n)),(.str (Str.s (Nd.elem n))),(.sl 1 false (List.map enc (Nd.dims n))),(.sl 1 false (List.map enc (Nd.data n))),(.sl 2 false (List.map enc (Nd.sizes n))),(.sl 1 false (List.map enc (Nd.ranks n))),(.sl 10 false (List.map enc ks))]),(.int .i64 0),(.int .i64 0)])=true∧(∃ y8:Bool,AV.pv (Zb (fun(x:Tm×Int×Int×Unit)=>YF (Tm.nd x.1) x.2.1 x.2.2.1) [(.agg [(.int .i64 (Nd.kind n)),(.int .i64 (Nd.line n)),(.str (Str.s (Nd.name n))),(.int .i64 (Nd.num n)),(.str (Str.s (Nd.elem n))),(.sl 1 false (List.map enc (Nd.dims n))),(.sl 1 false (List.map enc (Nd.data n))),(.sl 2 false (List.map enc (Nd.sizes n))),(.sl 1 false (List.map enc (Nd.ranks n))),(.sl 10 false (List.map enc ks))]),(.int .i64 0),(.int .i64 0)])=AV.pv (enc y8)∧(G ((.bool y8))))else(G ((.bool false)))else(G ((.bool false)))else(G ((.bool false)))))else(G ((.bool false)))else(if (Nd.kind n==6)=true then if ((↑(List.length (List.map enc (Nd.data n))):Int)==0)=true then(Go.Pl.preT (fun(x:Tm×Unit)=>tW x.1) [(.agg [(.int .i64 (Nd.kind n)),(.int .i64 (Nd.line n)),(.str (Str.s (Nd.name n))),(.int .i64 (Nd.num n)),(.str (Str.s (Nd.elem n))),(.sl 1 false (List.map enc (Nd.dims n))),(.sl 1 false (List.map enc (Nd.data n))),(.sl 2 false (List.map enc (Nd.sizes n))),(.sl 1 false (List.map enc (Nd.ranks n))),(.sl 10 false (List.map enc ks))])])=true∧(∃ y9:Bool,AV.pv (Zb (fun(x:Tm×Unit)=>XK (Tm.nd x.1) (List.length (Tm.ks x.1))) [(.agg [(.int .i64 (Nd.kind n)),(.int .i64 (Nd.line n)),(.str (Str.s (Nd.name n))),(.int .i64 (Nd.num n)),(.str (Str.s (Nd.elem n))),(.sl 1 false (List.map enc (Nd.dims n))),(.sl 1 false (List.map enc (Nd.data n))),(.sl 2 false (List.map enc (Nd.sizes n))),(.sl 1 false (List.map enc (Nd.ranks n))),(.sl 10 false (List.map enc ks))])])=AV.pv (enc y9)∧(G ((.bool y9))))else(G ((.bool false)))else(if (Nd.kind n==7)=true then if ((↑(List.length (List.map enc (Nd.data n))):Int)==0)=true then if (Str.s (Nd.name n)==[])=true then if (Nd.num n==0)=true then if (decide ((↑(List.length (List.map enc ks)):Int) ≥ 1))=true then if (decide ((↑(List.length (List.map enc ks)):Int)<=16))=true then(Go.Pl.preT (fun(x:Tm×Int×Int×Unit)=>tW x.1) [(.agg [(.int .i64 (Nd.kind n)),(.int .i64 (Nd.line n)),(.str (Str.s (Nd.name n))),(.int .i64 (Nd.num n)),(.str (Str.s (Nd.elem n))),(.sl 1 false (List.map enc (Nd.dims n))),(.sl 1 false (List.map enc (Nd.data n))),(.sl 2 false (List.map enc (Nd.sizes n))),(.sl 1 false (List.map enc (Nd.ranks n))),(.sl 10 false (List.map enc ks))]),(.int .i64 0),(.int .i64 0)])=true∧(∃ y10:Bool,AV.pv (Zb (fun(x:Tm×Int×Int×Unit)=>YF (Tm.nd x.1) x.2.1 x.2.2.1) [(.agg [(.int .i64 (Nd.kind n)),(.int .i64 (Nd.line n)),(.str (Str.s (Nd.name n))),(.int .i64 (Nd.num n)),(.str (Str.s (Nd.elem n))),(.sl 1 false (List.map enc (Nd.dims n))),(.sl 1 false (List.map enc (Nd.data n))),(.sl 2 false (List.map enc (Nd.sizes n))),(.sl 1 false (List.map enc (Nd.ranks n))),(.sl 10 false (List.map enc ks))]),(.int .i64 0),(.int .i64 0)])=AV.pv (enc y10)∧(G ((.bool y10))))else(G ((.bool false)))else(G ((.bool false)))else(G ((.bool false)))else(G ((.bool false)))else(G ((.bool false)))else(if (Nd.kind n==8)=true then if ((↑(List.length (List.map enc (Nd.data n))):Int)==0)=true then(Go.Pl.preT (fun(x:Str×Unit)=>decide (List.length (Str.s x.1)<=1048576)) [(.str (Str.s (Nd.name n)))])=true∧(∃ y11:Bool,AV.pv (Zb (fun(x:Str×Unit)=>JV (Str.s x.1)) [(.str (Str.s (Nd.name n)))])=AV.pv (enc y11)∧(if (y11)=true then if (Nd.num n==0)=true then if ((↑(List.length (List.map enc ks)):Int)==2)=true then(Go.Pl.preT (fun(x:Tm×Int×Int×Unit)=>tW x.1) [(.agg [(.int .i64 (Nd.kind n)),(.int .i64 (Nd.line n)),(.str (Str.s (Nd.name n))),(.int .i64 (Nd.num n)),(.str (Str.s (Nd.elem n))),(.sl 1 false (List.map enc (Nd.dims n))),(.sl 1 false (List.map enc (Nd.data n))),(.sl 2 false (List.map enc (Nd.sizes n))),(.sl 1 false (List.map enc (Nd.ranks n))),(.sl 10 false (List.map enc ks))]),(.int .i64 0),(.int .i64 0)])=true∧(∃ y12:Bool,AV.pv (Zb (fun(x:Tm×Int×Int×Unit)=>YF (Tm.nd x.1) x.2.1 x.2.2.1) [(.agg [(.int .i64 (Nd.kind n)),(.int .i64 (Nd.line n)),(.str (Str.s (Nd.name n))),(.int .i64 (Nd.num n)),(.str (Str.s (Nd.elem n))),(.sl 1 false (List.map enc (Nd.dims n))),(.sl 1 false (List.map enc (Nd.data n))),(.sl 2 false (List.map enc (Nd.sizes n))),(.sl 1 false (List.map enc (Nd.ranks n))),(.sl 10 false (List.map enc ks))]),(.int .i64 0),(.int .i64 0)])=AV.pv (enc y12)∧(G ((.bool y12))))else(G ((.bool false)))else(G ((.bool false)))else(G ((.bool false)))))else(G ((.bool false)))else(if (Nd.kind n==9)=true then if ((↑(List.length (List.map enc (Nd.data n))):Int)==0)=true then(Go.Pl.preT (fun(x:Str×Unit)=>decide (List.length (Str.s x.1)<=1048576)) [(.str (Str.s (Nd.name n)))])=true∧(∃ y13:Bool,AV.pv (Zb (fun(x:Str×Unit)=>JV (Str.s x.1)) [(.str (Str.s (Nd.name n)))])=AV.pv (enc y13)∧(if (y13)=true then if (Nd.num n==0)=true then if ((↑(List.length (List.map enc ks)):Int)==1)=true then(Go.Pl.preT (fun(x:Tm×Int×Int×Unit)=>tW x.1) [(.agg [(.int .i64 (Nd.kind n)),(.int .i64 (Nd.line n)),(.str (Str.s (Nd.name n))),(.int .i64 (Nd.num n)),(.str (Str.s (Nd.elem n))),(.sl 1 false (List.map enc (Nd.dims n))),(.sl 1 false (List.map enc (Nd.data n))),(.sl 2 false (List.map enc (Nd.sizes n))),(.sl 1 false (List.map enc (Nd.ranks n))),(.sl 10 false (List.map enc ks))]),(.int .i64 0),(.int .i64 0)])=true∧(∃ y14:Bool,AV.pv (Zb (fun(x:Tm×Int×Int×Unit)=>YF (Tm.nd x.1) x.2.1 x.2.2.1) [(.agg [(.int .i64 (Nd.kind n)),(.int .i64 (Nd.line n)),(.str (Str.s (Nd.name n))),(.int .i64 (Nd.num n)),(.str (Str.s (Nd.elem n))),(.sl 1 false (List.map enc (Nd.dims n))),(.sl 1 false (List.map enc (Nd.data n))),(.sl 2 false (List.map enc (Nd.sizes n))),(.sl 1 false (List.map enc (Nd.ranks n))),(.sl 10 false (List.map enc ks))]),(.int .i64 0),(.int .i64 0)])=AV.pv (enc y14)∧(G ((.bool y14))))else(G ((.bool false)))else(G ((.bool false)))else(G ((.bool false)))))else(G ((.bool false)))else(G ((.bool false)))))))))))else(if (Nd.kind n==1)=true then G ((.bool false))else(if (Nd.kind n==2)=true then G ((.bool false))else(if (Nd.kind n==3)=true then if (Str.s (Nd.name n)==[])=true then if (Nd.num n==0)=true then if ((↑(List.length (List.map enc ks)):Int)==0)=true then(Go.Pl.preT (fun(x:Tm×Int×Int×Unit)=>tW x.1) [(.agg [(.int .i64 (Nd.kind n)),(.int .i64 (Nd.line n)),(.str (Str.s (Nd.name n))),(.int .i64 (Nd.num n)),(.str (Str.s (Nd.elem n))),(.sl 1 false (List.map enc (Nd.dims n))),(.sl 1 false (List.map enc (Nd.data n))),(.sl 2 false (List.map enc (Nd.sizes n))),(.sl 1 false (List.map enc (Nd.ranks n))),(.sl 10 false (List.map enc ks))]),(.int .i64 0),(.int .i64 0)])=true∧(∃ y15:Bool,AV.pv (Zb (fun(x:Tm×Int×Int×Unit)=>YF (Tm.nd x.1) x.2.1 x.2.2.1) [(.agg [(.int .i64 (Nd.kind n)),(.int .i64 (Nd.line n)),(.str (Str.s (Nd.name n))),(.int .i64 (Nd.num n)),(.str (Str.s (Nd.elem n))),(.sl 1 false (List.map enc (Nd.dims n))),(.sl 1 false (List.map enc (Nd.data n))),(.sl 2 false (List.map enc (Nd.sizes n))),(.sl 1 false (List.map enc (Nd.ranks n))),(.sl 10 false (List.map enc ks))]),(.int .i64 0),(.int .i64 0)])=AV.pv (enc y15)∧(if (y15)=true then(Go.Pl.preT (fun(x:Arr×Unit)=>WQ x.1) [(.agg [(.str (Str.s (Nd.elem n))),(.sl 1 false (List.map enc (Nd.dims n))),(.sl 1 false (List.map enc (Nd.data n)))])])=true∧(∃ y16:Bool,AV.pv (Zb (fun(x:Arr×Unit)=>X8 x.1) [(.agg [(.str (Str.s (Nd.elem n))),(.sl 1 false (List.map enc (Nd.dims n))),(.sl 1 false (List.map enc (Nd.data n)))])])=AV.pv (enc y16)∧(G ((.bool y16))))else(G ((.bool false)))))else(G ((.bool false)))else(G ((.bool false)))else(G ((.bool false)))else(if (Nd.kind n==4)=true then G ((.bool false))else(if (Nd.kind n==5)=true then G ((.bool false))else(if (Nd.kind n==6)=true then G ((.bool false))else(if (Nd.kind n==7)=true then G ((.bool false))else(if (Nd.kind n==8)=true then G ((.bool false))else(if (Nd.kind n==9)=true then G ((.bool false))else(G ((.bool false))))))))))))else(if (Nd.kind n==1)=true then G ((.bool false))else(if (Nd.kind n==2)=true then G ((.bool false))else(if (Nd.kind n==3)=true then if (Str.s (Nd.name n)==[])=true then if (Nd.num n==0)=true then if ((↑(List.length (List.map enc ks)):Int)==0)=true then(Go.Pl.preT (fun(x:Tm×Int×Int×Unit)=>tW x.1) [(.agg [(.int .i64 (Nd.kind n)),(.int .i64 (Nd.line n)),(.str (Str.s (Nd.name n))),(.int .i64 (Nd.num n)),(.str (Str.s (Nd.elem n))),(.sl 1 false (List.map enc (Nd.dims n))),(.sl 1 false (List.map enc (Nd.data n))),(.sl 2 false (List.map enc (Nd.sizes n))),(.sl 1 false (List.map enc (Nd.ranks n))),(.sl 10 false (List.map enc ks))]),(.int .i64 0),(.int .i64 0)])=true∧(∃ y17:Bool,AV.pv (Zb (fun(x:Tm×Int×Int×Unit)=>YF (Tm.nd x.1) x.2.1 x.2.2.1) [(.agg [(.int .i64 (Nd.kind n)),(.int .i64 (Nd.line n)),(.str (Str.s (Nd.name n))),(.int .i64 (Nd.num n)),(.str (Str.s (Nd.elem n))),(.sl 1 false (List.map enc (Nd.dims n))),(.sl 1 false (List.map enc (Nd.data n))),(.sl 2 false (List.map enc (Nd.sizes n))),(.sl 1 false (List.map enc (Nd.ranks n))),(.sl 10 false (List.map enc ks))]),(.int .i64 0),(.int .i64 0)])=AV.pv (enc y17)∧(if (y17)=true then(Go.Pl.preT (fun(x:Arr×Unit)=>WQ x.1) [(.agg [(.str (Str.s (Nd.elem n))),(.sl 1 false (List.map enc (Nd.dims n))),(.sl 1 false (List.map enc (Nd.data n)))])])=true∧(∃ y18:Bool,AV.pv (Zb (fun(x:Arr×Unit)=>X8 x.1) [(.agg [(.str (Str.s (Nd.elem n))),(.sl 1 false (List.map enc (Nd.dims n))),(.sl 1 false (List.map enc (Nd.data n)))])])=AV.pv (enc y18)∧(G ((.bool y18))))else(G ((.bool false)))))else(G ((.bool false)))else(G ((.bool false)))else(G ((.bool false)))else(if (Nd.kind n==4)=true then G ((.bool false))else(if (Nd.kind n==5)=true then G ((.bool false))else(if (Nd.kind n==6)=true then G ((.bool false))else(if (Nd.kind n==7)=true then G ((.bool false))else(if (Nd.kind n==8)=true then G ((.bool false))else(if (Nd.kind n==9)=true then G ((.bool false))else(G ((.bool false))))))))))))))):Ze Ad 0 (Za DD G) Rn [] (Z0 217 [.agg [enc n.kind,enc n.line,enc n.name,enc n.num,enc n.elem,enc n.dims,enc n.data,enc n.sizes,enc n.ranks,enc ks]]):=Ze.tp (.lit (.ask (Zu 4) (Zl 4 (.ask (.nil) (.lit (.ask (Zl 6 (.ask (Zl 7 (.ask (.ask (Zl 2 (.req (.abs (Bool) (fun YY=>AV.pv (enc YY)) (.lit (.ask (Zl 4 (.ask (Zl 3 (.ask (.lit (.req (.abs (Bool) (fun YY=>AV.pv (enc YY)) (.lit (.nil))))) (Zu 2))) (Zu 5))) (Zu 9)))))) (Zu 13)) (.lit (.ask (.ask (.lit (.req (.abs (Bool) (fun YY=>AV.pv (enc YY)) (.lit (.ask (Zl 3 (.ask (.lit (.req (.abs (Bool) (fun YY=>AV.pv (enc YY)) (.lit (.nil))))) (Zu 2))) (Zu 5)))))) (Zu 8)) (.lit (.ask (.lit (.ask (Zl 4 (.ask (Zl 3 (.ask (.lit (.req (.abs (Bool) (fun YY=>AV.pv (enc YY)) (.lit (.ask (Zl 2 (.req (.abs (Bool) (fun YY=>AV.pv (enc YY)) (.lit (.nil))))) (Zu 3)))))) (Zu 6))) (Zu 9))) (Zu 13))) (.lit (.ask (.ask (Zl 4 (.ask (Zl 4 (.ask (Zl 3 (.ask (Zl 5 (.ask (.lit (.req (.abs (Bool) (fun YY=>AV.pv (enc YY)) (.lit (.nil))))) (Zu 2))) (Zu 7))) (Zu 10))) (Zu 14))) (Zu 18)) (.lit (.ask (.ask (Zl 2 (.req (.abs (Bool) (fun YY=>AV.pv (enc YY)) (.lit (.ask (Zl 4 (.ask (Zl 3 (.ask (.lit (.req (.abs (Bool) (fun YY=>AV.pv (enc YY)) (.lit (.nil))))) (Zu 2))) (Zu 5))) (Zu 9)))))) (Zu 13)) (.lit (.ask (.ask (.lit (.req (.abs (Bool) (fun YY=>AV.pv (enc YY)) (.lit (.nil))))) (Zu 2)) (.lit (.ask (.ask (Zl 4 (.ask (Zl 4 (.ask (Zl 3 (.ask (Zl 3 (.ask (.lit (.req (.abs (Bool) (fun YY=>AV.pv (enc YY)) (.lit (.nil))))) (Zu 2))) (Zu 5))) (Zu 8))) (Zu 12))) (Zu 16)) (.lit (.ask (.ask (Zl 2 (.req (.abs (Bool) (fun YY=>AV.pv (enc YY)) (.lit (.ask (Zl 4 (.ask (Zl 3 (.ask (.lit (.req (.abs (Bool) (fun YY=>AV.pv (enc YY)) (.lit (.nil))))) (Zu 2))) (Zu 5))) (Zu 9)))))) (Zu 13)) (.lit (.ask (.ask (Zl 2 (.req (.abs (Bool) (fun YY=>AV.pv (enc YY)) (.lit (.ask (Zl 4 (.ask (Zl 3 (.ask (.lit (.req (.abs (Bool) (fun YY=>AV.pv (enc YY)) (.lit (.nil))))) (Zu 2))) (Zu 5))) (Zu 9)))))) (Zu 13)) (.nil))))))))))))))))))) (Zl 6 (.ask (Zu 14) (.lit (.ask (Zu 9) (.lit (.ask (.lit (.ask (Zl 4 (.ask (Zl 3 (.ask (.lit (.req (.abs (Bool) (fun YY=>AV.pv (enc YY)) (.lit (.ask (Zl 2 (.req (.abs (Bool) (fun YY=>AV.pv (enc YY)) (.lit (.nil))))) (Zu 3)))))) (Zu 6))) (Zu 9))) (Zu 13))) (.lit (.ask (Zu 19) (.lit (.ask (Zu 14) (.lit (.ask (Zu 3) (.lit (.ask (Zu 17) (.lit (.ask (Zu 14) (.lit (.ask (Zu 14) (.nil))))))))))))))))))))) (Zl 12 (.ask (Zu 14) (.lit (.ask (Zu 9) (.lit (.ask (.lit (.ask (Zl 4 (.ask (Zl 3 (.ask (.lit (.req (.abs (Bool) (fun YY=>AV.pv (enc YY)) (.lit (.ask (Zl 2 (.req (.abs (Bool) (fun YY=>AV.pv (enc YY)) (.lit (.nil))))) (Zu 3)))))) (Zu 6))) (Zu 9))) (Zu 13))) (.lit (.ask (Zu 19) (.lit (.ask (Zu 14) (.lit (.ask (Zu 3) (.lit (.ask (Zu 17) (.lit (.ask (Zu 14) (.lit (.ask (Zu 14) (.nil))))))))))))))))))))))))) h (by kernel_rfl)
end Go.Pl
namespace Go.Pl
open Go.RowKit
open Enc (enc dec is)
open EncL (encL decL isL)
set_option maxRecDepth 100000
end Go.Pl
namespace Go.Pl
open Go.RowKit
open Enc (enc dec is)
open EncL (encL decL isL)
theorem a6x(p:UInt8->Bool): ∀ (s:List UInt8) (i:Nat),i<=s.length->(∀ j (h:j<s.length),j<i->p s[j]=true)->(∀ h:i<s.length,p s[i]=false)->s.takeWhile p=s.take i∧s.dropWhile p=s.drop i
 | [],i,hi,h1,h2=>by
  have:i=0:=by simpa using hi
  subst this
  exact⟨rfl,rfl⟩
 | c::s,0,hi,h1,h2=>by
  have:=h2 (by simp)
  simp only[List.getElem_cons_zero]at this
  simp[List.takeWhile_cons,List.dropWhile_cons,this]
 | c::s,i+1,hi,h1,h2=>by
  have hc:p c=true:=h1 0 (by simp) (by omega)
  have ih:=a6x p s i (by simpa using hi) (fun j h hj=>h1 (j+1) (by simp;omega) (by omega)) fun h=>h2 (by simp;omega)
  simp[List.takeWhile_cons,List.dropWhile_cons,hc,ih.1,ih.2]
theorem Sm{s:List UInt8}{i:Nat}(h:i<s.length):[PV.int .u8 ((s.getD (Int.toNat (i:Int)) 0).toNat:Int)]=encL (s[i],()):=by
 rw[show Int.toNat (i:Int)=i from rfl,List.getD_eq_getElem?_getD,List.getElem?_eq_getElem h];rfl
theorem a1k: ∀ x:UInt8×Unit,(fun _:UInt8×Unit=>true) x=true->Ze Rp 0 (Za CL (Zi (lowB x.1))) Bf [] (Z0 b1k (encL x)):=by
 rintro⟨c,⟨⟩⟩ _
 refine c0r c (Gd (fun h=>ZA ?_) fun h=>ZA ?_)
 ·have h:(97:Int)<=c.toNat:=by simpa using h
  have h1:(97:UInt8)<=c:=by rw[UInt8.le_iff_toNat_le];exact Int.ofNat_le.1 h
  unfold lowB
  rw[decide_eq_true h1,Bool.true_and]
  exact decide_eq_decide.2 ⟨fun h=>UInt8.le_iff_toNat_le.2 (Int.ofNat_le.1 h),fun h=>Int.ofNat_le.2 (UInt8.le_iff_toNat_le.1 h)⟩
 ·have h : ¬ (97:Int)<=c.toNat:=by simpa using h
  have h1 : ¬ (97:UInt8)<=c:=by rw[UInt8.le_iff_toNat_le];exact fun k=>h (Int.ofNat_le.2 k)
  unfold lowB
  rw[decide_eq_false h1]
  rfl
theorem a1j: ∀ x:UInt8×Unit,(fun _:UInt8×Unit=>true) x=true->Ze Rv 0 (Za Ce (Zi (digB x.1))) Cf [] (Z0 a8u (encL x)):=by
 rintro⟨c,⟨⟩⟩ _
 refine b9a c (Gd (fun h=>ZA ?_) fun h=>ZA ?_)
 ·have h:(48:Int)<=c.toNat:=by simpa using h
  have h1:(48:UInt8)<=c:=by rw[UInt8.le_iff_toNat_le];exact Int.ofNat_le.1 h
  unfold digB
  rw[decide_eq_true h1,Bool.true_and]
  exact decide_eq_decide.2 ⟨fun h=>UInt8.le_iff_toNat_le.2 (Int.ofNat_le.1 h),fun h=>Int.ofNat_le.2 (UInt8.le_iff_toNat_le.1 h)⟩
 ·have h : ¬ (48:Int)<=c.toNat:=by simpa using h
  have h1 : ¬ (48:UInt8)<=c:=by rw[UInt8.le_iff_toNat_le];exact fun k=>h (Int.ofNat_le.2 k)
  unfold digB
  rw[decide_eq_false h1]
  rfl
theorem b2i(s:List UInt8)(b:Bool)(hl:s.length<=1048576): ∀ (m i:Nat),m+i=s.length->(∀ j (h:j<s.length),j<i->(digB s[j]||(b&&lowB s[j]))=true) ->
  At KQ 0 (Za UR (Zi (SV ⟨s⟩ b))) UN 0 30 [(0,.pv (.str s)),(1,.pv (.bool b)),(5,.pv (.int .i64 i))] []:=by
 have fin : ∀ i:Nat,i<=s.length->(∀ j (h:j<s.length),j<i->(digB s[j]||(b&&lowB s[j]))=true)->(∀ h:i<s.length,(digB s[i]||(b&&lowB s[i]))=false) ->
   ((true&&decide (0<=(i:Int))&&decide (0<=Int.toNat (i:Int))&&decide (Int.toNat (i:Int)<=s.length))=true)∧Zi (SV ⟨s⟩ b) (.str (List.drop 0 (List.take (Int.toNat (i:Int)) s))):=by
  intro i hi h1 h2
  obtain⟨e1,_⟩:=a6x (fun c=>digB c||(b&&lowB c)) s i hi h1 h2
  refine⟨by simp[hi],rfl,?_⟩
  show(⟨List.drop 0 (List.take i s)⟩:Str)=⟨s.takeWhile fun c=>digB c||(b&&lowB c)⟩
  rw[e1,List.drop_zero]
 intro m
 induction m with
 | zero=>
  intro i hi hyes
  exact a7c s b i (YA (YR (by omega)) (fin i (by omega) hyes (fun h=>by omega)))
 | succ m ih=>
  intro i hi hyes
  have hlt:i<s.length:=by omega
  have hnext:(digB s[i]||(b&&lowB s[i]))=true->At KQ 0 (Za UR (Zi (SV ⟨s⟩ b))) UN 0 30 [(0,.pv (.str s)),(1,.pv (.bool b)),(5,.pv (.int .i64 (IntKind.i64.wrap ((i:Int)+1))))] []:=by
   intro hb
   rw[next (by omega)]
   refine ih (i+1) (by omega) fun j hj hji=> ?_
   by_cases e:j=i
   ·subst e;exact hb
   ·exact hyes j hj (by omega)
  have hix:(decide (0<=(i:Int))&&decide (Int.toNat (i:Int)<s.length))=true:=by simp[hlt]
  refine a7c s b i (Yv (YO hlt) ⟨hix,Zf (s[i],()) (Sm hlt) rfl,Zd (s[i],()) (Sm hlt) (XR (fun h=>hnext ?_) fun h=>XR (fun hb=>⟨hix,Zf (s[i],()) (Sm hlt) rfl,Zd (s[i],()) (Sm hlt) (XR (fun h2=>hnext ?_) fun h2=> ?_)⟩) fun hb=> ?_)⟩)
  ·have h:digB s[i]=true:=h
   rw[h];rfl
  ·have h2:lowB s[i]=true:=h2
   rw[hb,h2];simp
  ·have h:digB s[i]=false:=h
   have h2:lowB s[i]=false:=h2
   exact fin i (by omega) hyes (fun _=>by rw[h,h2];simp)
  ·have h:digB s[i]=false:=h
   exact fin i (by omega) hyes (fun _=>by rw[h,hb];simp)
theorem b7o: ∀ x:Str×Bool×Unit,decide (x.1.s.length<=1048576)=true->Ze KQ 0 (Za UR (Zi (SV x.1 x.2.1))) UN [] (Z0 c9y (encL x)):=by
 rintro⟨⟨s⟩,b,⟨⟩⟩ h
 exact d6a s b (b2i s b (of_decide_eq_true h) s.length 0 (by omega) (fun j hj h=>by omega))
theorem b7q: ∀ x:Str×Unit,(fun _:Str×Unit=>true) x=true->Ze a3g 0 (Za La (Zi (Qk.contains x.1.s))) AX [] (Z0 c7q (encL x)):=by
 rintro⟨⟨s⟩,⟨⟩⟩ _
 refine d4c s ?_
 iterate 14 (refine ZL (fun h=>ZA (by subst h;rfl)) fun h=> ?_)
 refine ZA ?_
 show false=Qk.contains s
 rw[eq_comm,<- Bool.not_eq_true,List.contains_iff_mem]
 simp only[Qk,List.mem_cons,List.not_mem_nil,or_false,not_or]
 refine⟨?_,?_,?_,?_,?_,?_,?_,?_,?_,?_,?_,?_,?_,?_⟩ <;> assumption
theorem J6{p:UInt8->Bool}: ∀ {l:List UInt8},(∀ x∈l,p x=true)->l.takeWhile p=l
 | [],_=>rfl
 | a::l,h=>by rw[List.takeWhile_cons,if_pos (h a (by simp)),J6 fun x hx=>h x (by simp[hx])]
theorem b1u: ∀ x:Str×Unit,decide (x.1.s.length<=1048576)=true->Ze N9 0 (Za Sr (Zi (ZN x.1.s))) TC [] (Z0 c0s (encL x)):=by
 rintro⟨⟨s⟩,⟨⟩⟩ h
 refine c6i s (Gd (fun h0=> ?_) fun h0=>ZA ?_)
 ·cases s with
  | nil=>simp at h0
  | cons c r=>
   have hlt:0<(c::r).length:=by simp
   refine Gd (fun h1=>⟨by simp,Zf (c,()) rfl rfl,Zd (c,()) rfl (XR (fun h2=>⟨Zf (⟨c::r⟩,true,()) rfl h,Zd (⟨c::r⟩,true,()) rfl (Gd (fun h3=>Zd (⟨c::r⟩,()) rfl (ZA ?_)) fun h3=>ZA ?_)⟩) fun h2=>ZA ?_)⟩) fun h1=>ZA ?_
   ·have h1:r.length+1<=30:=by have:=of_decide_eq_true h1;simp at this;omega
    have h2:lowB c=true:=h2
    have h3:(List.takeWhile (fun c=>digB c||(true&&lowB c)) (c::r))=c::r:=eq_of_beq h3
    show(!(Qk.contains (c::r)))=(lowB c&&r.all Fh&&decide (r.length<=29)&& !Qk.contains (c::r))
    have h4:r.all Fh=true:=by
     rw[List.all_eq_true]
     intro x hx
     have:=List.all_eq_true.1 (List.all_takeWhile (p:=fun c=>digB c||(true&&lowB c)) (l:=c::r)) x (by rw[h3];simp[hx])
     unfold Fh
     simpa using this
    rw[h2,h4,decide_eq_true (show r.length<=29 by omega)]
    rfl
   ·have h3 : ¬ (List.takeWhile (fun c=>digB c||(true&&lowB c)) (c::r))=c::r:=fun e=>h3 (by show(_==_)=true;rw[beq_iff_eq];exact e)
    have h2:lowB c=true:=h2
    show false=(lowB c&&r.all Fh&&decide (r.length<=29)&& !Qk.contains (c::r))
    have h4:r.all Fh=false:=by
     rw[<- Bool.not_eq_true,List.all_eq_true]
     intro hx
     refine h3 (J6 fun x hm=> ?_)
     rcases List.mem_cons.1 hm with rfl|hm
     ·rw[h2];simp
     ·have:=hx x hm
      unfold Fh at this
      simpa using this
    rw[h4]
    simp
   ·have h2:lowB c=false:=h2
    show false=(lowB c&&r.all Fh&&decide (r.length<=29)&& !Qk.contains (c::r))
    rw[h2];rfl
   ·show false=(lowB c&&r.all Fh&&decide (r.length<=29)&& !Qk.contains (c::r))
    have h1 : ¬ r.length<=29:=fun k=>h1 (decide_eq_true (by simp;omega))
    rw[decide_eq_false h1]
    simp
 ·cases s with
  | nil=>rfl
  | cons c r=>simp at h0
theorem c5m(s:Str):(UT s).a.s.length<=s.s.length∧(UT s).b.s.length<=s.s.length:=by
 unfold UT
 have h1:=(List.takeWhile_sublist (fun c:UInt8=>c != 46) (l:=s.s)).length_le
 have h2:=(List.dropWhile_sublist (fun c:UInt8=>c != 46) (l:=s.s)).length_le
 split
 ·exact⟨Nat.le_refl _,Nat.zero_le _⟩
 ·rename_i c r e
  rw[e]at h2
  exact⟨h1,by simp at h2 ⊢;omega⟩
theorem b2t: ∀ x:Str×Unit,decide (x.1.s.length<=1048576)=true->Ze BZ 0 (Za GD (Zi (fullI x.1.s))) Tv [] (Z0 b5u (encL x)):=by
 rintro⟨⟨s⟩,⟨⟩⟩ h
 have h':s.length<=1048576:=of_decide_eq_true h
 have hc:=c5m ⟨s⟩
 have ha:decide ((UT ⟨s⟩).a.s.length<=1048576)=true:=decide_eq_true (Nat.le_trans hc.1 h')
 have hb:decide ((UT ⟨s⟩).b.s.length<=1048576)=true:=decide_eq_true (Nat.le_trans hc.2 h')
 have he:fullI s=((UT ⟨s⟩).c&&ZN (UT ⟨s⟩).a.s&&ZN (UT ⟨s⟩).b.s):=by
  unfold fullI UT
  show(match s.dropWhile fun c=>c != 46 with|[]=>false|_::r=>_)=_
  cases s.dropWhile fun c=>c != 46 <;> simp
 show Ze BZ 0 (Za GD (Zi (fullI s))) _ _ _
 rw[he]
 refine c6h s ⟨Zf (⟨s⟩,⟨[46]⟩,()) rfl (by show(decide (s.length<=1048576)&&true)=true;rw[decide_eq_true h'];rfl),Zd (⟨s⟩,⟨[46]⟩,()) rfl (XR (fun h1=>⟨Zf ((UT ⟨s⟩).a,()) rfl ha,Zd ((UT ⟨s⟩).a,()) rfl (XR (fun h2=>⟨Zf ((UT ⟨s⟩).b,()) rfl hb,Zd ((UT ⟨s⟩).b,()) rfl (ZA ?_)⟩) fun h2=>ZA ?_)⟩) fun h1=>ZA ?_)⟩
 ·have h1:(UT ⟨s⟩).c=true:=h1
  have h2:ZN (UT ⟨s⟩).a.s=true:=h2
  rw[h1,h2];rfl
 ·have h2:ZN (UT ⟨s⟩).a.s=false:=h2
  rw[h2];simp
 ·have h1:(UT ⟨s⟩).c=false:=h1
  rw[h1];rfl
theorem c1r: ∀ x:Str×Unit,decide (x.1.s.length<=1048576)=true->Ze a4t 0 (Za Nk (Zi (JV x.1.s))) MK [] (Z0 d0f (encL x)):=by
 rintro⟨⟨s⟩,⟨⟩⟩ h
 refine d6f s ⟨Zf (⟨s⟩,()) rfl h,Zd (⟨s⟩,()) rfl (XR (fun h1=>ZA ?_) fun h1=>⟨Zf (⟨s⟩,()) rfl h,Zd (⟨s⟩,()) rfl (ZA ?_)⟩)⟩
 ·have h1:ZN s=true:=h1
  show true=(ZN s||fullI s)
  rw[h1];rfl
 ·have h1:ZN s=false:=h1
  show fullI s=(ZN s||fullI s)
  rw[h1];rfl
theorem YN(n:Nd)(ks:List Tm):[PV.agg [enc n.kind,enc n.line,enc n.name,enc n.num,enc n.elem,enc n.dims,enc n.data,enc n.sizes,enc n.ranks,enc ks]]=encL (Tm.mk n ks,()):=by
 show _=[enc (Tm.mk n ks)]
 rw[Yy]
theorem Qa(n:Nd)(ks:List Tm)(a b:Int):[PV.agg [enc n.kind,enc n.line,enc n.name,enc n.num,enc n.elem,enc n.dims,enc n.data,enc n.sizes,enc n.ranks,enc ks],.int .i64 a,.int .i64 b]=encL (Tm.mk n ks,a,b,()):=by
 show _=[enc (Tm.mk n ks),enc a,enc b]
 rw[Yy]
 rfl
theorem c2q: ∀ x:Tm×Unit,tW x.1=true->Ze LJ 0 (Za AZ (Zi (Uv x.1.nd))) Li [] (Z0 d1i (encL x)):=by
 rintro⟨⟨n,ks⟩,⟨⟩⟩ h
 rw[<- YN]
 show Ze LJ 0 (Za AZ (Zi (Uv n))) _ _ _
 have e1 : ∀ b:Bool,Uv n=b->Zi (Uv n) (.bool b):=fun b h=>ZA h.symm
 refine d5z n ks (ZL (fun h1=> ?_) fun h1=>ZL (fun h2=>Yg (fun h3=>e1 _ ?_) fun h3=>e1 _ ?_) fun h2=>e1 _ ?_)
 ·have h1:n.name.s=XJ:=h1
  refine ZL (fun h2=>e1 _ ?_) fun h2=>e1 _ ?_
  ·unfold Uv;rw[if_pos h1,h2];rfl
  ·unfold Uv;rw[if_pos h1,decide_eq_false h2,Bool.false_or];exact Bool.eq_iff_iff.2 (by simp)
 ·have h1 : ¬ n.name.s=XJ:=h1
  have h2:n.name.s=Wo:=h2
  have h3 : -2147483648<=n.num:=h3
  unfold Uv;rw[if_neg h1,decide_eq_true h2,decide_eq_true h3];rfl
 ·have h1 : ¬ n.name.s=XJ:=h1
  have h3 : ¬ -2147483648<=n.num:=h3
  unfold Uv;rw[if_neg h1,decide_eq_false h3,Bool.and_false];rfl
 ·have h1 : ¬ n.name.s=XJ:=h1
  have h2 : ¬ n.name.s=Wo:=h2
  unfold Uv;rw[if_neg h1,decide_eq_false h2];rfl
theorem a0w(l:Lin)(hl:l.t.length<=9223372036854775807)(hs:l.t.all (fun t=>decide (t.v.s.length<=281474976710656))=true): ∀ (j i:Nat),j+i=l.t.length->At UJ 0 (Za VW (Zi (CB (OD l.t i) (l.t.drop i)&&(Yp l.k&&decide (l.t.length<=12))))) WU 0 54 [(1,.ptr 0 0),(6,.pv (enc l.t)),(7,.pv (.int .i64 l.t.length)),(8,.pv (.int .i64 i))] [.obj (.box [.pv (.int .i64 l.k),.pv (enc l.t)])]:=by
 intro j
 induction j with
 | zero=>
  intro i hi
  refine OP l i (YA (YR (by omega)) (Zd (l.k,()) rfl ?_))
  rw[List.drop_of_length_le (show l.t.length<=i by omega)]
  refine XR (fun h=>ZA ?_) fun h=>ZA ?_
  ·have h:Yp l.k=true:=h
   rw[h]
   show _=(true&&(true&&_))
   rw[Bool.true_and,Bool.true_and]
   exact decide_eq_decide.2 (by simp;omega)
  ·have h:Yp l.k=false:=h
   rw[h];simp
 | succ j ih=>
  intro i hi
  have hlt:i<l.t.length:=by omega
  have h:=ih (i+1) (by omega)
  have hsi:l.t[i].v.s.length<=281474976710656:=by rw[List.all_eq_true]at hs;simpa using hs _ (List.getElem_mem hlt)
  refine OP l i ?_
  refine Yv (YO hlt) ⟨ZT hlt rfl,Yk hlt ⟨Zf (l.t[i].v,()) rfl (by simpa using hsi),Zd (l.t[i].v,()) rfl (VY (fun hn=> ?_) fun hn=>ZL (fun hc=> ?_) fun hc=>Zd (l.t[i].c,()) rfl (VY (fun hk=> ?_) fun hk=> ?_))⟩⟩
  all_goals rw[List.drop_eq_getElem_cons hlt,Ja]
  ·have hn:Yq l.t[i].v=false:=hn
   exact ZA (by simp[hn])
  ·have hc:l.t[i].c=0:=hc
   exact ZA (by simp[hc])
  ·have hk:Yp l.t[i].c=false:=hk
   exact ZA (by simp[hk])
  have hn:Yq l.t[i].v=true:=hn
  have hk:Yp l.t[i].c=true:=hk
  have hc:l.t[i].c≠0:=hc
  rw[next (by omega),hn,hk,decide_eq_true hc]
  have ep:OD l.t (i+1)=some l.t[i].v.s:=by simp[OD,hlt]
  rw[ep]at h
  cases i with
  | zero=>exact YA (by simp) h
  | succ i=>
   refine Yv (by simp) ?_
   rw[M5 (by omega)]
   refine⟨ZT (by omega) rfl,Yk (by omega) ?_⟩
   have e2:OD l.t (i+1)=some l.t[i].v.s:=by simp[OD,show i<l.t.length by omega]
   rw[e2]
   refine VY (fun hb=> ?_) fun hb=> ?_
   all_goals
    have hb':=(X6 l.t[i].v.s l.t[i+1].v.s).symm.trans hb
    simp only[hb',Bool.and_true,Bool.true_and,Bool.and_false,Bool.false_and]
   ·exact ZA rfl
   ·exact h
theorem a9q: ∀ a:Lin×Unit,Qy a.1=true->Ze UJ 0 (Za VW (Zi (Zp a.1))) WU [] (Z0 c0z (encL a)):=by
 rintro⟨l,⟨⟩⟩ hl
 simp only[Qy,X3,Bool.and_eq_true,decide_eq_true_eq]at hl
 refine d1j l ?_
 show At UJ 0 (Za VW (Zi (Zp l))) WU 0 54 _ _
 have e:Zp l=(CB (OD l.t 0) (l.t.drop 0)&&(Yp l.k&&decide (l.t.length<=12))):=by rw[Ry,Bool.and_comm];rfl
 rw[e,List.length_map]
 exact a0w l hl.1 hl.2 l.t.length 0 (by omega)
theorem c2x: ∀ x:Lin×Unit,Qy x.1=true->Ze a3k 0 (Za M7 (Zi (!(Zp x.1)))) Fb [] (Z0 c9v (encL x)):=by
 rintro⟨l,⟨⟩⟩ h
 exact d3n l ⟨Zf (l,()) rfl h,Zd (l,()) rfl (ZA rfl)⟩
theorem c3a(l:List Lin)(hs : ∀ s∈l,Qy s=true)(hl:l.length<=1048576): ∀ (m i:Nat),m+i=l.length->(∀ j (h:j<l.length),j<i->(!(Zp l[j]))=false) ->
  At Re 0 (Za Gl (Zi (XO (fun s:Lin=> !(Zp s)) l))) He 0 19 [(0,.pv (enc l)),(1,.pv (.fn 103)),(7,.pv (.int .i64 l.length)),(8,.pv (.int .i64 i))] []:=by
 intro m
 induction m with
 | zero=>
  intro i hi hno
  refine c5g l i (YA (YR (by omega)) (QM ?_))
  rw[Lu _ _ (fun j hj=>hno j hj (by omega))]
 | succ m ih=>
  intro i hi hno
  have hlt:i<l.length:=by omega
  refine c5g l i (Yv (YO hlt) ⟨ZT hlt rfl,Yk hlt ⟨Zf (l[i],()) rfl (hs _ (List.getElem_mem hlt)),Zd (l[i],()) rfl (XR (fun hb=> ?_) fun hb=> ?_)⟩⟩)
  ·exact QM (Mv (fun s:Lin=> !(Zp s)) l i hlt hno hb).symm
  ·rw[next (by omega)]
   refine ih (i+1) (by omega) fun j hj hji=> ?_
   by_cases e:j=i
   ·subst e;exact hb
   ·exact hno j hj (by omega)
theorem d1f: ∀ a:List Lin×FnV 103×Unit,(decide (a.1.length<=1048576)&&a.1.all Qy)=true->Ze Re 0 (Za Gl (Zi (XO (fun s:Lin=> !(Zp s)) a.1))) He [] (Z0 d6v (encL a)):=by
 rintro⟨l,g,⟨⟩⟩ h
 have h':=h
 simp only[Bool.and_eq_true,List.all_eq_true,decide_eq_true_eq]at h'
 refine e0x l ?_
 rw[List.length_map]
 exact c3a l h'.2 h'.1 l.length 0 (by omega) (fun j hj h=>by omega)
theorem d1r: ∀ a:List Lin×FnV 103×Unit,(decide (a.1.length<=1048576)&&a.1.all Qy)=true->Ze b5r 0 (Za a5b (Zi (a.1.any fun s:Lin=> !(Zp s)))) a4m [] (Z0 d3q (encL a)):=by
 rintro⟨l,g,⟨⟩⟩ h
 exact e0o l ⟨Zf (l,{},()) rfl h,Zd (l,{},()) rfl (ZA (Qs _ _))⟩
theorem Hy{α:Type}{p:α->Bool}(l:List α):(!(l.any fun x=> !(p x)))=l.all p:=by
 induction l with
 | nil=>rfl
 | cons a l ih=>rw[List.any_cons,List.all_cons,<- ih];cases p a <;> simp
theorem a2z: ∀ x:Tm×Int×Int×Unit,tW x.1=true->Ze T9 0 (Za CY (Zi (YF x.1.nd x.2.1 x.2.2.1))) CV [] (Z0 b1n (encL x)):=by
 rintro⟨⟨n,ks⟩,a,b,⟨⟩⟩ h
 rw[<- Qa]
 have hp:(decide (n.sizes.length<=1048576)&&n.sizes.all Qy)=true:=by
  rw[decide_eq_true (EQ h).sizes,Bool.true_and,List.all_eq_true]
  exact b3l h
 refine c4v n ks a b (Yg (fun h1=>Yg (fun h2=>⟨Zf (n.sizes,{},()) rfl hp,Zd (n.sizes,{},()) rfl (ZA ?_)⟩) fun h2=>ZA ?_) fun h1=>ZA ?_)
 ·rw[List.length_map]at h1 h2
  show(!(n.sizes.any fun l=> !(Zp l)))=YF n a b
  unfold YF
  rw[Hy,decide_eq_true h1,decide_eq_true h2];rfl
 ·rw[List.length_map]at h1 h2
  show false=YF n a b
  unfold YF
  rw[decide_eq_false h2,Bool.and_false];rfl
 ·rw[List.length_map]at h1
  show false=YF n a b
  unfold YF
  rw[decide_eq_false h1];rfl
theorem b4v: ∀ x:Int×Unit,(fun _:Int×Unit=>true) x=true->Ze a3d 0 (Za NG (Zi (YB x.1))) Ml [] (Z0 c5k (encL x)):=by
 rintro⟨n,⟨⟩⟩ _
 refine d3t n (Yg (fun h=>ZA ?_) fun h=>ZA ?_)
 ·show true=YB n
  unfold YB
  rw[decide_eq_true h];rfl
 ·show decide (n>6)=YB n
  unfold YB
  rw[decide_eq_false h];rfl
theorem c5c(l:List Int)(hl:l.length<=1048576): ∀ (m i:Nat),m+i=l.length->(∀ j (h:j<l.length),j<i->YB l[j]=false) ->
  At Rc 0 (Za H8 (Zi (XO YB l))) Je 0 19 [(0,.pv (enc l)),(1,.pv (.fn 105)),(7,.pv (.int .i64 l.length)),(8,.pv (.int .i64 i))] []:=by
 intro m
 induction m with
 | zero=>
  intro i hi hno
  refine c0g l i (YA (YR (by omega)) (QM ?_))
  rw[Lu _ _ (fun j hj=>hno j hj (by omega))]
 | succ m ih=>
  intro i hi hno
  have hlt:i<l.length:=by omega
  refine c0g l i (Yv (YO hlt) ⟨ZT hlt rfl,Yk hlt (Zd (l[i],()) rfl (XR (fun hb=> ?_) fun hb=> ?_))⟩)
  ·exact QM (Mv YB l i hlt hno hb).symm
  ·rw[next (by omega)]
   refine ih (i+1) (by omega) fun j hj hji=> ?_
   by_cases e:j=i
   ·subst e;exact hb
   ·exact hno j hj (by omega)
theorem c6d: ∀ a:List Int×FnV 105×Unit,decide (a.1.length<=1048576)=true->Ze Rc 0 (Za H8 (Zi (XO YB a.1))) Je [] (Z0 d8k (encL a)):=by
 rintro⟨l,g,⟨⟩⟩ h
 refine d9i l ?_
 rw[List.length_map]
 exact c5c l (of_decide_eq_true h) l.length 0 (by omega) (fun j hj h=>by omega)
theorem c7g: ∀ a:List Int×FnV 105×Unit,decide (a.1.length<=1048576)=true->Ze c0x 0 (Za a5g (Zi (a.1.any YB))) ME [] (Z0 d5v (encL a)):=by
 rintro⟨l,g,⟨⟩⟩ h
 exact d9a l ⟨Zf (l,{},()) rfl h,Zd (l,{},()) rfl (ZA (Qs _ _))⟩
theorem b0j: ∀ x:Tm×Unit,tW x.1=true->Ze Ac 0 (Za De (Zi (XK x.1.nd x.1.ks.length))) Tz [] (Z0 b5e (encL x)):=by
 rintro⟨⟨n,ks⟩,⟨⟩⟩ h
 rw[<- YN]
 show Ze Ac 0 (Za De (Zi (XK n ks.length))) _ _ _
 have hnm:decide (n.name.s.length<=1048576)=true:=decide_eq_true (EQ h).name
 have hrk:decide (n.ranks.length<=1048576)=true:=decide_eq_true (EQ h).ranks
 have hr:((n.ranks.any YB)=false)=(Xw n.ranks=true):=by
  unfold Xw
  rw[<- Hy,Bool.not_eq_true',eq_iff_iff]
  have:(fun n:Int=> !(decide (0<=n)&&decide (n<=6)))=YB:=by
   funext x
   unfold YB
   by_cases h1:0<=x <;> by_cases h2:x<=6
   ·rw[decide_eq_true h1,decide_eq_true h2,decide_eq_false (by omega : ¬ x<0),decide_eq_false (by omega : ¬ 6<x)];rfl
   ·rw[decide_eq_false h2,decide_eq_true (by omega:6<x)];simp
   ·rw[decide_eq_false h1,decide_eq_true (by omega:x<0)];simp
   ·rw[decide_eq_false h1,decide_eq_true (by omega:x<0)];simp
  rw[this]
 have leaf : ∀ b:Bool,XK n ks.length=b->Zi (XK n ks.length) (.bool b):=fun b h=>ZA h.symm
 refine c6k n ks ⟨Zf (n.name,()) rfl hnm,Zd (n.name,()) rfl (VY (fun h1=>leaf _ ?_) fun h1=>Yg (fun h2=>leaf _ ?_) fun h2=>Yg (fun h3=>leaf _ ?_) fun h3=>Yg (fun h4=>leaf _ ?_) fun h4=> ?_)⟩
 ·have h1:JV n.name.s=false:=h1
  unfold XK;rw[h1];rfl
 ·unfold XK;rw[decide_eq_false (show ¬ 0<=n.num by omega),Bool.and_false];rfl
 ·unfold XK;rw[decide_eq_false (show ¬ n.num<=64 by omega),Bool.and_false];rfl
 ·rw[List.length_map]at h4
  unfold XK;rw[decide_eq_false (show ¬ ks.length<=8 by omega),Bool.and_false];rfl
 have h1:JV n.name.s=true:=h1
 rw[List.length_map]at h4
 have go:(n.ranks.isEmpty||decide (n.ranks.length=ks.length))=true-> ∀ (tl:Prop),(tl ↔ (YF n 4 8&&(!(n.ranks.any YB)))=true)->True:=fun _ _ _=>trivial
 have hcall:(n.ranks.isEmpty||decide (n.ranks.length=ks.length))=true->n.ranks.length<=8->XK n ks.length=(YF n 4 8&&(!(n.ranks.any YB))):=by
  intro h5 h6
  have e:(!(n.ranks.any YB))=Xw n.ranks:=by
   cases hb:n.ranks.any YB with
   | true=>
    cases hk:Xw n.ranks with
    | false=>rfl
    | true=>rw[<- hr,hb]at hk;cases hk
   | false=>rw[hr]at hb;rw[hb];rfl
  unfold XK YF
  rw[h1,decide_eq_true (show 0<=n.num by omega),decide_eq_true (show n.num<=64 by omega),decide_eq_true (show ks.length<=8 by omega),h5,e,decide_eq_true (show(n.ranks.length:Int)<=8 by omega)]
  simp only[Bool.true_and,Bool.and_true]
  rw[show decide ((n.sizes.length:Int)<=4)=decide (n.sizes.length<=4) by exact decide_eq_decide.2 (by omega)]
 have no8 : ¬ n.ranks.length<=8->XK n ks.length=false:=by
  intro h6
  unfold XK
  have:(n.ranks.isEmpty||decide (n.ranks.length=ks.length))=false:=by
   rw[decide_eq_false (by omega),Bool.or_false]
   cases hq:n.ranks with
   | nil=>rw[hq]at h6;exact absurd (Nat.zero_le _) h6
   | cons a l=>rfl
  rw[this];simp
 have no8l : ¬ n.ranks.length<=8->YF n 4 8=false:=by
  intro h6
  unfold YF
  rw[decide_eq_false (show ¬ (n.ranks.length:Int)<=8 by omega)];simp
 have tail:(n.ranks.isEmpty||decide (n.ranks.length=ks.length))=true->(preT (fun(x:Tm×Int×Int×Unit)=>tW (Prod.fst x)) [PV.agg [enc n.kind,enc n.line,enc n.name,enc n.num,enc n.elem,enc n.dims,enc n.data,enc n.sizes,enc n.ranks,enc ks],.int .i64 4,.int .i64 8])=true ∧
   ∃ y:Bool,AV.pv (Zb (fun(x:Tm×Int×Int×Unit)=>YF (Tm.nd (Prod.fst x)) (Prod.fst (Prod.snd x)) (Prod.fst (Prod.snd (Prod.snd x)))) [PV.agg [enc n.kind,enc n.line,enc n.name,enc n.num,enc n.elem,enc n.dims,enc n.data,enc n.sizes,enc n.ranks,enc ks],.int .i64 4,.int .i64 8])=AV.pv (enc y) ∧
    (if y=true then((preT (fun(x:List Int×FnV 105×Unit)=>decide (List.length (Prod.fst x)<=1048576)) [enc n.ranks,.fn 105])=true ∧
     ∃ z:Bool,AV.pv (Zb (fun(x:List Int×FnV 105×Unit)=>List.any (Prod.fst x) YB) [enc n.ranks,.fn 105])=AV.pv (enc z)∧Zi (XK n ks.length) (.bool (!z)))else Zi (XK n ks.length) (.bool false)):=by
  intro h5
  refine⟨Zf (.mk n ks,4,8,()) (Qa n ks 4 8) h,Zd (.mk n ks,4,8,()) (Qa n ks 4 8) (XR (fun h6=>⟨Zf (n.ranks,{},()) rfl hrk,Zd (n.ranks,{},()) rfl (leaf _ ?_)⟩) fun h6=>leaf _ ?_)⟩
  ·have h6:YF n 4 8=true:=h6
   by_cases h8:n.ranks.length<=8
   ·rw[hcall h5 h8,h6,Bool.true_and]
   ·rw[no8l h8]at h6;cases h6
  ·have h6:YF n 4 8=false:=h6
   by_cases h8:n.ranks.length<=8
   ·rw[hcall h5 h8,h6,Bool.false_and]
   ·exact no8 h8
 refine Yg (fun h5=>Gd (fun h6=>leaf _ ?_) fun h6=>tail ?_) fun h5=>tail ?_
 ·have h6 : ¬ n.ranks.length=ks.length:=by simp at h6;omega
  rw[List.length_map]at h5
  unfold XK
  have:(n.ranks.isEmpty||decide (n.ranks.length=ks.length))=false:=by
   rw[decide_eq_false h6,Bool.or_false]
   cases hq:n.ranks with
   | nil=>rw[hq]at h5;exact absurd h5 (by decide)
   | cons a l=>rfl
  rw[this];simp
 ·have h6:n.ranks.length=ks.length:=by simp at h6;omega
  rw[decide_eq_true h6,Bool.or_true]
 ·rw[List.length_map]at h5
  cases hq:n.ranks with
  | nil=>rfl
  | cons a l=>rw[hq]at h5;simp at h5
end Go.Pl
