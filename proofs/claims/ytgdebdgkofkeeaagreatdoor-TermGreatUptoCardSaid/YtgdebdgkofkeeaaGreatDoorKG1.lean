/-
  Texts of mine that belong together (packed by pack.py), for every input: Glob, PlA, PlB, PlC, PlD, PlE, PlF, PlG, PlH, PlI, PlJ, PlK, PlL, PlM, PlNx, PlN, PlV, PlW, PlO, PlP.
-/
import Derived.Below
import Derived.Laws.CopyRow
import Derived.Laws.Concat
import Derived.Laws.AppendOwn
import Derived.Laws.MakeOwn
import Derived.WalkSpells
import Derived.Laws.StructEq
import Derived.ArgAppend
import Derived.Lib.AppendStr
import Derived.Lib.ConvBytes
import Derived.Laws.BytesString
import Derived.Laws.BytesArg
import Derived.Laws.IdiomStrings
import Derived.Orders
set_option linter.unusedVariables false
set_option linter.unusedSimpArgs false
namespace Go.Pl
def AU(cs:Array Value):Prop:= ∃ v,cs[0]? = some v∧(v = .nilIface ∨ ∃ t p,v = .iface t p)
def CW:Array Value:=((List.range 20).map fun i=>Value.int .u64 ((10 ^ i:Nat):Int)).toArray
structure GlobOK (Φ:Nat->Option (Array Value)):Prop where
 syn : ∃ cs,Φ 4=some cs∧AU cs
 rng : ∃ cs,Φ 5=some cs∧AU cs
 pow:Φ 1=some CW
 mx : ∃ cs m,Φ 0=some cs∧cs[0]? = some (Value.int .i64 m)
theorem GlobOK.mono{Φ Φ':Nat->Option (Array Value)}(h:GlobOK Φ)(k : ∀ b cs,Φ b=some cs->Φ' b=some cs):GlobOK Φ':=by
 obtain⟨⟨a,h1,h2⟩,⟨b,h3,h4⟩,h5,d,m,h6,h7⟩:=h
 exact⟨⟨a,k _ _ h1,h2⟩,⟨b,k _ _ h3,h4⟩,k _ _ h5,d,m,k _ _ h6,h7⟩
end Go.Pl
namespace Go.Pl
open Go.RowKit
inductive PV where
 | bool (b:Bool)|int (k:IntKind) (n:Int)|str (s:List UInt8)
 | sl (sz:Nat) (t:Bool) (xs:List PV)
 | agg (xs:List PV)|tup (xs:List PV)
 | nilp|nilmap|nilfn|nili|ifc
 | fn (f:Nat)
 | rptr (xs:List PV)
 | raw (v:Value)
 deriving Inhabited
inductive AV where
 | pv (p:PV)|junk|undef
 | agg (xs:List AV)|tup (xs:List AV)
 | ptr (l o:Nat)|row (l n lo hi:Nat)|eptr (l n i o:Nat)|map (l:Nat)
 | fn (f:Nat) (fst cap:List AV)
 | yld (l:Nat)
 deriving Inhabited
inductive AObj where
 | box (xs:List AV)
 | row (fz:Bool) (ty sz:Nat) (xs:List PV)
 | map (es:List (PV×PV))
 deriving Inhabited
inductive Slot where
 | fresh|dead|obj (o:AObj)
 deriving Inhabited
abbrev Zu:=List Slot
inductive HM (α:Type) where
 | ret (a:α)
 | fail
 | get (l:Nat) (k:AObj->HM α)
 | put (l:Nat) (o:AObj) (k:HM α)
 | new (l:Nat) (o:AObj) (k:HM α)
 | ask (b:Bool) (k:Bool->HM α)
 | req (b:Bool) (k:HM α)
def HM.bind{α β:Type}:HM α->(α->HM β)->HM β
 | .ret a,f=>f a
 | .fail,_=>.fail
 | .get l k,f=>.get l fun o=>(k o).bind f
 | .put l o k,f=>.put l o (k.bind f)
 | .new l o k,f=>.new l o (k.bind f)
 | .ask b k,f=>.ask b fun d=>(k d).bind f
 | .req b k,f=>.req b (k.bind f)
def HM.run{α:Type}:HM α->Zu->Option (α×Zu)
 | .ret a,σ=>some (a,σ)
 | .fail,_=>none
 | .get l k,σ=>match σ[l]? with|some (.obj o)=>(k o).run σ|_=>none
 | .put l o k,σ=>match σ[l]? with|some (.obj _)=>k.run (σ.set l (.obj o))|_=>none
 | .new l o k,σ=>match σ[l]? with|some .fresh=>k.run (σ.set l (.obj o))|_=>none
 | .ask b k,σ=>(k b).run σ
 | .req b k,σ=>match b with|true=>k.run σ|false=>none
def HM.ofOpt{α:Type}:Option α->HM α
 | some a=>.ret a
 | none=>.fail
theorem HM.run_bind{α β:Type}(m:HM α)(f:α->HM β): ∀ σ,(m.bind f).run σ=(m.run σ).bind fun p=>(f p.1).run p.2:=by
 induction m with
 | ret a=>intro σ;rfl
 | fail=>intro σ;rfl
 | get l k ih=>intro σ;simp only[HM.bind,HM.run];split <;> simp_all
 | put l o k ih=>intro σ;simp only[HM.bind,HM.run];split <;> simp_all
 | new l o k ih=>intro σ;simp only[HM.bind,HM.run];split <;> simp_all
 | ask b k ih=>intro σ;simp only[HM.bind,HM.run];exact ih b σ
 | req b k ih=>intro σ;cases b <;> simp_all[HM.bind,HM.run]
def PV.cells:PV->List PV
 | .agg xs=>xs
 | p=>[p]
def AV.cells:AV->List AV
 | .pv (.agg xs)=>xs.map .pv
 | .agg xs=>xs
 | x=>[x]
def flat(xs:List PV):List PV:=xs.flatMap PV.cells
abbrev Zv:=Nat->Option (Array Value)
abbrev Mu:=Nat->Nat->Option (Nat×Nat×Nat)
inductive RP (Φ:Zv):Value->PV->Prop
 | bool (b:Bool):RP Φ (.bool b) (.bool b)
 | int (k:IntKind) (n:Int):RP Φ (.int k n) (.int k n)
 | str (s:ByteArray):RP Φ (.string s) (.str s.data.toList)
 | sl0 (a:Option Addr) (c sz:Nat) (t:Bool) (h:t=true->c=0):RP Φ (.slice a 0 c) (.sl sz t [])
 | sl (b off:Nat) (cs:Array Value) (c sz:Nat) (t:Bool) (xs:List PV) (u:Nat->Value) (hb:Φ b=some cs) (hc:xs.length<=c) (ht:t=true->c=xs.length)
   (hs : ∀ x∈xs,x.cells.length=sz) (hu : ∀ (j:Nat) p,(flat xs)[j]? = some p->cs[off+j]? = some (u j)∧(u j).oneCell'=true) (hr : ∀ (j:Nat) p,(flat xs)[j]? = some p->RP Φ (u j) p) :
   RP Φ (.slice (some ⟨b,off,none⟩) xs.length c) (.sl sz t xs)
 | agg (cs:Array Value) (xs:List PV) (hn:cs.size=xs.length) (ho : ∀ v∈cs,v.oneCell'=true) (h : ∀ (j:Nat) v x,cs[j]? = some v->xs[j]? = some x->RP Φ v x):RP Φ (.agg cs) (.agg xs)
 | tup (cs:Array Value) (xs:List PV) (hn:cs.size=xs.length) (h : ∀ (j:Nat) v x,cs[j]? = some v->xs[j]? = some x->RP Φ v x):RP Φ (.tuple cs) (.tup xs)
 | nilp:RP Φ (.pointer none) .nilp
 | nilmap:RP Φ (.map none) .nilmap
 | nilfn:RP Φ .nilFunc .nilfn
 | nili:RP Φ .nilIface .nili
 | ifc (t:TypeId) (v:Value):RP Φ (.iface t v) .ifc
 | fn (f:Nat):RP Φ (.func (.func f) #[] #[]) (.fn f)
 | rptr (b off:Nat) (cs:Array Value) (xs:List PV) (u:Nat->Value) (hb:Φ b=some cs) (hu : ∀ (j:Nat) p,xs[j]? = some p->cs[off+j]? = some (u j)∧(u j).oneCell'=true) (hr : ∀ (j:Nat) p,xs[j]? = some p->RP Φ (u j) p) :
   RP Φ (.pointer (some ⟨b,off,none⟩)) (.rptr xs)
 | raw (v:Value) (h:v.oneCell'=true):RP Φ v (.raw v)
inductive R (μ:Mu) (Φ:Zv):Value->AV->Prop
 | pv (v:Value) (p:PV) (h:RP Φ v p):R μ Φ v (.pv p)
 | junk (v:Value):R μ Φ v .junk
 | undef:R μ Φ undef .undef
 | agg (cs:Array Value) (xs:List AV) (hn:cs.size=xs.length) (ho : ∀ v∈cs,v.oneCell'=true) (h : ∀ (j:Nat) v x,cs[j]? = some v->xs[j]? = some x->R μ Φ v x):R μ Φ (.agg cs) (.agg xs)
 | tup (cs:Array Value) (xs:List AV) (hn:cs.size=xs.length) (h : ∀ (j:Nat) v x,cs[j]? = some v->xs[j]? = some x->R μ Φ v x):R μ Φ (.tuple cs) (.tup xs)
 | ptr (l o B C S:Nat) (h:μ l 0=some (B,C,S)):R μ Φ (.pointer (some ⟨B,o,none⟩)) (.ptr l o)
 | row (l n lo hi B C S:Nat) (a:Option Addr) (h:μ l n=some (B,C,S)) (h1:lo<=hi) (h2:hi<=n) (h3:n<=C) (ha:lo<hi∨lo=0->a=some ⟨B,lo*S,none⟩):R μ Φ (.slice a (hi - lo) (C - lo)) (.row l n lo hi)
 | eptr (l n i o B C S:Nat) (h:μ l n=some (B,C,S)):R μ Φ (.pointer (some ⟨B,i*S+o,none⟩)) (.eptr l n i o)
 | map (l B C S:Nat) (h:μ l 0=some (B,C,S)):R μ Φ (.map (some B)) (.map l)
 | fn (f:Nat) (cs ds:Array Value) (xs ys:List AV) (hn:cs.size=xs.length) (hm:ds.size=ys.length) (h : ∀ (j:Nat) v x,cs[j]? = some v->xs[j]? = some x->R μ Φ v x) (k : ∀ (j:Nat) v x,ds[j]? = some v->ys[j]? = some x->R μ Φ v x) :
   R μ Φ (.func (.func f) cs ds) (.fn f xs ys)
 | yld (l:Nat):R μ Φ (.func (.yield l) #[] #[]) (.yld l)
def Zv.le(Φ Φ':Zv):Prop:= ∀ b cs,Φ b=some cs->Φ' b=some cs
def Mu.le(μ μ':Mu):Prop:= ∀ l n x,μ l n=some x->μ' l n=some x
theorem Zv.le.refl(Φ:Zv):Φ.le Φ:=fun _ _ h=>h
theorem Zv.le.trans{a b c:Zv}(h:a.le b)(k:b.le c):a.le c:=fun x y e=>k _ _ (h _ _ e)
theorem Mu.le.refl(μ:Mu):μ.le μ:=fun _ _ _ h=>h
theorem Mu.le.trans{a b c:Mu}(h:a.le b)(k:b.le c):a.le c:=fun x y z e=>k _ _ _ (h _ _ _ e)
theorem RP.mono{Φ Φ':Zv}(hΦ:Φ.le Φ'){v:Value}{p:PV}(h:RP Φ v p):RP Φ' v p:=by
 induction h with
 | bool b=>exact .bool b
 | int k n=>exact .int k n
 | str s=>exact .str s
 | sl0 a c sz t h=>exact .sl0 a c sz t h
 | sl b off cs c sz t xs u hb hc ht hs hu hr ih=>exact .sl b off cs c sz t xs u (hΦ _ _ hb) hc ht hs hu ih
 | agg cs xs hn ho h ih=>exact .agg cs xs hn ho ih
 | tup cs xs hn h ih=>exact .tup cs xs hn ih
 | nilp=>exact .nilp
 | nilmap=>exact .nilmap
 | nilfn=>exact .nilfn
 | nili=>exact .nili
 | ifc t v=>exact .ifc t v
 | fn f=>exact .fn f
 | rptr b off cs xs u hb hu hr ih=>exact .rptr b off cs xs u (hΦ _ _ hb) hu ih
 | raw v h=>exact .raw v h
theorem R.mono{μ μ':Mu}{Φ Φ':Zv}(hμ:μ.le μ')(hΦ:Φ.le Φ'){v:Value}{x:AV}(h:R μ Φ v x):R μ' Φ' v x:=by
 induction h with
 | pv v p h=>exact .pv v p (h.mono hΦ)
 | junk v=>exact .junk v
 | undef=>exact .undef
 | agg cs xs hn ho h ih=>exact .agg cs xs hn ho ih
 | tup cs xs hn h ih=>exact .tup cs xs hn ih
 | ptr l o B C S h=>exact .ptr l o B C S (hμ _ _ _ h)
 | row l n lo hi B C S a h h1 h2 h3 ha=>exact .row l n lo hi B C S a (hμ _ _ _ h) h1 h2 h3 ha
 | eptr l n i o B C S h=>exact .eptr l n i o B C S (hμ _ _ _ h)
 | map l B C S h=>exact .map l B C S (hμ _ _ _ h)
 | fn f cs ds xs ys hn hm h k ih1 ih2=>exact .fn f cs ds xs ys hn hm ih1 ih2
 | yld l=>exact .yld l
def RL(μ:Mu)(Φ:Zv)(cs:List Value)(xs:List AV):Prop:=cs.length=xs.length∧ ∀ (j:Nat) v x,cs[j]? = some v->xs[j]? = some x->R μ Φ v x
def Xy(Φ:Zv)(cs:List Value)(xs:List PV):Prop:=cs.length=xs.length∧ ∀ (j:Nat) v x,cs[j]? = some v->xs[j]? = some x->RP Φ v x
def ZW(cs:List Value):Prop:= ∀ v∈cs,v.oneCell'=true
def Su(mes:Array MapEntry)(clock:Nat):Prop:=(∀ x∈mes.toList,x.born<clock)∧(mes.toList.map (·.born)).Nodup
def XT(w:World)(B:Nat)(cs:Array Value)(ty n C:Nat):Prop:= ∃ z,w.heap[B]? = some (.cells cs ty z)∧(z=(0,0)∨ty=5∧cs.size<=z.1)
theorem XT.eq{w w':World}{B:Nat}{cs:Array Value}{ty n C:Nat}(h:XT w B cs ty n C)(e:w'.heap[B]? = w.heap[B]?):XT w' B cs ty n C:=by
 obtain⟨z,h1,h2⟩:=h
 exact⟨z,e.trans h1,h2⟩
theorem XT.of{w:World}{B:Nat}{cs:Array Value}{ty n C:Nat}(h:w.heap[B]? = some (.cells cs ty (0,0))):XT w B cs ty n C:=⟨_,h,.inl rfl⟩
theorem XT.other{w:World}{B:Nat}{cs:Array Value}{ty n C:Nat}(h:XT w B cs ty n C)(ht:ty≠5):w.heap[B]? = some (.cells cs ty (0,0)):=by
 obtain⟨z,h1,h2⟩:=h
 rcases h2 with rfl|⟨h3,_⟩
 ·exact h1
 ·exact absurd h3 ht
def UR(μ:Mu)(Φ:Zv)(w:World)(l:Nat):AObj->Prop
 | .box xs=> ∃ B C S T cs,μ l 0=some (B,C,S)∧w.heap[B]? = some (.cells cs T (0,0))∧RL μ Φ cs.toList xs∧ZW cs.toList∧Φ B=none
 | .row fz ty sz xs=> ∃ B C cs,μ l xs.length=some (B,C,sz)∧(∀ n,xs.length<n->μ l n=none)∧XT w B cs ty xs.length C∧cs.size=C*sz∧xs.length<=C∧C<=maxLen∧(∀ x∈xs,x.cells.length=sz) ∧
   Xy Φ (cs.toList.take (xs.length*sz)) (flat xs)∧ZW (cs.toList.take (xs.length*sz))∧Φ B=(if fz then some cs else none)
 | .map es=> ∃ B C S mes clock,μ l 0=some (B,C,S)∧w.heap[B]? = some (.map mes clock)∧mes.size=es.length ∧
   (∀ (j:Nat) e p,mes[j]? = some e->es[j]? = some p->RP Φ e.key p.1∧RP Φ e.val p.2)∧Φ B=none∧Su mes clock
def blk(μ:Mu)(l:Nat)(o:AObj):Nat:=
 match μ l (match o with | .row _ _ _ xs=>xs.length|_=>0)with
 | some (B,_,_)=>B
 | none=>0
def Ye(Φ:Zv)(w:World):Prop:= ∀ b cs,Φ b=some cs-> ∃ T fz,w.heap[b]? = some (.cells cs T fz)
structure Ctx where
 w0:World
 own:Nat->Prop
 Φ0:Zv
 μ0:Mu
structure Good (c:Ctx) (μ:Mu) (Φ:Zv) (σ:Zu) (w:World):Prop where
 phi:Ye Φ w
 obj : ∀ l o,σ[l]? = some (.obj o)->UR μ Φ w l o
 apart : ∀ l l' o o',l≠l'->σ[l]? = some (.obj o)->σ[l']? = some (.obj o')->blk μ l o≠blk μ l' o'
 fresh : ∀ l n,(σ[l]? = none∨σ[l]? = some .fresh)->μ l n=none
 own : ∀ l o,σ[l]? = some (.obj o)->c.w0.heap.size<=blk μ l o∨c.own (blk μ l o)
 os:w.os=c.w0.os
 tape:w.tape=c.w0.tape
 output:w.output=c.w0.output
 size:c.w0.heap.size<=w.heap.size
 frame : ∀ b,b<c.w0.heap.size-> ¬ c.own b->w.heap[b]? = c.w0.heap[b]?
 Φle:c.Φ0.le Φ
 μle:c.μ0.le μ
 dom : ∀ b cs,Φ b=some cs->c.Φ0 b=some cs∨c.w0.heap.size<=b∨c.own b
 laid:GlobOK c.Φ0
structure St where
 env:List AV
 heap:Zu
def YE(μ:Mu)(Φ:Zv)(tmps:Array Value)(env:List AV):Prop:=RL μ Φ tmps.toList env
def XI(c:Ctx)(st:St)(a:Act)(w:World):Prop:=
 ∃ μ Φ,Good c μ Φ st.heap w∧YE μ Φ a.tmps st.env∧a.defers=[]
end Go.Pl
namespace Go.Pl
open Go.RowKit
inductive IOp where
 | t (n:Nat)|c (p:PV)
 deriving Inhabited
def ev(env:List AV):IOp->AV
 | .t n=>env.getD n .undef
 | .c p=>.pv p
inductive Kd where
 | num|bool|ptr|ifc|agg (ks:List Nat)
 deriving Inhabited,DecidableEq
inductive Sh where
 | int (k:IntKind)|str|bool|sl (sz:Nat)|any
 deriving Inhabited
def PV.asInt:PV->Int | .int _ n=>n|_=>0
def PV.asStr:PV->List UInt8 | .str s=>s|_=>[]
def PV.asBool:PV->Bool | .bool b=>b|_=>false
def PV.asXs:PV->List PV | .sl _ _ xs=>xs|_=>[]
def PV.asT:PV->Bool | .sl _ t _=>t|_=>false
def Sh.fit:Sh->PV->Bool
 | .int k,.int k' _=>k==k'
 | .str,.str _=>true
 | .bool,.bool _=>true
 | .sl sz,.sl sz' _ xs=>sz'==sz||xs.isEmpty
 | .any,_=>true
 | _,_=>false
def Sh.co:Sh->PV->PV
 | .int k,p=>.int k p.asInt
 | .str,p=>.str p.asStr
 | .bool,p=>.bool p.asBool
 | .sl sz,p=>.sl sz p.asT p.asXs
 | .any,p=>p
inductive POp where
 | mv (x:IOp)
 | pick (c a b:IOp)
 | box (n:Nat) (x:IOp)
 | alloc (z:PV)
 | build (z:List PV) (ps:List (Nat×Nat×IOp))
 | bslice (ty sz n:Nat) (z:PV) (ps:List (Nat×IOp))
 | load (ag:Bool) (shs:List Sh) (x:IOp)
 | store (n:Nat) (x v:IOp)
 | nilchk (x:IOp)
 | bin (kd:Kd) (op:BinOp) (x y:IOp)
 | mm (mx:Bool) (x y:IOp)
 | un (op:UnOp) (x:IOp)
 | conv (k:IntKind) (x:IOp)
 | mkfn (f:Nat) (fst cap:List IOp)
 | mkmap
 | mksl (ty sz by_:Nat) (z:PV) (l c:IOp)
 | strslc (x:IOp) (lo hi:Option IOp)
 | slc (sz:Nat) (x:IOp) (lo hi mx:Option IOp)
 | faddr (off:Nat) (x:IOp)
 | field (ag:Bool) (off n:Nat) (x:IOp)
 | iaddr (sz:Nat) (x i:IOp)
 | index (x i:IOp)
 | lookup (st:Bool) (sh:Sh) (z:PV) (ok:Bool) (m k:IOp)
 | mapupd (st:Bool) (m k v:IOp)
 | extract (x:IOp) (i:Nat)
 | len (k:Nat) (x:IOp)
 | strid (x:IOp)
 | append (ty sz by_:Nat) (x y:IOp)
 | appz (ty sz by_:Nat) (z:PV) (x y:IOp)
 | apps (ty sz by_:Nat) (x y:IOp)
 | sbytes (x:IOp)
 | sslice (x:IOp)
 | bstr (x:IOp)
 | indexA (n sz:Nat) (x i:IOp)
 | iaddrA (n sz:Nat) (x i:IOp)
 | call (f:IOp) (xs:List IOp)
 deriving Inhabited
inductive Den where
 | pure (pre:List PV->Bool) (val:List PV->PV)
 | own (pre:List AV->List AObj->Bool) (val:List AV->List AObj->AV×List AObj×List AObj)
abbrev ZA:=Nat->Option Den
mutual
def frz:AV->HM PV
 | .pv p=>.ret p
 | .row l n lo hi=>.get l fun
  | .row _ ty sz xs=>HM.req (xs.length==n) (.put l (.row true ty sz xs) (.ret (.sl sz false ((xs.take hi).drop lo))))
  | _=>.fail
 | .agg xs=>(KR xs).bind fun ps=>.ret (.agg ps)
 | .tup xs=>(KR xs).bind fun ps=>.ret (.tup ps)
 | .fn f [] []=>.ret (.fn f)
 | _=>.fail
def KR:List AV->HM (List PV)
 | []=>.ret []
 | x::xs=>(frz x).bind fun p=>(KR xs).bind fun ps=>.ret (p::ps)
end
def AV.one:AV->Bool
 | .pv (.agg _) | .pv (.tup _) | .agg _ | .tup _ | .junk | .undef=>false
 | _=>true
def PV.one:PV->Bool
 | .agg _ | .tup _=>false
 | _=>true
def AV.cellsOk:AV->Bool
 | .pv (.tup _) | .tup _ | .junk | .undef=>false
 | _=>true
def PV.cellsOk:PV->Bool
 | .tup _=>false
 | _=>true
def a3e:List AV->Option (List PV)
 | []=>some []
 | .pv p::xs=>(a3e xs).map (p:: ·)
 | _::_=>none
def a0y(xs:List AV):AV:=
 match a3e xs with
 | some ps=>.pv (.agg ps)
 | none=>.agg xs
def splice{α:Type}(cs:List α)(o:Nat)(vs:List α):List α:=cs.take o++vs++cs.drop (o+vs.length)
def DX:List AV->List (Nat×Nat×AV)->Option (List AV)
 | cs,[]=>some cs
 | cs,(o,n,v)::r=>if v.cells.length=n∧o+n<=cs.length∧v.cellsOk=true then DX (splice cs o v.cells) r else none
def d3t(op:BinOp)(x y:Int):Option Bool:=
 match op with
 | .eql=>some (x==y) | .neq=>some (x != y) | .lss=>some (x<y) | .leq=>some (x<=y) | .gtr=>some (x>y) | .geq=>some (x ≥ y)
 | _=>none
def d1a(op:BinOp)(k:IntKind)(x y:Int):Option (Bool×PV):=
 match op with
 | .add=>some (true,.int k (k.wrap (x+y)))
 | .sub=>some (true,.int k (k.wrap (x - y)))
 | .mul=>some (true,.int k (k.wrap (x*y)))
 | .quo=>some (y != 0,.int k (k.wrap (x.tdiv y)))
 | .rem=>some (y != 0,.int k (x.tmod y))
 | .and=>some (true,.int k (k.wrap (BitVec.ofInt k.bits x &&& BitVec.ofInt k.bits y).toNat))
 | .or=>some (true,.int k (k.wrap (BitVec.ofInt k.bits x ||| BitVec.ofInt k.bits y).toNat))
 | .xor=>some (true,.int k (k.wrap (BitVec.ofInt k.bits x ^^^ BitVec.ofInt k.bits y).toNat))
 | .andNot=>some (true,.int k (k.wrap (BitVec.ofInt k.bits x &&& ~~~BitVec.ofInt k.bits y).toNat))
 | op=>(d3t op x y).map fun b=>(true,.bool b)
def EM(op:BinOp)(k:IntKind)(x y:Int):Option (Bool×PV):=
 match op with
 | .shl=>some (decide (0<=y),.int k (k.wrap (x*2 ^ (min y.toNat k.bits))))
 | .shr=>some (decide (0<=y),.int k (x.fdiv (2 ^ (min y.toNat k.bits))))
 | _=>none
def c9f(op:BinOp)(x y:List UInt8):Option (Bool×PV):=
 match op with
 | .add=>some (decide (x.length+y.length<=1099511627776),.str (x++y))
 | .eql=>some (true,.bool (x==y))
 | .neq=>some (true,.bool (!(x==y)))
 | .lss=>some (true,.bool (Op.bytesLess x y))
 | .leq=>some (true,.bool (Op.bytesLess x y||x==y))
 | .gtr=>some (true,.bool (!(Op.bytesLess x y||x==y)))
 | .geq=>some (true,.bool (!(Op.bytesLess x y)))
 | _=>none
def eqB(op:BinOp)(r:Bool):Option (Bool×PV):=
 match op with | .eql=>some (true,.bool r) | .neq=>some (true,.bool (!r))|_=>none
def a0e:BinOp->Bool
 | .shl | .shr=>true
 | _=>false
def Jl:IntKind->IntKind->Bool
 | .i8,.i8 | .i16,.i16 | .i32,.i32 | .i64,.i64 | .u8,.u8 | .u16,.u16 | .u32,.u32 | .u64,.u64=>true
 | _,_=>false
def QS:PV->Bool
 | .nili=>true
 | _=>false
def Nw:PV->Bool
 | .nili | .ifc=>true
 | _=>false
def Sg:List Nat->List PV->List PV->Option Bool
 | [],[],[]=>some true
 | 0::ks,.int k a::ps,.int k' b::qs=>match Jl k k' with|true=>(Sg ks ps qs).map fun r=>a==b&&r|false=>none
 | 1::ks,.str a::ps,.str b::qs=>(Sg ks ps qs).map fun r=>a==b&&r
 | 2::ks,.bool a::ps,.bool b::qs=>(Sg ks ps qs).map fun r=>a==b&&r
 | _,_,_=>none
def d5y(kd:Kd)(op:BinOp)(x y:AV):Option (Bool×PV):=
 match kd,x,y with
 | .num,.pv (.int k a),.pv (.int k' b)=>
  match a0e op with
  | true=>EM op k a b
  | false=>match Jl k k' with|true=>d1a op k a b|false=>none
 | .num,.pv (.str a),.pv (.str b)=>c9f op a b
 | .bool,.pv (.bool a),.pv (.bool b)=>eqB op (a==b)
 | .ptr,.pv .nilp,.pv .nilp=>eqB op true
 | .ptr,.ptr _ _,.pv .nilp=>eqB op false
 | .ptr,.pv (.rptr _),.pv .nilp=>eqB op false
 | .ifc,.pv p,.pv .nili=>(eqB op (QS p)).map fun q=>(Nw p&&q.1,q.2)
 | .agg ks,.pv (.agg ps),.pv (.agg qs)=>(Sg ks ps qs).bind fun r=>eqB op r
 | _,_,_=>none
def unB(op:UnOp)(x:PV):Option PV:=
 match op,x with
 | .not,.bool b=>some (.bool (!b))
 | .neg,.int k n=>some (.int k (k.wrap (-n)))
 | _,_=>none
def Sl(env:List AV)(d:Nat):Option IOp->Option (Bool×Nat)
 | none=>some (true,d)
 | some x=>match ev env x with
  | .pv (.int _ i)=>some (decide (0<=i),i.toNat)
  | _=>none
def PV.isKey(st:Bool):PV->Bool
 | .str _=>st
 | .int _ _=> !st
 | _=>false
def QW:PV->PV->Option Bool
 | .int k a,.int k' b=>if k=k' then some (a==b)else none
 | .str a,.str b=>some (a==b)
 | _,_=>none
def GN(k:PV):List (PV×PV)->Option (Option PV)
 | []=>some none
 | (a,v)::r=>match QW k a with
  | some true=>some (some v)
  | some false=>GN k r
  | none=>none
def VY(k:PV)(es:List (PV×PV)):Bool:=(GN k es).isSome
def Uq(k:PV)(es:List (PV×PV)):Bool:=match GN k es with|some (some _)=>true|_=>false
def YN(k z:PV)(es:List (PV×PV)):PV:=match GN k es with|some (some v)=>v|_=>z
def upd(k v:PV):List (PV×PV)->Option (List (PV×PV))
 | []=>some [(k,v)]
 | (a,u)::r=>match QW k a with
  | some true=>some ((k,v)::r)
  | some false=>(upd k v r).map ((a,u):: ·)
  | none=>none
def Uh(k v:PV)(es:List (PV×PV)):Bool:=(upd k v es).isSome
def WA(k v:PV)(es:List (PV×PV)):List (PV×PV):=(upd k v es).getD []
def a7m:PV->Bool
 | .int .u8 n=>decide (0<=n)&&decide (n<256)
 | _=>false
def Zz(s:List UInt8):List PV:=s.map fun c=>.int .u8 c.toNat
def Va(xs:List PV):List UInt8:=xs.map fun p=>UInt8.ofNat p.asInt.toNat
def HZ(ag:Bool)(n:Nat)(cs:List AV)(o:Nat):Option AV:=
 match ag with
 | true=>if o+n<=cs.length then some (a0y ((cs.drop o).take n))else none
 | false=>cs[o]?
def LW(ps:List PV):Nat->List Sh->List PV
 | _,[]=>[]
 | o,sh::r=>sh.co (ps.getD o default)::LW ps (o+1) r
def Yg(ps:List PV):Nat->List Sh->Bool
 | _,[]=>true
 | o,sh::r=>sh.fit (ps.getD o default)&&Yg ps (o+1) r
def a0w(ag:Bool)(shs:List Sh)(ps:List PV)(o:Nat):HM AV:=
 .req (decide (o+shs.length<=ps.length)&&Yg ps o shs)
  (match ag with
  | true=>.ret (.pv (.agg (LW ps o shs)))
  | false=>match shs with
   | [sh]=>.ret (.pv (sh.co (ps.getD o default)))
   | _=>.fail)
def PV.withCells(x:PV)(cs:List PV):PV:=
 match x with
 | .agg _=>.agg cs
 | x=>cs.headD x
mutual
def AV.refs:AV->List Nat
 | .ptr l _ | .row l _ _ _ | .eptr l _ _ _ | .map l=>[l]
 | .agg xs | .tup xs=>K5 xs
 | .fn _ xs ys=>K5 xs++K5 ys
 | _=>[]
def K5:List AV->List Nat
 | []=>[]
 | x::xs=>x.refs++K5 xs
end
mutual
def AV.ren(ρ:Nat->Option Nat):AV->Option AV
 | .pv p=>some (.pv p) | .junk=>some .junk | .undef=>some .undef
 | .ptr l o=>(ρ l).map (.ptr · o)
 | .row l n lo hi=>(ρ l).map (.row · n lo hi)
 | .eptr l n i o=>(ρ l).map (.eptr · n i o)
 | .map l=>(ρ l).map .map
 | .agg xs=>(GZ ρ xs).map .agg
 | .tup xs=>(GZ ρ xs).map .tup
 | .fn f xs ys=>(GZ ρ xs).bind fun xs'=>(GZ ρ ys).map fun ys'=>.fn f xs' ys'
 | .yld l=>some (.yld l)
def GZ(ρ:Nat->Option Nat):List AV->Option (List AV)
 | []=>some []
 | x::xs=>(x.ren ρ).bind fun y=>(GZ ρ xs).map (y:: ·)
end
def AObj.refs:AObj->List Nat
 | .box xs=>K5 xs
 | _=>[]
def AObj.ren(ρ:Nat->Option Nat):AObj->Option AObj
 | .box xs=>(GZ ρ xs).map .box
 | o=>some o
def QY(ρ:Nat->Option Nat):List AObj->Option (List AObj)
 | []=>some []
 | o::os=>(o.ren ρ).bind fun o'=>(QY ρ os).map (o':: ·)
def Gs{α:Type}:Nat->List Nat->List (Nat×AObj)->(List (Nat×AObj)->HM α)->HM α
 | 0,_,_,_=>.fail
 | _+1,[],acc,k=>k acc
 | n+1,l::ls,acc,k=>if (acc.map (·.1)).contains l then Gs n ls acc k else .get l fun o=>Gs n (ls++o.refs) (acc++[(l,o)]) k
def Pg{α:Type}:List (Nat×AObj)->HM α->HM α
 | [],k=>k
 | (l,o)::r,k=>.put l o (Pg r k)
def Nn{α:Type}:Nat->List AObj->HM α->HM α
 | _,[],k=>k
 | L,o::r,k=>.new L o (Nn (L+1) r k)
def fwd(ls:List Nat)(l:Nat):Option Nat:=ls.idxOf? l
def bwd(ls:List Nat)(L:Nat)(i:Nat):Option Nat:=if i<ls.length then ls[i]? else some (L+(i - ls.length))
def Ps(L:Nat)(pre:List AV->List AObj->Bool)(val:List AV->List AObj->AV×List AObj×List AObj)(args:List AV):HM AV:=
 Gs 64 (K5 args) [] fun acc=>
  let ls:=acc.map (·.1)
  match GZ (fwd ls) args,QY (fwd ls) (acc.map (·.2))with
  | some args',some Yv=>.req (pre args' Yv) (match val args' Yv with
   | (x,os,ext)=>match x.ren (bwd ls L),QY (bwd ls L) os,QY (bwd ls L) ext with
    | some x',some os',some ext'=>if os'.length=ls.length then Pg (ls.zip os') (Nn L ext' (.ret x'))else .fail
    | _,_,_=>.fail)
  | _,_=>.fail
def a3o(T:ZA)(L:Nat)(g:Nat)(args:List AV):HM AV:=
 match T g with
 | some (.pure pre val)=>(KR args).bind fun ps=>.req (pre ps) (.ret (.pv (val ps)))
 | some (.own pre val)=>Ps L pre val args
 | none=>.fail
def Q0(L ty sz by_:Nat)(x:AV)(ys:List PV):HM AV:=
 match x with
 | .pv (.sl sz' t xs)=>.req t (.ask ys.isEmpty fun
  | true=>.ret x
  | false=>.req ((xs.isEmpty||sz'==sz)&&decide ((xs.length+ys.length)*by_<=1099511627776)&&decide (xs.length+ys.length<=1099511627776))
    (.new L (.row false ty sz (xs++ys)) (.ret (.row L (xs.length+ys.length) 0 (xs.length+ys.length)))))
 | .row l n 0 hi=>.get l fun
  | .row false ty' sz' xs=>
   if ty'=ty∧sz'=sz then
    .req (xs.length==n&&hi==n&&decide ((n+ys.length)*by_<=1099511627776)&&decide (n+ys.length<=1099511627776))
     (.put l (.row false ty sz (xs++ys)) (.ret (.row l (n+ys.length) 0 (n+ys.length))))
   else .fail
  | _=>.fail
 | _=>.fail
def YF(L:Nat)(env:List AV):POp->HM AV
 | .mv x=>.ret (ev env x)
 | .pick c a b=>match ev env c with
  | .pv (.bool d)=>.ask d fun
   | true=>.ret (ev env a)
   | false=>.ret (ev env b)
  | _=>.fail
 | .box n x=>if (ev env x).cells.length=n∧(ev env x).cellsOk=true then .new L (.box (ev env x).cells) (.ret (.ptr L 0))else .fail
 | .alloc z=>.new L (.box (AV.pv z).cells) (.ret (.ptr L 0))
 | .build z ps=>match DX (z.map .pv) (ps.map fun(o,n,x)=>(o,n,ev env x))with
  | some cs=>.ret (a0y cs)
  | none=>.fail
 | .bslice ty sz n z ps=>
  if ps.map (·.1)=List.range n then
   (KR (ps.map fun(_,x)=>ev env x)).bind fun xs=>
    .req (xs.all (fun x=>x.cells.length==sz&&x.cellsOk)) (.new L (.row false ty sz xs) (.ret (.row L n 0 n)))
  else .fail
 | .load ag shs x=>match ev env x with
  | .pv (.rptr ps)=>a0w ag shs ps 0
  | .ptr l o=>.get l fun
   | .box cs=>.ofOpt (HZ ag shs.length cs o)
   | _=>.fail
  | .eptr l m i o=>.get l fun
   | .row _ _ _ xs=>.req (xs.length==m&&decide (i<xs.length)) (a0w ag shs (xs.getD i default).cells o)
   | _=>.fail
  | _=>.fail
 | .store n x v=>match ev env x with
  | .ptr l o=>.get l fun
   | .box cs=>if (ev env v).cells.length=n∧o+n<=cs.length∧(ev env v).cellsOk=true then .put l (.box (splice cs o (ev env v).cells)) (.ret .undef)else .fail
   | _=>.fail
  | .eptr l m i o=>(frz (ev env v)).bind fun p=>.get l fun
   | .row false ty sz xs=>.req (xs.length==m&&decide (i<xs.length)&&p.cells.length==n&&decide (o+n<=(xs.getD i default).cells.length)&&p.cellsOk)
     (.put l (.row false ty sz (xs.set i ((xs.getD i default).withCells (splice (xs.getD i default).cells o p.cells)))) (.ret .undef))
   | _=>.fail
  | _=>.fail
 | .nilchk x=>match ev env x with
  | .ptr l o=>.ret (.ptr l o)
  | .pv (.rptr ps)=>.ret (.pv (.rptr ps))
  | .eptr l n i o=>.ret (.eptr l n i o)
  | .fn f xs ys=>.ret (.fn f xs ys)
  | .pv (.fn f)=>.ret (.pv (.fn f))
  | _=>.fail
 | .bin kd op x y=>match d5y kd op (ev env x) (ev env y)with
  | some (r,v)=>.req r (.ret (.pv v))
  | none=>.fail
 | .mm mx x y=>match ev env x,ev env y with
  | .pv (.int k a),.pv (.int k' b)=>match Jl k k' with|true=>.ret (.pv (.int k (if mx then(if b>a then b else a)else(if b<a then b else a))))|false=>.fail
  | _,_=>.fail
 | .un op x=>match ev env x with
  | .pv p=>.ofOpt ((unB op p).map .pv)
  | _=>.fail
 | .conv k x=>match ev env x with
  | .pv (.int _ n)=>.ret (.pv (.int k (k.wrap n)))
  | _=>.fail
 | .mkfn f xs ys=>match xs,ys with
  | [],[]=>.ret (.pv (.fn f))
  | xs,ys=>.ret (.fn f (xs.map (ev env)) (ys.map (ev env)))
 | .mkmap=>.new L (.map []) (.ret (.map L))
 | .mksl ty sz by_ z l c=>match ev env l,ev env c with
  | .pv (.int .i64 n),.pv (.int .i64 m)=>
   .req (decide (0<=n)&&n==m&&decide (n*by_<=1099511627776)&&decide (n<=1099511627776)) (.new L (.row false ty sz (List.replicate n.toNat z)) (.ret (.row L n.toNat 0 n.toNat)))
  | _,_=>.fail
 | .strslc x lo hi=>match ev env x with
  | .pv (.str s)=>match Sl env 0 lo,Sl env s.length hi with
   | some (r1,l),some (r2,h)=>.req (r1&&r2&&decide (l<=h)&&decide (h<=s.length)) (.ret (.pv (.str ((s.take h).drop l))))
   | _,_=>.fail
  | _=>.fail
 | .slc sz x lo hi mx=>match ev env x with
  | .pv (.sl sz' t xs)=>match Sl env 0 lo,Sl env xs.length hi with
   | some (r1,l),some (r2,h)=>match mx with
     | none=>.req (r1&&r2&&(xs.isEmpty||sz'==sz)&&decide (l<=h)&&decide (h<=xs.length)) (.ret (.pv (.sl sz' (t&&decide (h=xs.length)) ((xs.take h).drop l))))
     | some m=>match hi,Sl env xs.length (some m)with
      | some _,some (r3,m)=>.req (r1&&r2&&r3&&(xs.isEmpty||sz'==sz)&&decide (l<=h)&&decide (h<=m)&&decide (m<=xs.length)) (.ret (.pv (.sl sz' (decide (h=m)) ((xs.take h).drop l))))
      | _,_=>.fail
   | _,_=>.fail
  | .row r n lo' hi'=>match Sl env 0 lo,Sl env (hi' - lo') hi,mx with
   | some (r1,l),some (r2,h),none=>.get r fun
     | .row _ _ sz' xs=>if sz'=sz then .req (r1&&r2&&decide (l<=h)&&decide (lo'+h<=hi')&&xs.length==n) (.ret (.row r n (lo'+l) (lo'+h)))else .fail
     | _=>.fail
   | _,_,_=>.fail
  | _=>.fail
 | .faddr off x=>match ev env x with
  | .ptr l o=>.ret (.ptr l (o+off))
  | .pv (.rptr ps)=>.ret (.pv (.rptr (ps.drop off)))
  | .eptr l n i o=>.ret (.eptr l n i (o+off))
  | _=>.fail
 | .field ag off n x=>match ev env x with
  | .pv (.agg ps)=>.ofOpt (HZ ag n (ps.map .pv) off)
  | .agg xs=>.ofOpt (HZ ag n xs off)
  | _=>.fail
 | .iaddr sz x i=>match ev env x,ev env i with
  | .pv (.sl sz' _ xs),.pv (.int _ i)=>.req (decide (0<=i)&&decide (i.toNat<xs.length)&&sz'==sz) (.ret (.pv (.rptr (xs.getD i.toNat default).cells)))
  | .row l n lo hi,.pv (.int _ i)=>.get l fun
    | .row _ _ sz' xs=>if sz'=sz then .req (decide (0<=i)&&decide (lo+i.toNat<hi)&&xs.length==n) (.ret (.eptr l n (lo+i.toNat) 0))else .fail
    | _=>.fail
  | _,_=>.fail
 | .index x i=>match ev env x,ev env i with
  | .pv (.str s),.pv (.int _ i)=>.req (decide (0<=i)&&decide (i.toNat<s.length)) (.ret (.pv (.int .u8 (s.getD i.toNat 0).toNat)))
  | _,_=>.fail
 | .indexA n sz x i=>match ev env x,ev env i with
  | .pv (.agg ps),.pv (.int _ i)=>match decide (2<=sz)with
   | true=>.req (decide (0<=i)&&decide (i.toNat<n)) (.ofOpt (HZ true sz (ps.map .pv) (i.toNat*sz)))
   | false=>.req (decide (0<=i)&&decide (i.toNat<ps.length)&&decide (i.toNat<n)&&sz==1) (.ret (.pv (ps.getD i.toNat default)))
  | _,_=>.fail
 | .iaddrA n sz x i=>match ev env x,ev env i with
  | .ptr l o,.pv (.int _ i)=>.req (decide (0<=i)&&decide (i.toNat<n)) (.ret (.ptr l (o+i.toNat*sz)))
  | _,_=>.fail
 | .sbytes x=>match ev env x with
  | .pv (.str s)=>.ret (.pv (.sl 1 false (Zz s)))
  | _=>.fail
 | .sslice x=>match ev env x with
  | .row l n 0 hi=>.get l fun
   | .row false ty _ xs=>.req (xs.length==n&&ty==5) (.ret (.row l n 0 hi))
   | _=>.fail
  | _=>.fail
 | .bstr x=>match ev env x with
  | .pv (.sl sz _ xs)=>.req (xs.all a7m&&(xs.isEmpty||sz==1)) (.ret (.pv (.str (Va xs))))
  | .row l n lo hi=>.get l fun
   | .row _ _ sz xs=>.req (xs.length==n&&xs.all a7m&&sz==1) (.ret (.pv (.str (Va ((xs.take hi).drop lo)))))
   | _=>.fail
  | _=>.fail
 | .lookup st sh z ok m k=>match ev env k with
  | .pv k=>if k.isKey st then match ev env m with
    | .map l=>.get l fun
     | .map es=>.req (VY k es&&sh.fit (YN k z es)) (.ret (.pv (if ok then .tup [sh.co (YN k z es),.bool (Uq k es)]else sh.co (YN k z es))))
     | _=>.fail
    | _=>.fail
   else .fail
  | _=>.fail
 | .mapupd st m k v=>match ev env k with
  | .pv k=>if k.isKey st then match ev env m with
    | .map l=>(frz (ev env v)).bind fun v=>.get l fun
     | .map es=>.req (Uh k v es) (.put l (.map (WA k v es)) (.ret .undef))
     | _=>.fail
    | _=>.fail
   else .fail
  | _=>.fail
 | .extract x i=>match ev env x with
  | .pv (.tup ps)=>.ofOpt ((ps[i]?).map .pv)
  | .tup xs=>.ofOpt xs[i]?
  | _=>.fail
 | .len k x=>match k,ev env x with
  | 2,.map l=>.get l fun
   | .map es=>.ret (.pv (.int .i64 es.length))
   | _=>.fail
  | 2,.pv .nilmap=>.ret (.pv (.int .i64 0))
  | 0,.pv (.str s)=>.ret (.pv (.int .i64 s.length))
  | 1,.pv (.sl _ _ xs)=>.ret (.pv (.int .i64 xs.length))
  | 1,.pv (.raw (.slice _ n _))=>.ret (.pv (.int .i64 n))
  | 1,.row _ _ lo hi=>.ret (.pv (.int .i64 (hi - lo:Nat)))
  | _,_=>.fail
 | .strid x=>match ev env x with
  | .pv (.str s)=>.ret (.pv (.str s))
  | _=>.fail
 | .append ty sz by_ x y=>match ev env y with
  | .pv (.sl sz' _ ys)=>.req (ys.isEmpty||sz'==sz) (Q0 L ty sz by_ (ev env x) ys)
  | .row l n lo hi=>.get l fun
   | .row _ _ sz' ys=>if sz'=sz then .req (ys.length==n) (Q0 L ty sz by_ (ev env x) ((ys.take hi).drop lo))else .fail
   | _=>.fail
  | _=>.fail
 | .apps ty sz by_ x y=>match ev env y with
  | .pv (.str s)=>match ev env x with
   | .row l m 0 hi=>Q0 L ty sz by_ (.row l m 0 hi) (Zz s)
   | _=>.fail
  | _=>.fail
 | .appz ty sz by_ z x y=>match ev env y with
  | .pv (.int .i64 n)=>.req (decide (0<=n)&&decide (n<=1099511627776)) (match ev env x with
   | .row l m 0 hi=>Q0 L ty sz by_ (.row l m 0 hi) (List.replicate n.toNat z)
   | _=>.fail)
  | _=>.fail
 | .call _ _=>.fail
def Y7(T:ZA)(L:Nat)(env:List AV)(p:POp):HM AV:=
 match p with
 | .call f xs=>match ev env f with
  | .pv (.fn g)=>a3o T L g (xs.map (ev env))
  | .fn g fst cap=>a3o T L g (fst++xs.map (ev env)++cap)
  | _=>.fail
 | p=>YF L env p
end Go.Pl
namespace Go.Pl
open Go.RowKit
theorem RL.mono{μ μ':Mu}{Φ Φ':Zv}(hμ:μ.le μ')(hΦ:Φ.le Φ'){cs:List Value}{xs:List AV}(h:RL μ Φ cs xs):RL μ' Φ' cs xs:=
 ⟨h.1,fun j v x a b=>(h.2 j v x a b).mono hμ hΦ⟩
theorem Xy.mono{Φ Φ':Zv}(hΦ:Φ.le Φ'){cs:List Value}{xs:List PV}(h:Xy Φ cs xs):Xy Φ' cs xs:=
 ⟨h.1,fun j v x a b=>(h.2 j v x a b).mono hΦ⟩
theorem UR.blk_heap{μ:Mu}{Φ:Zv}{w:World}{l:Nat}{o:AObj}(h:UR μ Φ w l o):(∃ ob,w.heap[blk μ l o]? = some ob):=by
 cases o with
 | box xs=>obtain⟨B,C,S,T,cs,h1,h2,_⟩:=h;exact⟨_,by simpa [blk,h1]using h2⟩
 | row fz ty sz xs=>obtain⟨B,C,cs,h1,_,⟨z,h2,_⟩,_⟩:=h;exact⟨_,by simpa [blk,h1]using h2⟩
 | map es=>obtain⟨B,C,S,m,k,h1,h2,_⟩:=h;exact⟨_,by simpa [blk,h1]using h2⟩
theorem UR.blk_lt{μ:Mu}{Φ:Zv}{w:World}{l:Nat}{o:AObj}(h:UR μ Φ w l o):blk μ l o<w.heap.size:=by
 obtain⟨ob,h⟩:=h.blk_heap
 exact(Array.getElem?_eq_some_iff.1 h).1
def AObj.live:AObj->Bool
 | .row fz _ _ _=> !fz
 | _=>true
theorem UR.phi_none{μ:Mu}{Φ:Zv}{w:World}{l:Nat}{o:AObj}(h:UR μ Φ w l o)(hl:o.live=true):Φ (blk μ l o)=none:=by
 cases o with
 | box xs=>obtain⟨B,C,S,T,cs,h1,_,_,_,h2⟩:=h;simpa [blk,h1]using h2
 | row fz ty sz xs=>
  obtain⟨B,C,cs,h1,_,_,_,_,_,_,_,_,h2⟩:=h
  simp[AObj.live]at hl
  subst hl
  simpa [blk,h1]using h2
 | map es=>obtain⟨B,C,S,m,k,h1,_,_,_,h2,_⟩:=h;simpa [blk,h1]using h2
theorem UR.keep{μ μ':Mu}{Φ Φ':Zv}{w w':World}{l:Nat}{o:AObj}(h:UR μ Φ w l o)(hμ:μ.le μ')(hl : ∀ n,μ' l n=μ l n)(hΦ:Φ.le Φ')
  (hb:Φ' (blk μ l o)=Φ (blk μ l o)) (hw:w'.heap[blk μ l o]? = w.heap[blk μ l o]?):UR μ' Φ' w' l o∧blk μ' l o=blk μ l o:=by
 refine⟨?_,by unfold blk;rw[hl]⟩
 cases o with
 | box xs=>
  obtain⟨B,C,S,T,cs,h1,h2,h3,h4,h5⟩:=h
  simp only[blk,h1]at hb hw
  exact⟨B,C,S,T,cs,by rw[hl];exact h1,by rw[hw];exact h2,h3.mono hμ hΦ,h4,by rw[hb];exact h5⟩
 | row fz ty sz xs=>
  obtain⟨B,C,cs,h1,h2,h3,h4,h5,h6,h7,h8,h9,h10⟩:=h
  simp only[blk,h1]at hb hw
  exact⟨B,C,cs,by rw[hl];exact h1,fun n hn=>by rw[hl];exact h2 n hn,h3.eq hw,h4,h5,h6,h7,h8.mono hΦ,h9,by rw[hb];exact h10⟩
 | map es=>
  obtain⟨B,C,S,m,k,h1,h2,h3,h4,h5⟩:=h
  simp only[blk,h1]at hb hw
  exact⟨B,C,S,m,k,by rw[hl];exact h1,by rw[hw];exact h2,h3,fun j e p a b=>⟨(h4 j e p a b).1.mono hΦ,(h4 j e p a b).2.mono hΦ⟩,by rw[hb];exact h5.1,h5.2⟩
theorem Zx{σ:Zu}{l l':Nat}{s:Slot}(h:l'≠l):(σ.set l s)[l']? = σ[l']? :=by
 rw[List.getElem?_set]
 simp[Ne.symm h]
theorem ZB{σ:Zu}{l:Nat}{s u:Slot}(h:σ[l]? = some u):(σ.set l s)[l]? = some s:=by
 have:=(List.getElem?_eq_some_iff.1 h).1
 rw[List.getElem?_set]
 simp[this]
theorem Good.put{c:Ctx}{μ μ':Mu}{Φ:Zv}{σ:Zu}{w w':World}{l:Nat}{o o':AObj}(h:Good c μ Φ σ w)(hl:σ[l]? = some (.obj o))(hlive:o.live=true)
  (hμ:μ.le μ') (hne : ∀ l',l'≠l-> ∀ n,μ' l' n=μ l' n) (hos:w'.os=w.os) (htape:w'.tape=w.tape) (hout:w'.output=w.output) (hsize:w.heap.size<=w'.heap.size)
  (hw : ∀ b,b<w.heap.size->b≠blk μ l o->w'.heap[b]? = w.heap[b]?) (ho':UR μ' Φ w' l o') (hb:blk μ' l o'=blk μ l o∨w.heap.size<=blk μ' l o') :
  Good c μ' Φ (σ.set l (.obj o')) w':=by
 have hobj:=h.obj l o hl
 have hother : ∀ l' x,l'≠l->σ[l']? = some (.obj x)->UR μ' Φ w' l' x∧blk μ' l' x=blk μ l' x:=by
  intro l' x hll hx
  have hox:=h.obj l' x hx
  exact hox.keep hμ (hne l' hll) (Zv.le.refl _) rfl (hw _ hox.blk_lt (h.apart l' l x o hll hx hl))
 constructor
 ·intro b cs hcs
  have hbne:b≠blk μ l o:=by
   rintro rfl
   rw[hobj.phi_none hlive]at hcs
   cases hcs
  obtain⟨T,fz,hh⟩:=h.phi b cs hcs
  have hlt:=(Array.getElem?_eq_some_iff.1 hh).1
  exact⟨T,fz,by rw[hw b hlt hbne];exact hh⟩
 ·intro l' x hx
  by_cases hll:l'=l
  ·subst hll
   rw[ZB hl]at hx
   cases hx
   exact ho'
  ·rw[Zx hll]at hx
   exact(hother l' x hll hx).1
 ·have key : ∀ l' x,l'≠l->σ[l']? = some (.obj x)->blk μ' l' x≠blk μ' l o':=by
   intro l' x hll hx e
   rw[(hother l' x hll hx).2]at e
   rcases hb with hb|hb
   ·rw[hb]at e
    exact h.apart l' l x o hll hx hl e
   ·have:=(h.obj l' x hx).blk_lt
    omega
  intro l1 l2 o1 o2 hll h1 h2
  by_cases e1:l1=l
  ·subst e1
   rw[ZB hl]at h1
   cases h1
   rw[Zx (Ne.symm hll)]at h2
   exact Ne.symm (key l2 o2 (Ne.symm hll) h2)
  ·rw[Zx e1]at h1
   by_cases e2:l2=l
   ·subst e2
    rw[ZB hl]at h2
    cases h2
    exact key l1 o1 e1 h1
   ·rw[Zx e2]at h2
    rw[(hother l1 o1 e1 h1).2,(hother l2 o2 e2 h2).2]
    exact h.apart l1 l2 o1 o2 hll h1 h2
 ·intro l' n hf
  by_cases e1:l'=l
  ·subst e1
   rw[ZB hl]at hf
   rcases hf with hf|hf <;> cases hf
  ·rw[Zx e1]at hf
   rw[hne l' e1]
   exact h.fresh l' n hf
 ·intro l' x hx
  by_cases e1:l'=l
  ·subst e1
   rw[ZB hl]at hx
   cases hx
   rcases hb with hb|hb
   ·rw[hb];exact h.own _ o hl
   ·exact .inl (Nat.le_trans h.size hb)
  ·rw[Zx e1]at hx
   rw[(hother l' x e1 hx).2]
   exact h.own l' x hx
 ·exact hos.trans h.os
 ·exact htape.trans h.tape
 ·exact hout.trans h.output
 ·exact Nat.le_trans h.size hsize
 ·intro b hb1 hb2
  have hbne:b≠blk μ l o:=by
   rintro rfl
   rcases h.own l o hl with h1|h1
   ·omega
   ·exact hb2 h1
  rw[hw b (Nat.lt_of_lt_of_le hb1 h.size) hbne]
  exact h.frame b hb1 hb2
 ·exact h.Φle
 ·exact h.μle.trans hμ
 ·exact h.dom
 ·exact h.laid
def Mu.add(μ:Mu)(l v:Nat)(x:Nat×Nat×Nat):Mu:=fun l' n=>if l'=l∧n=v then some x else μ l' n
theorem Mu.add_same(μ:Mu)(l v:Nat)(x:Nat×Nat×Nat):μ.add l v x l v=some x:=by simp[Mu.add]
theorem Mu.add_ne(μ:Mu)(l v:Nat)(x:Nat×Nat×Nat)(l' n:Nat)(h:l'≠l):μ.add l v x l' n=μ l' n:=by simp[Mu.add,h]
theorem Mu.add_ver(μ:Mu)(l v:Nat)(x:Nat×Nat×Nat)(n:Nat)(h:n≠v):μ.add l v x l n=μ l n:=by simp[Mu.add,h]
theorem Mu.le_add(μ:Mu)(l v:Nat)(x:Nat×Nat×Nat)(h:μ l v=none∨μ l v=some x):μ.le (μ.add l v x):=by
 intro l' n y hy
 unfold Mu.add
 split
 ·rename_i e
  obtain⟨rfl,rfl⟩:=e
  rcases h with h|h <;> rw[h]at hy
  ·cases hy
  ·exact hy
 ·exact hy
theorem Xq(w:World)(o:Obj)(b:Nat)(h:b<w.heap.size):(w.alloc o).heap[b]? = w.heap[b]? :=Below.heap_alloc w o b h
theorem Xp(w:World)(o:Obj):(w.alloc o).heap[w.heap.size]? = some o:=by
 show(w.heap.push o)[w.heap.size]? = _
 simp
theorem Good.new{c:Ctx}{μ μ':Mu}{Φ:Zv}{σ:Zu}{w w':World}{l:Nat}{o:AObj}(h:Good c μ Φ σ w)(hl:σ[l]? = some .fresh)
  (hμ:μ.le μ') (hne : ∀ l',l'≠l-> ∀ n,μ' l' n=μ l' n) (hos:w'.os=w.os) (htape:w'.tape=w.tape) (hout:w'.output=w.output) (hsize:w.heap.size<=w'.heap.size)
  (hw : ∀ b,b<w.heap.size->w'.heap[b]? = w.heap[b]?) (ho:UR μ' Φ w' l o) (hb:w.heap.size<=blk μ' l o) :
  Good c μ' Φ (σ.set l (.obj o)) w':=by
 have hother : ∀ l' x,l'≠l->σ[l']? = some (.obj x)->UR μ' Φ w' l' x∧blk μ' l' x=blk μ l' x:=by
  intro l' x hll hx
  have hox:=h.obj l' x hx
  exact hox.keep hμ (hne l' hll) (Zv.le.refl _) rfl (hw _ hox.blk_lt)
 constructor
 ·intro b cs hcs
  obtain⟨T,fz,hh⟩:=h.phi b cs hcs
  have hlt:=(Array.getElem?_eq_some_iff.1 hh).1
  exact⟨T,fz,by rw[hw b hlt];exact hh⟩
 ·intro l' x hx
  by_cases hll:l'=l
  ·subst hll
   rw[ZB hl]at hx
   cases hx
   exact ho
  ·rw[Zx hll]at hx
   exact(hother l' x hll hx).1
 ·have key : ∀ l' x,l'≠l->σ[l']? = some (.obj x)->blk μ' l' x≠blk μ' l o:=by
   intro l' x hll hx e
   rw[(hother l' x hll hx).2]at e
   have:=(h.obj l' x hx).blk_lt
   omega
  intro l1 l2 o1 o2 hll h1 h2
  by_cases e1:l1=l
  ·subst e1
   rw[ZB hl]at h1
   cases h1
   rw[Zx (Ne.symm hll)]at h2
   exact Ne.symm (key l2 o2 (Ne.symm hll) h2)
  ·rw[Zx e1]at h1
   by_cases e2:l2=l
   ·subst e2
    rw[ZB hl]at h2
    cases h2
    exact key l1 o1 e1 h1
   ·rw[Zx e2]at h2
    rw[(hother l1 o1 e1 h1).2,(hother l2 o2 e2 h2).2]
    exact h.apart l1 l2 o1 o2 hll h1 h2
 ·intro l' n hf
  by_cases e1:l'=l
  ·subst e1
   rw[ZB hl]at hf
   rcases hf with hf|hf <;> cases hf
  ·rw[Zx e1]at hf
   rw[hne l' e1]
   exact h.fresh l' n hf
 ·intro l' x hx
  by_cases e1:l'=l
  ·subst e1
   rw[ZB hl]at hx
   cases hx
   exact .inl (Nat.le_trans h.size hb)
  ·rw[Zx e1]at hx
   rw[(hother l' x e1 hx).2]
   exact h.own l' x hx
 ·exact hos.trans h.os
 ·exact htape.trans h.tape
 ·exact hout.trans h.output
 ·exact Nat.le_trans h.size hsize
 ·intro b hb1 hb2
  rw[hw b (Nat.lt_of_lt_of_le hb1 h.size)]
  exact h.frame b hb1 hb2
 ·exact h.Φle
 ·exact h.μle.trans hμ
 ·exact h.dom
 ·exact h.laid
theorem Good.drew{c:Ctx}{μ:Mu}{Φ:Zv}{σ:Zu}{w:World}(h:Good c μ Φ σ w):Good c μ Φ σ {w with drawn:=w.drawn+1}:=
 ⟨h.phi,fun l o ho=>by
  have:=(h.obj l o ho).keep (w':={w with drawn:=w.drawn+1}) (Mu.le.refl _) (fun _=>rfl) (Zv.le.refl _) rfl rfl
  exact this.1,h.apart,h.fresh,h.own,h.os,h.tape,h.output,h.size,h.frame,h.Φle,h.μle,h.dom,h.laid⟩
def Zv.add(Φ:Zv)(b:Nat)(cs:Array Value):Zv:=fun b'=>if b'=b then some cs else Φ b'
theorem Good.freeze{c:Ctx}{μ:Mu}{Φ:Zv}{σ:Zu}{w:World}{l:Nat}{fz:Bool}{ty sz:Nat}{xs:List PV}(h:Good c μ Φ σ w)(hl:σ[l]? = some (.obj (.row fz ty sz xs))):
  ∃ Φ' B C cs,Φ.le Φ'∧Good c μ Φ' (σ.set l (.obj (.row true ty sz xs))) w∧μ l xs.length=some (B,C,sz)∧Φ' B=some cs∧cs.size=C*sz∧xs.length<=C∧(∀ x∈xs,x.cells.length=sz) ∧
   Xy Φ (cs.toList.take (xs.length*sz)) (flat xs)∧ZW (cs.toList.take (xs.length*sz)):=by
 have hobj:=h.obj l _ hl
 obtain⟨B,C,cs,h1,h2,h3,h4,h5,h6,h7,h8,h9,h10⟩:=hobj
 have hblk:blk μ l (.row fz ty sz xs)=B:=by simp[blk,h1]
 have hblk':blk μ l (.row true ty sz xs)=B:=by simp[blk,h1]
 have hle:Φ.le (Φ.add B cs):=by
  intro b x hx
  unfold Zv.add
  split
  ·rename_i e
   subst e
   rw[h10]at hx
   cases fz <;> simp_all
  ·exact hx
 refine⟨Φ.add B cs,B,C,cs,hle,?_,h1,by simp[Zv.add],h4,h5,h7,h8,h9⟩
 have hother : ∀ l' x,l'≠l->σ[l']? = some (.obj x)->UR μ (Φ.add B cs) w l' x:=by
  intro l' x hll hx
  have hox:=h.obj l' x hx
  have hne:=h.apart l' l x _ hll hx hl
  rw[hblk]at hne
  exact(hox.keep (Mu.le.refl _) (fun _=>rfl) hle (by simp[Zv.add,hne]) rfl).1
 constructor
 ·intro b x hx
  unfold Zv.add at hx
  split at hx
  ·rename_i e
   subst e
   cases hx
   obtain⟨z,h3,_⟩:=h3
   exact⟨_,_,h3⟩
  ·exact h.phi b x hx
 ·intro l' x hx
  by_cases hll:l'=l
  ·subst hll
   rw[ZB hl]at hx
   cases hx
   exact⟨B,C,cs,h1,h2,h3,h4,h5,h6,h7,h8.mono hle,h9,by simp[Zv.add]⟩
  ·rw[Zx hll]at hx
   exact hother l' x hll hx
 ·intro l1 l2 o1 o2 hll k1 k2
  have tr : ∀ l' o',(σ.set l (.obj (.row true ty sz xs)))[l']? = some (.obj o')-> ∃ Rh,σ[l']? = some (.obj Rh)∧blk μ l' o'=blk μ l' Rh:=by
   intro l' o' hx
   by_cases e:l'=l
   ·subst e
    rw[ZB hl]at hx
    cases hx
    exact⟨_,hl,by rw[hblk,hblk']⟩
   ·rw[Zx e]at hx
    exact⟨_,hx,rfl⟩
  obtain⟨p1,q1,e1⟩:=tr l1 o1 k1
  obtain⟨p2,q2,e2⟩:=tr l2 o2 k2
  rw[e1,e2]
  exact h.apart l1 l2 p1 p2 hll q1 q2
 ·intro l' n hf
  by_cases e1:l'=l
  ·subst e1
   rw[ZB hl]at hf
   rcases hf with hf|hf <;> cases hf
  ·rw[Zx e1]at hf
   exact h.fresh l' n hf
 ·intro l' x hx
  by_cases e1:l'=l
  ·subst e1
   rw[ZB hl]at hx
   cases hx
   rw[hblk',<- hblk]
   exact h.own _ _ hl
  ·rw[Zx e1]at hx
   exact h.own l' x hx
 ·exact h.os
 ·exact h.tape
 ·exact h.output
 ·exact h.size
 ·exact h.frame
 ·exact h.Φle.trans hle
 ·exact h.μle
 ·intro b x hx
  unfold Zv.add at hx
  split at hx
  ·rename_i e
   subst e
   have:=h.own l _ hl
   rw[hblk]at this
   exact .inr this
  ·exact h.dom b x hx
 ·exact h.laid
end Go.Pl
namespace Go.Pl
open Go.RowKit
theorem WZ{α:Type}{o:Option α}{σ σ':Zu}{x:α}(h:(HM.ofOpt o).run σ=some (x,σ')):o=some x∧σ'=σ:=by
 cases o with
 | none=>simp[HM.ofOpt,HM.run]at h
 | some y=>simp[HM.ofOpt,HM.run]at h;simp[h.1,h.2]
theorem Zp{α:Type}{y:α}{σ σ':Zu}{x:α}(h:(HM.ret y).run σ=some (x,σ')):x=y∧σ'=σ:=by
 simp[HM.run]at h;simp[h.1,h.2]
theorem YP{α:Type}{l:Nat}{k:AObj->HM α}{σ σ':Zu}{x:α}(h:(HM.get l k).run σ=some (x,σ')): ∃ o,σ[l]? = some (.obj o)∧(k o).run σ=some (x,σ'):=by
 simp only[HM.run]at h
 split at h
 ·rename_i o ho;exact⟨o,ho,h⟩
 ·cases h
theorem Un{α:Type}{l:Nat}{o:AObj}{k:HM α}{σ σ':Zu}{x:α}(h:(HM.put l o k).run σ=some (x,σ')):(∃ o',σ[l]? = some (.obj o'))∧k.run (σ.set l (.obj o))=some (x,σ'):=by
 simp only[HM.run]at h
 split at h
 ·rename_i o ho;exact⟨⟨o,ho⟩,h⟩
 ·cases h
theorem Qa{α:Type}{l:Nat}{o:AObj}{k:HM α}{σ σ':Zu}{x:α}(h:(HM.new l o k).run σ=some (x,σ')):σ[l]? = some .fresh∧k.run (σ.set l (.obj o))=some (x,σ'):=by
 simp only[HM.run]at h
 split at h
 ·rename_i ho;exact⟨ho,h⟩
 ·cases h
theorem Zg{α:Type}{σ σ':Zu}{x:α}(h:(HM.fail:HM α).run σ=some (x,σ')):False:=by simp[HM.run]at h
theorem ZM{α:Type}{b:Bool}{k:HM α}{σ σ':Zu}{x:α}(h:(HM.req b k).run σ=some (x,σ')):b=true∧k.run σ=some (x,σ'):=by
 cases b
 ·simp[HM.run]at h
 ·exact⟨rfl,h⟩
def pv1:Value->Option PV
 | .bool b=>some (.bool b)
 | .int k n=>some (.int k n)
 | .string s=>some (.str s.data.toList)
 | .pointer none=>some .nilp
 | .slice none 0 0=>some (.sl 0 true [])
 | .map none=>some .nilmap
 | .nilFunc=>some .nilfn
 | .nilIface=>some .nili
 | .func (.func f) cs ds=>if cs.size=0∧ds.size=0 then some (.fn f)else none
 | _=>none
def Xg{α β:Type}(f:α->Option β):List α->Option (List β)
 | []=>some []
 | x::xs=>(f x).bind fun y=>(Xg f xs).map (y:: ·)
def Vn:Value->Option PV
 | .agg cs=>(Xg pv1 cs.toList).map .agg
 | v=>pv1 v
theorem Xo{α β:Type}{f:α->Option β}: ∀ {l:List α} {r:List β},Xg f l=some r->l.length=r.length∧ ∀ (j:Nat) x y,l[j]? = some x->r[j]? = some y->f x=some y:=by
 intro l
 induction l with
 | nil=>intro r h;cases h;simp
 | cons x xs ih=>
  intro r h
  simp only[Xg,Option.bind_eq_some_iff,Option.map_eq_some_iff]at h
  obtain⟨y,hy,ys,hys,rfl⟩:=h
  obtain⟨h1,h2⟩:=ih hys
  refine⟨by simp[h1],?_⟩
  intro j a b ha hb
  cases j with
  | zero=>simp at ha hb;subst ha hb;exact hy
  | succ j=>simp at ha hb;exact h2 j a b ha hb
theorem Pv{Φ:Zv}{v:Value}{p:PV}(h:pv1 v=some p):RP Φ v p∧v.oneCell'=true∧p.one=true:=by
 unfold pv1 at h
 split at h
 ·cases h;exact⟨.bool _,rfl,rfl⟩
 ·cases h;exact⟨.int _ _,rfl,rfl⟩
 ·cases h;exact⟨.str _,rfl,rfl⟩
 ·cases h;exact⟨.nilp,rfl,rfl⟩
 ·cases h;exact⟨.sl0 _ _ _ _ (fun _=>rfl),rfl,rfl⟩
 ·cases h;exact⟨.nilmap,rfl,rfl⟩
 ·cases h;exact⟨.nilfn,rfl,rfl⟩
 ·cases h;exact⟨.nili,rfl,rfl⟩
 ·rename_i f cs ds
  split at h
  ·rename_i e
   cases h
   have e1:cs = #[]:=by simpa using e.1
   have e2:ds = #[]:=by simpa using e.2
   subst e1 e2
   exact⟨.fn _,rfl,rfl⟩
  ·cases h
 ·cases h
theorem VB{Φ:Zv}{v:Value}{p:PV}(h:Vn v=some p):RP Φ v p:=by
 unfold Vn at h
 split at h
 ·rename_i cs
  rw[Option.map_eq_some_iff]at h
  obtain⟨ps,hps,rfl⟩:=h
  obtain⟨h1,h2⟩:=Xo hps
  refine .agg _ _ (by simpa using h1) ?_ ?_
  ·intro v hv
   obtain⟨j,hj,e⟩:=List.getElem_of_mem (Array.mem_toList_iff.2 hv)
   have hjp:j<ps.length:=by omega
   exact(Pv (Φ:=Φ) (h2 j v ps[j] (by rw[List.getElem?_eq_getElem hj,e]) (by rw[List.getElem?_eq_getElem hjp]))).2.1
  ·intro j v x hv hx
   exact(Pv (h2 j v x (by simpa using hv) hx)).1
 ·exact(Pv h).1
theorem Xe{v:Value}{p:PV}(h:Vn v=some p):p.cellsOk=true:=by
 unfold Vn at h
 split at h
 ·rw[Option.map_eq_some_iff]at h
  obtain⟨ps,_,rfl⟩:=h
  rfl
 ·have:=(Pv (Φ:=fun _=>none) h).2.2
  cases p <;> simp_all[PV.one,PV.cellsOk]
def ZV:Operand->Option IOp
 | .tmp t=>some (.t t)
 | .const v=>(Vn v).map .c
 | .func f=>some (.c (.fn f))
 | .global _=>none
section
variable {μ:Mu} {Φ:Zv}
theorem ZR{v:Value}{p:PV}(h:R μ Φ v (.pv p)):RP Φ v p:=by cases h;assumption
theorem RL.nil:RL μ Φ [] []:=⟨rfl,fun j v x h=>by simp at h⟩
theorem RL.cons{v:Value}{x:AV}{cs:List Value}{xs:List AV}(h:R μ Φ v x)(k:RL μ Φ cs xs):RL μ Φ (v::cs) (x::xs):=
 ⟨by simp[k.1],fun j a b ha hb=>by
  cases j with
  | zero=>simp at ha hb;subst ha hb;exact h
  | succ j=>simp at ha hb;exact k.2 j a b ha hb⟩
theorem RL.uncons{cs:List Value}{x:AV}{xs:List AV}(h:RL μ Φ cs (x::xs)): ∃ v vs,cs=v::vs∧R μ Φ v x∧RL μ Φ vs xs:=by
 cases cs with
 | nil=>have:=h.1;simp at this
 | cons v vs=>exact⟨v,vs,rfl,h.2 0 v x rfl rfl,by have:=h.1;simpa using this,fun j a b ha hb=>h.2 (j+1) a b (by simpa using ha) (by simpa using hb)⟩
theorem RL.unnil{cs:List Value}(h:RL μ Φ cs []):cs=[]:=by
 have:=h.1
 simpa using this
theorem RL.at_{cs:List Value}{xs:List AV}(h:RL μ Φ cs xs){j:Nat}{x:AV}(hx:xs[j]? = some x): ∃ v,cs[j]? = some v∧R μ Φ v x:=by
 have hj:=(List.getElem?_eq_some_iff.1 hx).1
 have hj':j<cs.length:=by rw[h.1];exact hj
 exact⟨cs[j],by rw[List.getElem?_eq_getElem hj'],h.2 j _ x (by rw[List.getElem?_eq_getElem hj']) hx⟩
theorem Xy.at_{cs:List Value}{xs:List PV}(h:Xy Φ cs xs){j:Nat}{x:PV}(hx:xs[j]? = some x): ∃ v,cs[j]? = some v∧RP Φ v x:=by
 have hj:=(List.getElem?_eq_some_iff.1 hx).1
 have hj':j<cs.length:=by rw[h.1];exact hj
 exact⟨cs[j],by rw[List.getElem?_eq_getElem hj'],h.2 j _ x (by rw[List.getElem?_eq_getElem hj']) hx⟩
theorem Xy.toRL{cs:List Value}{xs:List PV}(h:Xy Φ cs xs):RL μ Φ cs (xs.map .pv):=
 ⟨by simp[h.1],fun j v x hv hx=>by
  rw[List.getElem?_map]at hx
  obtain⟨p,hp,rfl⟩:=Option.map_eq_some_iff.1 hx
  exact .pv _ _ (h.2 j v p hv hp)⟩
theorem RL.drop{cs:List Value}{xs:List AV}(h:RL μ Φ cs xs)(n:Nat):RL μ Φ (cs.drop n) (xs.drop n):=
 ⟨by simp[h.1],fun j v x hv hx=>h.2 (n+j) v x (by simpa using hv) (by simpa using hx)⟩
theorem RL.take{cs:List Value}{xs:List AV}(h:RL μ Φ cs xs)(n:Nat):RL μ Φ (cs.take n) (xs.take n):=
 ⟨by simp[h.1],fun j v x hv hx=>by
  rw[List.getElem?_take]at hv hx
  split at hv
  ·rename_i e;rw[if_pos e]at hx;exact h.2 j v x hv hx
  ·cases hv⟩
theorem RL.append{cs ds:List Value}{xs ys:List AV}(h:RL μ Φ cs xs)(k:RL μ Φ ds ys):RL μ Φ (cs++ds) (xs++ys):=
 ⟨by simp[h.1,k.1],fun j v x hv hx=>by
  rw[List.getElem?_append]at hv hx
  rw[h.1]at hv
  split at hv
  ·rename_i e;rw[if_pos e]at hx;exact h.2 j v x hv hx
  ·rename_i e;rw[if_neg e]at hx;exact k.2 _ v x hv hx⟩
theorem Xy.drop{cs:List Value}{xs:List PV}(h:Xy Φ cs xs)(n:Nat):Xy Φ (cs.drop n) (xs.drop n):=
 ⟨by simp[h.1],fun j v x hv hx=>h.2 (n+j) v x (by simpa using hv) (by simpa using hx)⟩
theorem Xy.take{cs:List Value}{xs:List PV}(h:Xy Φ cs xs)(n:Nat):Xy Φ (cs.take n) (xs.take n):=
 ⟨by simp[h.1],fun j v x hv hx=>by
  rw[List.getElem?_take]at hv hx
  split at hv
  ·rename_i e;rw[if_pos e]at hx;exact h.2 j v x hv hx
  ·cases hv⟩
theorem Xy.append{cs ds:List Value}{xs ys:List PV}(h:Xy Φ cs xs)(k:Xy Φ ds ys):Xy Φ (cs++ds) (xs++ys):=
 ⟨by simp[h.1,k.1],fun j v x hv hx=>by
  rw[List.getElem?_append]at hv hx
  rw[h.1]at hv
  split at hv
  ·rename_i e;rw[if_pos e]at hx;exact h.2 j v x hv hx
  ·rename_i e;rw[if_neg e]at hx;exact k.2 _ v x hv hx⟩
theorem ZW.drop{cs:List Value}(h:ZW cs)(n:Nat):ZW (cs.drop n):=fun v hv=>h v (List.mem_of_mem_drop hv)
theorem ZW.take{cs:List Value}(h:ZW cs)(n:Nat):ZW (cs.take n):=fun v hv=>h v (List.mem_of_mem_take hv)
theorem ZW.append{cs ds:List Value}(h:ZW cs)(k:ZW ds):ZW (cs++ds):=fun v hv=>by
 rcases List.mem_append.1 hv with hv|hv
 ·exact h v hv
 ·exact k v hv
theorem VQ{v:Value}{p:PV}(h:RP Φ v p)(hp:p.cellsOk=true):Xy Φ v.cells.toList p.cells∧ZW v.cells.toList:=by
 have single : ∀ (hv:v.cells = #[v]) (hc:p.cells=[p]) (h1:v.oneCell'=true),Xy Φ v.cells.toList p.cells∧ZW v.cells.toList:=by
  intro hv hc h1
  rw[hv,hc]
  refine⟨⟨rfl,fun j a b ha hb=> ?_⟩,fun a ha=>by simp at ha;subst ha;exact h1⟩
  cases j with
  | zero=>simp at ha hb;subst ha hb;exact h
  | succ j=>simp at ha
 cases h with
 | agg cs xs hn ho h=>exact⟨⟨by simpa [Value.cells,PV.cells]using hn,fun j a b ha hb=>h j a b (by simpa [Value.cells]using ha) hb⟩,fun a ha=>ho a (by simpa [Value.cells]using ha)⟩
 | tup cs xs hn h=>simp[PV.cellsOk]at hp
 | raw v h1=>exact single (by cases v <;> first|rfl|simp[Value.oneCell']at h1) rfl h1
 | _=>exact single rfl rfl rfl
theorem Bn{v:Value}{x:AV}(h:R μ Φ v x)(hx:x.cellsOk=true):RL μ Φ v.cells.toList x.cells∧ZW v.cells.toList:=by
 have single : ∀ (hv:v.cells = #[v]) (hc:x.cells=[x]) (h1:v.oneCell'=true),RL μ Φ v.cells.toList x.cells∧ZW v.cells.toList:=by
  intro hv hc h1
  rw[hv,hc]
  exact⟨RL.cons h RL.nil,fun a ha=>by simp at ha;subst ha;exact h1⟩
 cases h with
 | pv _ p h'=>
  have hpc:p.cellsOk=true:=by cases p <;> simp_all[AV.cellsOk,PV.cellsOk]
  obtain⟨h1,h2⟩:=VQ h' hpc
  have e:AV.cells (.pv p)=p.cells.map .pv:=by cases p <;> rfl
  rw[e]
  exact⟨h1.toRL,h2⟩
 | agg cs xs hn ho h'=>exact⟨⟨by simpa [Value.cells,AV.cells]using hn,fun j a b ha hb=>h' j a b (by simpa [Value.cells]using ha) hb⟩,fun a ha=>ho a (by simpa [Value.cells]using ha)⟩
 | tup cs xs hn h'=>simp[AV.cellsOk]at hx
 | junk=>simp[AV.cellsOk]at hx
 | undef=>simp[AV.cellsOk]at hx
 | _=>exact single rfl rfl rfl
theorem EL: ∀ {xs:List AV} {ps:List PV},a3e xs=some ps->xs=ps.map .pv:=by
 intro xs
 induction xs with
 | nil=>intro ps h;cases h;rfl
 | cons x xs ih=>
  intro ps h
  cases x <;> simp[a3e]at h
  obtain⟨qs,hq,rfl⟩:=h
  simp[ih hq]
theorem Bu{cs:List Value}{xs:List AV}(h:RL μ Φ cs xs)(ho:ZW cs):R μ Φ (.agg cs.toArray) (a0y xs):=by
 unfold a0y
 split
 ·rename_i ps hps
  have e:=EL hps
  subst e
  refine .pv _ _ (.agg _ _ (by simpa using h.1) (fun v hv=>ho v (by simpa using hv)) ?_)
  intro j v p hv hp
  exact ZR (h.2 j v (.pv p) (by simpa using hv) (by simp[hp]))
 ·exact .agg _ _ (by simpa using h.1) (fun v hv=>ho v (by simpa using hv)) (fun j v x hv hx=>h.2 j v x (by simpa using hv) hx)
theorem ZF{a:Act}{env:List AV}{x:Operand}{y:IOp}(h:YE μ Φ a.tmps env)(hx:ZV x=some y):R μ Φ (a.eval x) (ev env y):=by
 cases x with
 | tmp t=>
  simp[ZV]at hx
  subst hx
  simp only[Act.eval,ev]
  by_cases ht:t<env.length
  ·obtain⟨v,hv,hr⟩:=h.at_ (j:=t) (x:=env[t]) (List.getElem?_eq_getElem ht)
   have e1:a.tmps.getD t Go.undef=v:=by
    have:a.tmps[t]? = some v:=by simpa using hv
    simp[Array.getD_eq_getD_getElem?,this]
   have e2:env.getD t .undef=env[t]:=by simp[List.getD,List.getElem?_eq_getElem ht]
   rw[e1,e2]
   exact hr
  ·have hl:=h.1
   have e1:a.tmps.getD t Go.undef=Go.undef:=by
    have h2:a.tmps.size=env.length:=by simpa using h.1
    have:a.tmps[t]? = none:=Array.getElem?_eq_none (by rw[h2];exact Nat.le_of_not_lt ht)
    simp[Array.getD_eq_getD_getElem?,this]
   have e2:env.getD t .undef = .undef:=by simp[List.getD,List.getElem?_eq_none (Nat.le_of_not_lt ht)]
   rw[e1,e2]
   exact .undef
 | const v=>
  simp only[ZV,Option.map_eq_some_iff]at hx
  obtain⟨p,hp,rfl⟩:=hx
  exact .pv _ _ (VB hp)
 | func f=>
  simp[ZV]at hx
  subst hx
  exact .pv _ _ (.fn f)
 | global g=>simp[ZV]at hx
end
def Y0(w:World)(B base:Nat)(cs:List Value):Prop:= ∀ (j:Nat) v,cs[j]? = some v->w.cell? ⟨B,base+j,none⟩=some v
theorem ZP(B o n:Nat):(⟨B,o,none⟩:Addr).add n=⟨B,o+n,none⟩:=by
 unfold Addr.add
 split <;> simp_all
theorem ZJ{w:World}{B:Nat}{cs:Array Value}{T:TypeId}{fz:Nat×Nat}(h:w.heap[B]? = some (.cells cs T fz))(o n:Nat):Y0 w B o ((cs.toList.drop o).take n):=by
 intro j v hv
 rw[List.getElem?_take]at hv
 split at hv
 ·simp only[List.getElem?_drop,Array.getElem?_toList]at hv
  simp[World.cell?,h,hv]
 ·cases hv
def Yu(P:Program)(t:TypeId):Bool:=
 match P.underlying t with
 | some (.struct _)|some (.array _ _)=>true
 | _=>false
theorem VJ{P:Program}{w:World}{t:TypeId}(h:(P.underlying t).isSome=true):(isAgg t).run P w = .ok (Yu P t) w:=by
 cases hu:P.underlying t with
 | none=>simp[hu]at h
 | some d=>
  simp only[isAgg,Sem.run_bind,run_underlying hu,Result.andThen_ok,Yu,hu]
  cases d <;> rfl
theorem ZI{P:Program}{w:World}{t:TypeId}{i:TypeInfo}(h:P.info? t=some i):(sizeOf t).run P w = .ok i.size w:=by
 simp[sizeOf,typeInfo,h]
theorem a0z{P:Program}{μ:Mu}{Φ:Zv}{w:World}{t:TypeId}{i:TypeInfo}{B base o:Nat}{cs:List Value}{xs:List AV}{y:AV}
  (hu:(P.underlying t).isSome=true) (hi:P.info? t=some i) (hc:Y0 w B base cs) (hr:RL μ Φ cs xs) (ho:ZW cs)
  (hl:HZ (Yu P t) i.size xs o=some y) : ∃ v,(loadVar t ⟨B,base+o,none⟩).run P w = .ok v w∧R μ Φ v y:=by
 unfold HZ at hl
 simp only[loadVar,Sem.run_bind,VJ hu,Result.andThen_ok]
 cases hag:Yu P t with
 | true=>
  simp only[hag,if_true]at hl ⊢
  split at hl
  ·rename_i hle
   cases hl
   refine⟨.agg ((cs.drop o).take i.size).toArray,?_,?_⟩
   ·have hlen:((cs.drop o).take i.size).length=i.size:=by
     simp[hr.1]
     omega
    have:=run_loadCells_list (P:=P) w ⟨B,base+o,none⟩ ((cs.drop o).take i.size) (fun j v hv=>by
     rw[ZP]
     rw[List.getElem?_take]at hv
     split at hv
     ·rw[List.getElem?_drop]at hv
      have:=hc (o+j) v hv
      rwa [<- Nat.add_assoc]at this
     ·cases hv)
    rw[hlen]at this
    simp[ZI hi,this]
   ·exact Bu ((hr.drop o).take _) ((ho.drop o).take _)
  ·cases hl
 | false=>
  simp only[hag,if_false,Bool.false_eq_true]at hl ⊢
  obtain⟨v,hv,hR⟩:=hr.at_ hl
  exact⟨v,by simp[hc o v hv],hR⟩
theorem a0t{Φ:Zv}{v:Value}{sh:Sh}{p:PV}(h:RP Φ v p)(hf:sh.fit p=true):RP Φ v (sh.co p):=by
 cases sh with
 | any=>exact h
 | int k=>
  cases p <;> simp[Sh.fit]at hf
  subst hf
  exact h
 | str=>cases p <;> simp[Sh.fit]at hf;exact h
 | bool=>cases p <;> simp[Sh.fit]at hf;exact h
 | sl sz=>
  cases p <;> simp[Sh.fit]at hf
  rename_i sz' t xs
  rcases hf with rfl|rfl
  ·exact h
  ·cases h with
   | sl0 a c _ _ h=>exact .sl0 a c _ _ h
   | sl b off cs c _ _ _ u hb hc ht hs hu hr=>exact .sl b off cs c sz t [] u hb hc ht (fun x hx=>by simp at hx) hu hr
theorem b0d{Φ:Zv}{cs:List Value}{ps:List PV}(h:Xy Φ cs ps): ∀ (shs:List Sh) (o:Nat),o+shs.length<=ps.length->Yg ps o shs=true->Xy Φ ((cs.drop o).take shs.length) (LW ps o shs):=by
 intro shs
 induction shs with
 | nil=>intro o _ _;exact⟨by simp[LW],fun j v x hv=>by simp at hv⟩
 | cons sh shs ih=>
  intro o ho hf
  simp only[Yg,Bool.and_eq_true]at hf
  simp only[List.length_cons]at ho
  have hlt:o<ps.length:=by omega
  have hlt':o<cs.length:=by rw[h.1];exact hlt
  have hd:ps.getD o default=ps[o]:=by simp[List.getD,List.getElem?_eq_getElem hlt]
  rw[hd]at hf
  obtain⟨h1,h2⟩:=ih (o+1) (by omega) hf.2
  have e:(cs.drop o).take (sh::shs).length=cs[o]::(cs.drop (o+1)).take shs.length:=by
   rw[List.drop_eq_getElem_cons hlt',List.length_cons,List.take_succ_cons]
  rw[e]
  simp only[LW,hd]
  refine⟨by simp only[List.length_cons,h1],?_⟩
  intro j v x hv hx
  cases j with
  | zero=>
   simp at hv hx
   subst hv hx
   exact a0t (h.2 o _ _ (List.getElem?_eq_getElem hlt') (List.getElem?_eq_getElem hlt)) hf.1
  | succ j=>simp at hv hx;exact h2 j v x hv hx
theorem FE{P:Program}{μ:Mu}{Φ:Zv}{σ σ':Zu}{w:World}{t:TypeId}{i:TypeInfo}{B base o:Nat}{cs:List Value}{ps:List PV}{shs:List Sh}{y:AV}
  (hu:(P.underlying t).isSome=true) (hi:P.info? t=some i) (hsh:shs.length=i.size) (hc:Y0 w B base cs) (hr:Xy Φ cs ps) (ho:ZW cs)
  (hl:(a0w (Yu P t) shs ps o).run σ=some (y,σ')):σ'=σ∧ ∃ v,(loadVar t ⟨B,base+o,none⟩).run P w = .ok v w∧R μ Φ v y:=by
 unfold a0w at hl
 obtain⟨hq,hl⟩:=ZM hl
 simp only[Bool.and_eq_true,decide_eq_true_eq]at hq
 obtain⟨hle,hfit⟩:=hq
 simp only[loadVar,Sem.run_bind,VJ hu,Result.andThen_ok]
 cases hag:Yu P t with
 | true=>
  simp only[hag,if_true]at hl ⊢
  obtain⟨rfl,rfl⟩:=Zp hl
  refine⟨rfl,.agg ((cs.drop o).take i.size).toArray,?_,?_⟩
  ·have hlen:((cs.drop o).take i.size).length=i.size:=by
    simp[hr.1]
    omega
   have:=run_loadCells_list (P:=P) w ⟨B,base+o,none⟩ ((cs.drop o).take i.size) (fun j v hv=>by
    rw[ZP]
    rw[List.getElem?_take]at hv
    split at hv
    ·rw[List.getElem?_drop]at hv
     have:=hc (o+j) v hv
     rwa [<- Nat.add_assoc]at this
    ·cases hv)
   rw[hlen]at this
   simp[ZI hi,this]
  ·have h1:=b0d hr shs o hle hfit
   rw[hsh]at h1
   exact .pv _ _ (.agg _ _ (by simpa using h1.1) (fun v hv=>(ho.drop o).take i.size v (by simpa using hv)) (fun j v x hv hx=>h1.2 j v x (by simpa using hv) hx))
 | false=>
  simp only[hag,if_false,Bool.false_eq_true]at hl ⊢
  split at hl
  ·rename_i sh
   obtain⟨rfl,rfl⟩:=Zp hl
   simp only[List.length_cons,List.length_nil,Nat.zero_add]at hle
   have hlt:o<ps.length:=by omega
   have hd:ps.getD o default=ps[o]:=by simp[List.getD,List.getElem?_eq_getElem hlt]
   simp only[Yg,Bool.and_eq_true]at hfit
   obtain⟨v,hv,hR⟩:=hr.at_ (List.getElem?_eq_getElem hlt)
   rw[hd]at hfit ⊢
   exact⟨rfl,v,by simp[hc o v hv],.pv _ _ (a0t hR hfit.1)⟩
  ·exact(Zg hl).elim
theorem Y9{xs:List PV}{sz:Nat}(h : ∀ x∈xs,x.cells.length=sz):(flat xs).length=xs.length*sz:=by
 induction xs with
 | nil=>simp[flat]
 | cons x xs ih=>
  have h1:=h x (by simp)
  have h2:=ih (fun y hy=>h y (by simp[hy]))
  simp only[flat,List.flatMap_cons,List.length_append,List.length_cons,Nat.add_mul,Nat.one_mul]at h2 ⊢
  omega
theorem Xr(x:PV)(xs:List PV):flat (x::xs)=x.cells++flat xs:=rfl
theorem XC(xs ys:List PV):flat (xs++ys)=flat xs++flat ys:=by simp[flat]
theorem UH{xs:List PV}{sz:Nat}(h : ∀ x∈xs,x.cells.length=sz): ∀ n,(flat xs).drop (n*sz)=flat (xs.drop n):=by
 induction xs with
 | nil=>intro n;simp[flat]
 | cons x xs ih=>
  intro n
  have h1:=h x (by simp)
  cases n with
  | zero=>simp
  | succ n=>
   rw[Xr,List.drop_succ_cons,<- ih (fun y hy=>h y (by simp[hy])) n,Nat.add_mul,Nat.one_mul,Nat.add_comm,<- h1,List.drop_append]
   simp
theorem Ki{xs:List PV}{sz:Nat}(h : ∀ x∈xs,x.cells.length=sz): ∀ n,(flat xs).take (n*sz)=flat (xs.take n):=by
 induction xs with
 | nil=>intro n;simp[flat]
 | cons x xs ih=>
  intro n
  have h1:=h x (by simp)
  cases n with
  | zero=>simp[flat]
  | succ n=>
   rw[Xr,List.take_succ_cons,Xr,<- ih (fun y hy=>h y (by simp[hy])) n,Nat.add_mul,Nat.one_mul,Nat.add_comm,<- h1,List.take_append]
   rw[List.take_of_length_le (by omega)]
   simp
theorem HY{xs:List PV}{sz i:Nat}{y:PV}(h : ∀ x∈xs,x.cells.length=sz)(hy:xs[i]? = some y):((flat xs).drop (i*sz)).take sz=y.cells:=by
 have hi:=(List.getElem?_eq_some_iff.1 hy).1
 have e:xs[i]=y:=by rw[List.getElem?_eq_getElem hi]at hy;exact Option.some.inj hy
 rw[UH h,List.drop_eq_getElem_cons hi,e,Xr,<- h y (e▸List.getElem_mem hi)]
 simp
theorem RP.sl_cells{Φ:Zv}{w:World}{v:Value}{sz:Nat}{t:Bool}{xs:List PV}(h:RP Φ v (.sl sz t xs))(hΦ:Ye Φ w)(hx:xs≠[]):
  ∃ b off c cs us,v = .slice (some ⟨b,off,none⟩) xs.length c∧Φ b=some cs∧xs.length<=c∧(t=true->c=xs.length)∧(∀ x∈xs,x.cells.length=sz)∧Y0 w b off us∧Xy Φ us (flat xs)∧ZW us:=by
 cases h with
 | sl0=>exact absurd rfl hx
 | sl b off cs c _ _ _ u hb hc ht hs hu hr=>
  obtain⟨T,fz,hh⟩:=hΦ b cs hb
  refine⟨b,off,c,cs,(List.range (flat xs).length).map u,rfl,hb,hc,ht,hs,?_,⟨by simp,?_⟩,?_⟩
  ·intro j v hv
   rw[List.getElem?_map]at hv
   obtain⟨k,hk,rfl⟩:=Option.map_eq_some_iff.1 hv
   obtain⟨hlt,rfl⟩:j<(flat xs).length∧j=k:=by
    have:=List.getElem?_eq_some_iff.1 hk
    obtain⟨a,b⟩:=this
    simp at a b
    exact⟨a,b⟩
   have:=(hu j _ (List.getElem?_eq_getElem hlt)).1
   simp[World.cell?,hh,this]
  ·intro j v x hv hx'
   rw[List.getElem?_map]at hv
   obtain⟨k,hk,rfl⟩:=Option.map_eq_some_iff.1 hv
   obtain⟨hlt,rfl⟩:j<(flat xs).length∧j=k:=by
    have:=List.getElem?_eq_some_iff.1 hk
    obtain⟨a,b⟩:=this
    simp at a b
    exact⟨a,b⟩
   exact hr j x hx'
  ·intro v hv
   obtain⟨k,hk,rfl⟩:=List.mem_map.1 hv
   simp at hk
   exact(hu k _ (List.getElem?_eq_getElem hk)).2
theorem RP.rptr_cells{Φ:Zv}{w:World}{v:Value}{xs:List PV}(h:RP Φ v (.rptr xs))(hΦ:Ye Φ w):
  ∃ b off us,v = .pointer (some ⟨b,off,none⟩)∧Y0 w b off us∧Xy Φ us xs∧ZW us:=by
 cases h with
 | rptr b off cs _ u hb hu hr=>
  obtain⟨T,fz,hh⟩:=hΦ b cs hb
  refine⟨b,off,(List.range xs.length).map u,rfl,?_,⟨by simp,?_⟩,?_⟩
  ·intro j v hv
   rw[List.getElem?_map]at hv
   obtain⟨k,hk,rfl⟩:=Option.map_eq_some_iff.1 hv
   obtain⟨hlt,rfl⟩:j<xs.length∧j=k:=by
    have:=List.getElem?_eq_some_iff.1 hk
    obtain⟨a,b⟩:=this
    simp at a b
    exact⟨a,b⟩
   have:=(hu j _ (List.getElem?_eq_getElem hlt)).1
   simp[World.cell?,hh,this]
  ·intro j v x hv hx'
   rw[List.getElem?_map]at hv
   obtain⟨k,hk,rfl⟩:=Option.map_eq_some_iff.1 hv
   obtain⟨hlt,rfl⟩:j<xs.length∧j=k:=by
    have:=List.getElem?_eq_some_iff.1 hk
    obtain⟨a,b⟩:=this
    simp at a b
    exact⟨a,b⟩
   exact hr j x hx'
  ·intro v hv
   obtain⟨k,hk,rfl⟩:=List.mem_map.1 hv
   simp at hk
   exact(hu k _ (List.getElem?_eq_getElem hk)).2
end Go.Pl
namespace Go.Pl
open Go.RowKit
def Wp(P:Program)(s:Sem Next)(w:World)(K:Value->World->Prop):Prop:=
 match s.run P w with
 | .ok (.value v) w'=>K v w'
 | .ok .skip w'=>K Go.undef w'
 | .ok (.enter f args) w'=>Calls P f args w' fun e w''=> ∃ v,e = .returned v∧K v w''
 | _=>False
def VS(P:Program)(s:Sem Value)(w:World)(K:Value->World->Prop):Prop:= ∃ v w',s.run P w = .ok v w'∧K v w'
def ZN(c:Ctx)(μ:Mu)(Φ:Zv)(σ':Zu)(x:AV)(v:Value)(w':World):Prop:=
 ∃ μ' Φ',μ.le μ'∧Φ.le Φ'∧Good c μ' Φ' σ' w'∧R μ' Φ' v x
theorem VS.gives{P:Program}{s:Sem Value}{w:World}{K:Value->World->Prop}(h:VS P s w K):Wp P (do pure (.value (<- s))) w K:=by
 obtain⟨v,w',h1,h2⟩:=h
 simp[Wp,h1,h2]
theorem Zh{c:Ctx}{μ:Mu}{Φ:Zv}{σ:Zu}{w:World}{x:AV}{v:Value}(hg:Good c μ Φ σ w)(h:R μ Φ v x):ZN c μ Φ σ x v w:=
 ⟨μ,Φ,Mu.le.refl _,Zv.le.refl _,hg,h⟩
section
variable {P:Program} {c:Ctx} {μ:Mu} {Φ:Zv} {σ σ':Zu} {w:World} {a:Act} {env:List AV} {L:Nat} {x:AV}
theorem Tx(hg:Good c μ Φ σ w){l:Nat}{cs:List AV}(hl:σ[l]? = some (.obj (.box cs))){B C S:Nat}(hm:μ l 0=some (B,C,S)):
  ∃ us T,w.heap[B]? = some (.cells us T (0,0))∧RL μ Φ us.toList cs∧ZW us.toList∧Y0 w B 0 us.toList:=by
 obtain⟨B',C',S',T,us,h1,h2,h3,h4,h5⟩:=hg.obj l _ hl
 rw[hm]at h1
 cases h1
 exact⟨us,T,h2,h3,h4,fun j v hv=>by
  have:us[j]? = some v:=by simpa using hv
  simp[World.cell?,h2,this]⟩
theorem UK(hg:Good c μ Φ σ w){l:Nat}{fz:Bool}{ty sz:Nat}{xs:List PV}(hl:σ[l]? = some (.obj (.row fz ty sz xs))){n B C S:Nat}(hn:xs.length=n)(hm:μ l n=some (B,C,S)):
  S=sz∧ ∃ us,XT w B us ty n C∧us.size=C*sz∧xs.length<=C∧C<=maxLen∧(∀ x∈xs,x.cells.length=sz)∧Xy Φ (us.toList.take (xs.length*sz)) (flat xs)∧ZW (us.toList.take (xs.length*sz)):=by
 obtain⟨B',C',us,h1,h2,h3,h4,h5,h6,h7,h8,h9,h10⟩:=hg.obj l _ hl
 rw[hn,hm]at h1
 cases h1
 exact⟨rfl,us,hn▸h3,h4,h5,h6,h7,h8,h9⟩
theorem Nt{us:Array Value}{sz i:Nat}{xs:List PV}{y:PV}{B n C:Nat}{ty:TypeId}(hw:XT w B us ty n C)(hs : ∀ x∈xs,x.cells.length=sz)
  (hr:Xy Φ (us.toList.take (xs.length*sz)) (flat xs)) (ho:ZW (us.toList.take (xs.length*sz))) (hy:xs[i]? = some y) :
  Y0 w B (i*sz) ((us.toList.drop (i*sz)).take sz)∧Xy Φ ((us.toList.drop (i*sz)).take sz) y.cells∧ZW ((us.toList.drop (i*sz)).take sz):=by
 have hi:=(List.getElem?_eq_some_iff.1 hy).1
 have hle:i*sz+sz<=xs.length*sz:=by
  have:(i+1)*sz<=xs.length*sz:=Nat.mul_le_mul_right _ hi
  rwa [Nat.add_mul,Nat.one_mul]at this
 have e:((us.toList.take (xs.length*sz)).drop (i*sz)).take sz=(us.toList.drop (i*sz)).take sz:=by
  rw[List.drop_take,List.take_take,Nat.min_eq_left (by omega)]
 obtain⟨z,hw,_⟩:=hw
 refine⟨ZJ hw _ _,?_,?_⟩
 ·have:=(hr.drop (i*sz)).take sz
  rw[e,HY hs hy]at this
  exact this
 ·have:=(ho.drop (i*sz)).take sz
  rwa [e]at this
theorem c0s{t:TypeId}{i:TypeInfo}{shs:List Sh}{v:Value}{X:IOp}(hu:(P.underlying t).isSome=true)(hi:P.info? t=some i)(hsh:shs.length=i.size)(hg:Good c μ Φ σ w)(hv:R μ Φ v (ev env X))
  (hr:(YF L env (.load (Yu P t) shs X)).run σ=some (x,σ')):VS P (Instr.loadAt t v) w (ZN c μ Φ σ' x):=by
 simp only[YF]at hr
 split at hr
 ·rename_i ps hX
  rw[hX]at hv
  obtain⟨b,off,us,rfl,hc,hR,ho⟩:=(ZR hv).rptr_cells hg.phi
  obtain⟨rfl,u,h1,h2⟩:=FE (P:=P) (μ:=μ) hu hi hsh hc hR ho hr
  exact⟨u,w,by simpa [Instr.loadAt,Instr.sureAddr]using h1,Zh hg h2⟩
 ·rename_i l o hX
  rw[hX]at hv
  obtain⟨ob,hob,hr⟩:=YP hr
  split at hr
  ·rename_i cs
   obtain⟨hl,rfl⟩:=WZ hr
   rw[hsh]at hl
   cases hv with
   | ptr _ _ B C S hm=>
    obtain⟨us,T,h1,h2,h3,h4⟩:=Tx hg hob hm
    obtain⟨u,k1,k2⟩:=a0z (P:=P) hu hi h4 h2 h3 hl
    exact⟨u,w,by simpa [Instr.loadAt,Instr.sureAddr]using k1,Zh hg k2⟩
  ·exact(Zg hr).elim
 ·rename_i l m j o hX
  rw[hX]at hv
  obtain⟨ob,hob,hr⟩:=YP hr
  split at hr
  ·rename_i fz ty sz xs
   have hqr:=ZM hr
   clear hr
   obtain⟨hq,hr⟩:=hqr
   simp only[Bool.and_eq_true,beq_iff_eq,decide_eq_true_eq]at hq
   obtain⟨hn,hj⟩:=hq
   have hy:xs[j]? = some (xs.getD j default):=by simp[List.getD,List.getElem?_eq_getElem hj]
   cases hv with
   | eptr _ _ _ _ B C S hm=>
    obtain⟨rfl,us,h1,h2,h3,h3',h4,h5,h6⟩:=UK hg hob hn hm
    obtain⟨e1,e2,e3⟩:=Nt h1 h4 h5 h6 hy
    obtain⟨rfl,u,k1,k2⟩:=FE (P:=P) (μ:=μ) hu hi hsh e1 e2 e3 hr
    exact⟨u,w,by simpa [Instr.loadAt,Instr.sureAddr]using k1,Zh hg k2⟩
  ·exact(Zg hr).elim
 ·exact(Zg hr).elim
theorem RP.str'{s:ByteArray}{l:List UInt8}(h:s.data.toList=l):RP Φ (.string s) (.str l):=h ▸ .str s
theorem b7w{op:BinOp}{k:IntKind}{x y:Int}{r:PV}(hop:a0e op=false)(h:d1a op k x y=some (true,r))(t:TypeId): ∃ v,(binOp op t (.int k x) (.int k y)).run P w = .ok v w∧RP Φ v r:=by
 cases op <;> simp only[d1a,d3t,Option.map_some,Option.map_none,Option.some.injEq,Prod.mk.injEq,true_and,reduceCtorEq]at h
 case quo=>
  obtain⟨h0,rfl⟩:=h
  have h0 : ¬ y=0:=by simpa using h0
  exact⟨_,by simp[binOp,Op.intDiv,h0] <;> rfl,.int _ _⟩
 case rem=>
  obtain⟨h0,rfl⟩:=h
  have h0 : ¬ y=0:=by simpa using h0
  exact⟨_,by simp[binOp,Op.intDiv,h0] <;> rfl,.int _ _⟩
 case add=>subst h;exact⟨_,by simp[binOp,Op.intArith] <;> rfl,.int _ _⟩
 case sub=>subst h;exact⟨_,by simp[binOp,Op.intArith] <;> rfl,.int _ _⟩
 case mul=>subst h;exact⟨_,by simp[binOp,Op.intArith] <;> rfl,.int _ _⟩
 case and=>subst h;exact⟨_,by simp only[binOp,ne_eq,not_true_eq_false,if_false];rfl,.int _ _⟩
 case or=>subst h;exact⟨_,by simp only[binOp,ne_eq,not_true_eq_false,if_false];rfl,.int _ _⟩
 case xor=>subst h;exact⟨_,by simp only[binOp,ne_eq,not_true_eq_false,if_false];rfl,.int _ _⟩
 case andNot=>subst h;exact⟨_,by simp only[binOp,ne_eq,not_true_eq_false,if_false];rfl,.int _ _⟩
 all_goals (subst h;exact⟨_,by simp[binOp,Op.intCmp] <;> rfl,.bool _⟩)
theorem O1{op:BinOp}{k k':IntKind}{x y:Int}{r:PV}(h:EM op k x y=some (true,r))(t:TypeId): ∃ v,(binOp op t (.int k x) (.int k' y)).run P w = .ok v w∧RP Φ v r:=by
 cases op <;> simp only[EM,Option.some.injEq,Prod.mk.injEq,decide_eq_true_eq,reduceCtorEq]at h
 all_goals
  obtain⟨h0,rfl⟩:=h
  have h0 : ¬ y<0:=by omega
  exact⟨_,by simp[binOp,Op.shift,h0] <;> rfl,.int _ _⟩
theorem b1j{op:BinOp}{a b:ByteArray}{r:PV}(h:c9f op a.data.toList b.data.toList=some (true,r))(t:TypeId): ∃ v,(binOp op t (.string a) (.string b)).run P w = .ok v w∧RP Φ v r:=by
 cases op <;> simp[c9f]at h
 case add=>
  obtain⟨h1,rfl⟩:=h
  have e1:a.data.toList.length=a.size:=by simp
  have e2:b.data.toList.length=b.size:=by simp
  refine⟨.string (a++b),?_,RP.str' (by simp[ByteArray.data_append])⟩
  have:=run_string_add_sum (P:=P) w a b (by omega)
  simpa [binOp]using this
 all_goals (subst h;exact⟨_,by simp[binOp,Op.stringOp,ByteArray.toList_eq] <;> rfl,.bool _⟩)
theorem KO{k k':IntKind}(h:Jl k k'=true):k=k':=by cases k <;> cases k' <;> first|rfl|simp[Jl]at h
def J6(P:Program):Nat->List Field->Option (List Nat)
 | _,[]=>some []
 | k,f::fs=>if f.name ≠ "_" ∧f.offset=k then
   match P.underlying f.type with
   | some (.int _)=>(J6 P (k+1) fs).map (0:: ·)
   | some .string=>(J6 P (k+1) fs).map (1:: ·)
   | some .bool=>(J6 P (k+1) fs).map (2:: ·)
   | _=>none
  else none
def Mm(P:Program)(op:BinOp)(t:TypeId)(y:Operand):Option Kd:=
 match P.underlying t with
 | some .bool=>some .bool
 | some (.pointer _)=>some .ptr
 | some (.interface _)=>match y with | .const _=>some .ifc|_=>none
 | some (.int _)|some .string=>some .num
 | some (.struct fs)=>if P.stoodInHeld t=false∧P.eqGuardType P.depth t=false then(J6 P 0 fs.toList).map .agg else none
 | _=>none
theorem eqg{op:BinOp}{t:TypeId}{xo yo:Operand}{u v:Value}(hu:u ≠ .nilIface)(ha : ∀ cs,u ≠ .agg cs):(eqGuard op t xo yo u v).run P w = .ok () w:=by
 unfold eqGuard
 cases u <;> first|exact absurd rfl hu|exact absurd rfl (ha _)|(cases op <;> rfl)
theorem WW(t:TypeId)(x y:Value):Op.equal t x y=Op.equalIn (9999+1) t x y:=rfl
theorem V9{P:Program}{w:World}{t:TypeId}{cs:Array Value}{k:Nat}{v:Value}(hu:(P.underlying t).isSome=true)(ha:Yu P t=false)(hv:cs[k]? = some v):(part t cs k).run P w = .ok v w:=by
 unfold part
 simp only[Sem.run_bind,VJ hu,ha,Result.andThen_ok,hv,Bool.false_eq_true,if_false]
 rfl
theorem Mx{d:Nat}{xs ys:Array Value}{ps qs:List PV}(hxn:xs.size=ps.length)(hyn:ys.size=qs.length)(hx : ∀ (j:Nat) v p,xs[j]? = some v->ps[j]? = some p->RP Φ v p)(hy : ∀ (j:Nat) v p,ys[j]? = some v->qs[j]? = some p->RP Φ v p):
  ∀ (fs:List Field) (k:Nat) (ks:List Nat) (b:Bool),J6 P k fs=some ks->Sg ks (ps.drop k) (qs.drop k)=some b->(Op.eqFields (d+1) xs ys fs).run P w = .ok b w:=by
 intro fs
 induction fs with
 | nil=>
  intro k ks b hk hb
  simp only[J6,Option.some.injEq]at hk
  subst hk
  simp only[Op.eqFields,Sem.run_pure]
  cases hp:ps.drop k <;> cases hq:qs.drop k <;> rw[hp,hq]at hb <;> simp[Sg]at hb
  subst hb;rfl
 | cons f fs ih=>
  intro k ks b hk hb
  simp only[J6]at hk
  split at hk
  ·rename_i hn
   obtain⟨hn1,hn2⟩:=hn
   have key : ∀ (n:Nat),(J6 P (k+1) fs).map (n:: ·)=some ks->Yu P f.type=false->(P.underlying f.type).isSome=true ->
     (∀ (p q:PV) (u v:Value) (r:Bool),Sg [n] [p] [q]=some r->RP Φ u p->RP Φ v q->(Op.equalIn (d+1) f.type u v).run P w = .ok r w) ->
     (∀ (p q:PV) (ps' qs':List PV) (ks':List Nat) (b:Bool),Sg (n::ks') (p::ps') (q::qs')=some b-> ∃ r r',Sg [n] [p] [q]=some r∧Sg ks' ps' qs'=some r'∧b=(r&&r'))->(Op.eqFields (d+1) xs ys (f::fs)).run P w = .ok b w:=by
    intro n hm ha hu he hsp
    obtain⟨ks',hks',rfl⟩:=Option.map_eq_some_iff.1 hm
    cases hp:ps.drop k with
    | nil=>rw[hp]at hb;simp[Sg]at hb
    | cons p ps'=>
     cases hq:qs.drop k with
     | nil=>rw[hp,hq]at hb;simp[Sg]at hb
     | cons q qs'=>
      rw[hp,hq]at hb
      obtain⟨r,r',h1,h2,rfl⟩:=hsp p q ps' qs' ks' b hb
      have hkp:k<ps.length:=by
       rcases Nat.lt_or_ge k ps.length with h|h
       ·exact h
       ·rw[List.drop_eq_nil_of_le h]at hp;cases hp
      have hkq:k<qs.length:=by
       rcases Nat.lt_or_ge k qs.length with h|h
       ·exact h
       ·rw[List.drop_eq_nil_of_le h]at hq;cases hq
      rw[List.drop_eq_getElem_cons hkp,List.cons.injEq]at hp
      rw[List.drop_eq_getElem_cons hkq,List.cons.injEq]at hq
      obtain⟨hp1,rfl⟩:=hp
      obtain⟨hq1,rfl⟩:=hq
      have ex:xs[k]? = some (xs[k]'(by omega)):=Array.getElem?_eq_getElem (by omega)
      have ey:ys[k]? = some (ys[k]'(by omega)):=Array.getElem?_eq_getElem (by omega)
      have rx:=hx k _ _ ex (List.getElem?_eq_getElem hkp)
      have ry:=hy k _ _ ey (List.getElem?_eq_getElem hkq)
      rw[hp1]at rx
      rw[hq1]at ry
      have hih:=ih (k+1) ks' r' hks' h2
      have heq:=he p q _ _ r h1 rx ry
      rw[Op.eqFields,if_pos hn1,hn2]
      simp only[Sem.run_bind,V9 hu ha ex,V9 hu ha ey,Result.andThen_ok,heq]
      cases r
      ·simp[Sem.run_pure]
      ·simpa using hih
   have two : ∀ (P Q:Option Bool) (a:Bool) (b:Bool),P.map (fun r=>a&&r)=some b-> ∃ r',P=some r'∧b=(a&&r'):=fun P Q a b h=>by
    obtain⟨r',h1,h2⟩:=Option.map_eq_some_iff.1 h
    exact⟨r',h1,h2.symm⟩
   split at hk
   ·rename_i kk hu
    refine key 0 hk (by simp[Yu,hu]) (by simp[hu]) ?_ ?_
    ·intro p q u v r h ru rv
     cases p <;> cases q <;> simp[Sg]at h
     split at h
     ·rename_i hke
      have hke:=KO hke
      subst hke
      simp[Sg]at h
      subst h
      cases ru;cases rv
      exact run_equalIn_int w d f.type _ _ _ _ hu
     ·cases h
    ·intro p q ps' qs' ks' b h
     cases p <;> cases q <;> simp only[Sg,reduceCtorEq]at h
     split at h
     ·rename_i hke
      obtain⟨r',h1,rfl⟩:=two _ none _ _ h
      exact⟨_,r',by simp[Sg,hke],h1,rfl⟩
     ·cases h
   ·rename_i hu
    refine key 1 hk (by simp[Yu,hu]) (by simp[hu]) ?_ ?_
    ·intro p q u v r h ru rv
     cases p <;> cases q <;> simp[Sg]at h
     subst h
     cases ru;cases rv
     rw[run_equalIn_string w d f.type _ _ hu,ByteArray.toList_eq,ByteArray.toList_eq]
    ·intro p q ps' qs' ks' b h
     cases p <;> cases q <;> simp only[Sg,reduceCtorEq]at h
     obtain⟨r',h1,rfl⟩:=two _ none _ _ h
     exact⟨_,r',by simp[Sg],h1,rfl⟩
   ·rename_i hu
    refine key 2 hk (by simp[Yu,hu]) (by simp[hu]) ?_ ?_
    ·intro p q u v r h ru rv
     cases p <;> cases q <;> simp[Sg]at h
     subst h
     cases ru;cases rv
     exact run_equalIn_bool' w d f.type _ _ hu
    ·intro p q ps' qs' ks' b h
     cases p <;> cases q <;> simp only[Sg,reduceCtorEq]at h
     obtain⟨r',h1,rfl⟩:=two _ none _ _ h
     exact⟨_,r',by simp[Sg],h1,rfl⟩
   ·cases hk
  ·cases hk
theorem d0x{op:BinOp}{t:TypeId}{xo yo:Operand}{u v:Value}{X Y:IOp}{kd:Kd}(hk:Mm P op t yo=some kd)(hg:Good c μ Φ σ w)(hu:R μ Φ u (ev env X))(hv:R μ Φ v (ev env Y))
  (hr:(YF L env (.bin kd op X Y)).run σ=some (x,σ')):VS P (do eqGuard op t xo yo u v;binOp op t u v) w (ZN c μ Φ σ' x):=by
 simp only[YF]at hr
 split at hr
 case h_2=>exact(Zg hr).elim
 rename_i rq r h
 have hqr:=ZM hr
 clear hr
 obtain⟨rfl,hr⟩:=hqr
 obtain⟨rfl,rfl⟩:=Zp hr
 generalize ev env X=X' at hu h
 generalize ev env Y=Y' at hv h
 have key : ∀ v',(∃ z,(do eqGuard op t xo yo u v;binOp op t u v:Sem Value).run P w = .ok z w∧RP Φ z v')->v'=r->VS P (do eqGuard op t xo yo u v;binOp op t u v) w (ZN c μ Φ σ' (.pv r)):=by
  rintro _ ⟨z,h1,h2⟩ rfl
  exact⟨z,w,h1,Zh hg (.pv _ _ h2)⟩
 unfold d5y at h
 split at h
 ·replace hu:=ZR hu
  cases hu
  replace hv:=ZR hv
  cases hv
  refine key r ?_ rfl
  have hgd:=fun u v hu ha=>eqg (P:=P) (w:=w) (op:=op) (t:=t) (xo:=xo) (yo:=yo) (u:=u) (v:=v) hu ha
  split at h
  ·obtain⟨z,h1,h2⟩:=O1 (P:=P) (w:=w) (Φ:=Φ) h t
   exact⟨z,by rw[Sem.run_bind,hgd _ _ (by simp) (by simp)];exact h1,h2⟩
  ·rename_i hop
   split at h
   ·rename_i e
    have e:=KO e
    subst e
    obtain⟨z,h1,h2⟩:=b7w (P:=P) (w:=w) (Φ:=Φ) hop h t
    exact⟨z,by rw[Sem.run_bind,hgd _ _ (by simp) (by simp)];exact h1,h2⟩
   ·cases h
 ·replace hu:=ZR hu
  cases hu
  replace hv:=ZR hv
  cases hv
  refine key r ?_ rfl
  have hgd:=fun u v hu ha=>eqg (P:=P) (w:=w) (op:=op) (t:=t) (xo:=xo) (yo:=yo) (u:=u) (v:=v) hu ha
  obtain⟨z,h1,h2⟩:=b1j (P:=P) (w:=w) (Φ:=Φ) h t
  exact⟨z,by rw[Sem.run_bind,hgd _ _ (by simp) (by simp)];exact h1,h2⟩
 ·replace hu:=ZR hu
  cases hu
  replace hv:=ZR hv
  cases hv
  refine key r ?_ rfl
  have hgd:=fun u v hu ha=>eqg (P:=P) (w:=w) (op:=op) (t:=t) (xo:=xo) (yo:=yo) (u:=u) (v:=v) hu ha
  have ht:P.underlying t=some .bool:=by
   unfold Mm at hk
   split at hk <;> first|assumption|(simp at hk)|(split at hk <;> simp at hk)
  have he : ∀ a b,(Op.equal t (.bool a) (.bool b)).run P w = .ok (a==b) w:=fun a b=>by rw[WW];unfold Op.equalIn;simp[run_underlying ht]
  unfold eqB at h
  split at h
  ·cases h;exact⟨_,by rw[Sem.run_bind,hgd _ _ (by simp) (by simp)];simp[binOp,he] <;> rfl,.bool _⟩
  ·cases h;exact⟨_,by rw[Sem.run_bind,hgd _ _ (by simp) (by simp)];simp[binOp,he] <;> rfl,.bool _⟩
  ·cases h
 ·replace hu:=ZR hu
  cases hu
  replace hv:=ZR hv
  cases hv
  refine key r ?_ rfl
  have hgd:=fun u v hu ha=>eqg (P:=P) (w:=w) (op:=op) (t:=t) (xo:=xo) (yo:=yo) (u:=u) (v:=v) hu ha
  obtain⟨e,ht⟩ : ∃ e,P.underlying t=some (.pointer e):=by
   unfold Mm at hk
   split at hk <;> first|exact⟨_,‹_›⟩|(simp at hk)|(split at hk <;> simp at hk)
  have he:(Op.equal t (.pointer none) (.pointer none)).run P w = .ok true w:=by rw[WW];unfold Op.equalIn;simp[run_underlying ht]
  unfold eqB at h
  split at h
  ·cases h;exact⟨_,by rw[Sem.run_bind,hgd _ _ (by simp) (by simp)];simp[binOp,he] <;> rfl,.bool _⟩
  ·cases h;exact⟨_,by rw[Sem.run_bind,hgd _ _ (by simp) (by simp)];simp[binOp,he] <;> rfl,.bool _⟩
  ·cases h
 ·cases hu
  replace hv:=ZR hv
  cases hv
  refine key r ?_ rfl
  have hgd:=fun u v hu ha=>eqg (P:=P) (w:=w) (op:=op) (t:=t) (xo:=xo) (yo:=yo) (u:=u) (v:=v) hu ha
  obtain⟨e,ht⟩ : ∃ e,P.underlying t=some (.pointer e):=by
   unfold Mm at hk
   split at hk <;> first|exact⟨_,‹_›⟩|(simp at hk)|(split at hk <;> simp at hk)
  have he : ∀ q,(Op.equal t (.pointer (some q)) (.pointer none)).run P w = .ok false w:=fun q=>by rw[WW];unfold Op.equalIn;simp[run_underlying ht]
  unfold eqB at h
  split at h
  ·cases h;exact⟨_,by rw[Sem.run_bind,hgd _ _ (by simp) (by simp)];simp[binOp,he] <;> rfl,.bool _⟩
  ·cases h;exact⟨_,by rw[Sem.run_bind,hgd _ _ (by simp) (by simp)];simp[binOp,he] <;> rfl,.bool _⟩
  ·cases h
 ·replace hu:=ZR hu
  cases hu
  replace hv:=ZR hv
  cases hv
  refine key r ?_ rfl
  have hgd:=fun u v hu ha=>eqg (P:=P) (w:=w) (op:=op) (t:=t) (xo:=xo) (yo:=yo) (u:=u) (v:=v) hu ha
  obtain⟨e,ht⟩ : ∃ e,P.underlying t=some (.pointer e):=by
   unfold Mm at hk
   split at hk <;> first|exact⟨_,‹_›⟩|(simp at hk)|(split at hk <;> simp at hk)
  have he : ∀ q,(Op.equal t (.pointer (some q)) (.pointer none)).run P w = .ok false w:=fun q=>by rw[WW];unfold Op.equalIn;simp[run_underlying ht]
  unfold eqB at h
  split at h
  ·cases h;exact⟨_,by rw[Sem.run_bind,hgd _ _ (by simp) (by simp)];simp[binOp,he] <;> rfl,.bool _⟩
  ·cases h;exact⟨_,by rw[Sem.run_bind,hgd _ _ (by simp) (by simp)];simp[binOp,he] <;> rfl,.bool _⟩
  ·cases h
 ·rename_i p
  replace hu:=ZR hu
  replace hv:=ZR hv
  cases hv
  have hy : ∃ k ms,yo = .const k∧P.underlying t=some (.interface ms):=by
   unfold Mm at hk
   split at hk <;> first|(simp at hk;done)|(split at hk <;> first|exact⟨_,_,rfl,‹_›⟩|(simp at hk;done))
  obtain⟨k,ms,rfl,ht⟩:=hy
  obtain⟨⟨q1,q2⟩,hq,hqe⟩:=Option.map_eq_some_iff.1 h
  simp only[Prod.mk.injEq,Bool.and_eq_true]at hqe
  obtain⟨⟨hif,rfl⟩,rfl⟩:=hqe
  refine key q2 ?_ rfl
  cases hu <;> simp[Nw]at hif
  ·have hgd0:(eqGuard op t xo (.const k) .nilIface .nilIface).run P w = .ok () w:=by
    unfold eqGuard
    cases xo <;> cases op <;> rfl
   have he:(Op.equal t .nilIface .nilIface).run P w = .ok true w:=by rw[WW];unfold Op.equalIn;simp[run_underlying ht]
   unfold eqB QS at hq
   split at hq
   ·cases hq;exact⟨_,by rw[Sem.run_bind,hgd0];simp[binOp,he] <;> rfl,.bool _⟩
   ·cases hq;exact⟨_,by rw[Sem.run_bind,hgd0];simp[binOp,he] <;> rfl,.bool _⟩
   ·cases hq
  ·have hgd:=fun u v hu ha=>eqg (P:=P) (w:=w) (op:=op) (t:=t) (xo:=xo) (yo:=.const k) (u:=u) (v:=v) hu ha
   have he : ∀ t' v',(Op.equal t (.iface t' v') .nilIface).run P w = .ok false w:=fun t' v'=>by rw[WW];unfold Op.equalIn;simp[run_underlying ht]
   unfold eqB QS at hq
   split at hq
   ·cases hq;exact⟨_,by rw[Sem.run_bind,hgd _ _ (by simp) (by simp)];simp[binOp,he] <;> rfl,.bool _⟩
   ·cases hq;exact⟨_,by rw[Sem.run_bind,hgd _ _ (by simp) (by simp)];simp[binOp,he] <;> rfl,.bool _⟩
   ·cases hq
 ·rename_i ks ps qs
  replace hu:=ZR hu
  replace hv:=ZR hv
  cases hu with
  | agg cs _ hn ho hr=>
   cases hv with
   | agg ds _ hm hp hs=>
    refine key r ?_ rfl
    obtain⟨fs,ht,hst,heq,hfs⟩ : ∃ fs,P.underlying t=some (.struct fs)∧P.stoodInHeld t=false∧P.eqGuardType P.depth t=false∧J6 P 0 fs.toList=some ks:=by
     unfold Mm at hk
     split at hk <;> first
      | (simp at hk;done)
      | (split at hk <;> first
        | (simp at hk;done)
        | (rename_i fs ht hc;obtain⟨ks',hks,e⟩:=Option.map_eq_some_iff.1 hk;cases e;exact⟨fs,ht,hc.1,hc.2,hks⟩))
    obtain⟨b,hb,hop⟩:=Option.bind_eq_some_iff.1 h
    have hfo:P.fieldsOf t=fs:=by simp[Program.fieldsOf,ht]
    have he:(Op.equalIn 10000 t (.agg cs) (.agg ds)).run P w = .ok b w:=by
     rw[run_equalIn_struct w 9999 t cs ds (by rw[hfo];exact ht) hst,hfo]
     exact Mx hn hm hr hs fs.toList 0 ks b hfs (by simpa using hb)
    unfold eqB at hop
    split at hop
    ·cases hop;exact⟨_,by rw[Sem.run_bind,run_eqGuard_agg w _ t xo yo cs ds heq];simp only[Result.andThen_ok];rw[run_eql_struct w t cs ds,he];rfl,.bool _⟩
    ·cases hop;exact⟨_,by rw[Sem.run_bind,run_eqGuard_agg w _ t xo yo cs ds heq];simp only[Result.andThen_ok];rw[run_neq_struct w t cs ds,he];rfl,.bool _⟩
    ·cases hop
 ·cases h
end
end Go.Pl
namespace Go.Pl
open Go.RowKit
section
variable {P:Program} {c:Ctx} {μ:Mu} {Φ:Zv} {σ σ':Zu} {w:World} {a:Act} {env:List AV} {L:Nat} {x:AV}
theorem a3s{α:Type}{b:Bool}{k:Bool->HM α}{σ σ':Zu}{x:α}(h:(HM.ask b k).run σ=some (x,σ')):(k b).run σ=some (x,σ'):=h
theorem c3s{u v z:Value}{X Y Z:IOp}(hg:Good c μ Φ σ w)(hu:R μ Φ u (ev env X))(hv:R μ Φ v (ev env Y))(hz:R μ Φ z (ev env Z))
  (hr:(YF L env (.pick X Y Z)).run σ=some (x,σ')):VS P (do pure (if <- asBool u then v else z)) w (ZN c μ Φ σ' x):=by
 simp only[YF]at hr
 split at hr
 ·rename_i d hX
  rw[hX]at hu
  replace hr:=a3s hr
  replace hu:=ZR hu
  cases hu
  cases d
  ·obtain⟨rfl,rfl⟩:=Zp hr
   exact⟨z,w,by simp[asBool],Zh hg hz⟩
  ·obtain⟨rfl,rfl⟩:=Zp hr
   exact⟨v,w,by simp[asBool],Zh hg hv⟩
 ·exact(Zg hr).elim
theorem d3y{op:UnOp}{u:Value}{X:IOp}(hg:Good c μ Φ σ w)(hu:R μ Φ u (ev env X))(hr:(YF L env (.un op X)).run σ=some (x,σ')):VS P (Op.unary op u) w (ZN c μ Φ σ' x):=by
 simp only[YF]at hr
 split at hr
 ·rename_i p hX
  rw[hX]at hu
  replace hu:=ZR hu
  obtain⟨h,rfl⟩:=WZ hr
  rw[Option.map_eq_some_iff]at h
  obtain⟨r,h,rfl⟩:=h
  unfold unB at h
  split at h
  ·cases h
   cases hu
   exact⟨_,w,rfl,Zh hg (.pv _ _ (.bool _))⟩
  ·cases h
   cases hu
   exact⟨_,w,by simp[Op.unary,Op.intArith] <;> rfl,Zh hg (.pv _ _ (by
    have : ∀ n:Int,0 - n = -n:=fun n=>by omega
    first|exact .int _ _|(rw[this];exact .int _ _)))⟩
  ·cases h
 ·exact(Zg hr).elim
theorem c4x{src dst:TypeId}{k:IntKind}{u:Value}{X:IOp}(hs:(P.underlying src).isSome=true)(hd:P.underlying dst=some (.int k))(hg:Good c μ Φ σ w)(hu:R μ Φ u (ev env X))
  (hr:(YF L env (.conv k X)).run σ=some (x,σ')):VS P (convert src dst u) w (ZN c μ Φ σ' x):=by
 simp only[YF]at hr
 split at hr
 ·rename_i k' n hX
  rw[hX]at hu
  replace hu:=ZR hu
  obtain⟨rfl,rfl⟩:=Zp hr
  cases hu
  obtain⟨d,hd'⟩:=Option.isSome_iff_exists.1 hs
  exact⟨.int k (k.wrap n),w,by simp[convert,run_underlying hd',run_underlying hd,Conv.intToInt],Zh hg (.pv _ _ (.int _ _))⟩
 ·exact(Zg hr).elim
theorem a4n{u:Value}{X:IOp}(hg:Good c μ Φ σ w)(hu:R μ Φ u (ev env X))(hr:(YF L env (.nilchk X)).run σ=some (x,σ'))(o:Oper)(ρ:Operand->Value)(y:Operand)(ho:o.op = .nilCheck y)(hy:ρ y=u):
  Wp P (execOp ρ o) w (ZN c μ Φ σ' x):=by
 simp only[YF]at hr
 unfold Wp execOp
 simp only[ho,hy]
 split at hr
 ·rename_i hX
  rw[hX]at hu
  obtain⟨rfl,rfl⟩:=Zp hr
  cases hu with
  | ptr _ _ B C S hm=>exact Zh hg (.ptr _ _ B C S hm)
 ·rename_i hX
  rw[hX]at hu
  obtain⟨rfl,rfl⟩:=Zp hr
  have hu':=hu
  replace hu:=ZR hu
  cases hu
  exact Zh hg hu'
 ·rename_i hX
  rw[hX]at hu
  obtain⟨rfl,rfl⟩:=Zp hr
  cases hu with
  | eptr _ _ _ _ B C S hm=>exact Zh hg (.eptr _ _ _ _ B C S hm)
 ·rename_i hX
  rw[hX]at hu
  obtain⟨rfl,rfl⟩:=Zp hr
  have hu':=hu
  cases hu
  exact Zh hg hu'
 ·rename_i hX
  rw[hX]at hu
  obtain⟨rfl,rfl⟩:=Zp hr
  have hu':=hu
  replace hu:=ZR hu
  cases hu
  exact Zh hg hu'
 ·exact(Zg hr).elim
theorem d1y{ρ:Operand->Value}: ∀ {xs:List Operand} {ys:List IOp},Xg ZV xs=some ys->(∀ o p,ZV o=some p->R μ Φ (ρ o) (ev env p))->RL μ Φ (xs.map ρ) (ys.map (ev env)):=by
 intro xs
 induction xs with
 | nil=>intro ys h _;cases h;exact RL.nil
 | cons o xs ih=>
  intro ys h hr
  simp only[Xg,Option.bind_eq_some_iff,Option.map_eq_some_iff]at h
  obtain⟨y,hy,ys',hys,rfl⟩:=h
  exact RL.cons (hr o y hy) (ih hys hr)
theorem c1o{f:Nat}{xs ys:Array Value}{Xs Ys:List IOp}(hg:Good c μ Φ σ w)(hx:RL μ Φ xs.toList (Xs.map (ev env)))(hy:RL μ Φ ys.toList (Ys.map (ev env)))
  (hr:(YF L env (.mkfn f Xs Ys)).run σ=some (x,σ')):VS P (Instr.makeFunc (.func f) xs ys) w (ZN c μ Φ σ' x):=by
 simp only[YF]at hr
 split at hr
 ·obtain⟨rfl,rfl⟩:=Zp hr
  have e1:xs = #[]:=by simpa using hx.unnil
  have e2:ys = #[]:=by simpa using hy.unnil
  subst e1 e2
  exact⟨_,w,rfl,Zh hg (.pv _ _ (.fn f))⟩
 ·obtain⟨rfl,rfl⟩:=Zp hr
  exact⟨_,w,rfl,Zh hg (.fn f _ _ _ _ (by simpa using hx.1) (by simpa using hy.1) (fun j v x h k=>hx.2 j v x (by simpa using h) k) (fun j v x h k=>hy.2 j v x (by simpa using h) k))⟩
theorem Te{fo:Nat}{u:Value}{X:IOp}{I:Value->Sem Value}(key : ∀ q,(I (.pointer (some q))).run P w = .ok (.pointer (some (q.add fo))) w)
  (hg:Good c μ Φ σ w) (hu:R μ Φ u (ev env X)) (hr:(YF L env (.faddr fo X)).run σ=some (x,σ')):VS P (I u) w (ZN c μ Φ σ' x):=by
 simp only[YF]at hr
 split at hr
 ·rename_i hX
  rw[hX]at hu
  obtain⟨rfl,rfl⟩:=Zp hr
  cases hu with
  | ptr _ _ B C S hm=>exact⟨_,w,key _,Zh hg (by rw[ZP];exact .ptr _ _ B C S hm)⟩
 ·rename_i hX
  rw[hX]at hu
  obtain⟨rfl,rfl⟩:=Zp hr
  replace hu:=ZR hu
  cases hu with
  | rptr b off cs xs u hb hu hrr=>
   refine⟨_,w,key _,Zh hg ?_⟩
   rw[ZP]
   refine .pv _ _ (.rptr b (off+fo) cs _ (fun j=>u (fo+j)) hb ?_ ?_)
   ·intro j p hp
    rw[List.getElem?_drop]at hp
    have:=hu _ p hp
    rwa [<- Nat.add_assoc]at this
   ·intro j p hp
    rw[List.getElem?_drop]at hp
    exact hrr _ p hp
 ·rename_i hX
  rw[hX]at hu
  obtain⟨rfl,rfl⟩:=Zp hr
  cases hu with
  | eptr _ _ _ _ B C S hm=>exact⟨_,w,key _,Zh hg (by rw[ZP,Nat.add_assoc];exact .eptr _ _ _ _ B C S hm)⟩
 ·exact(Zg hr).elim
theorem a8k{s:TypeId}{fs:Array Field}{n:Nat}{f:Field}{i:TypeInfo}{u:Value}{X:IOp}(hs:P.underlying s=some (.struct fs))(hf:fs[n]? = some f)(hi:P.info? f.type=some i)(hz:(i.size==0)=false)
  (hg:Good c μ Φ σ w) (hu:R μ Φ u (ev env X)) (hr:(YF L env (.faddr f.offset X)).run σ=some (x,σ')):VS P (Instr.fieldAt s u n) w (ZN c μ Φ σ' x):=by
 have hz' : ¬ i.size=0:=by simpa using hz
 have key : ∀ q,(Instr.fieldAt s (.pointer (some q)) n).run P w = .ok (.pointer (some (q.add f.offset))) w:=by
  intro q
  simp[Instr.fieldAt,run_underlying hs,hf,Instr.sureAddr,fieldPlace,ZI hi,hz']
 exact Te (I:=fun u=>Instr.fieldAt s u n) key hg hu hr
theorem b6s{t e:TypeId}{n:Nat}{i:TypeInfo}{k:IntKind}{z:Int}{u:Value}{X:IOp}(ht:P.underlying t=some (.array n e))(hi:P.info? e=some i)(hz:0<=z∧z<n)
  (hg:Good c μ Φ σ w) (hu:R μ Φ u (ev env X)) (hr:(YF L env (.faddr (z.toNat*i.size) X)).run σ=some (x,σ')):VS P (Instr.indexAt t u (.int k z)) w (ZN c μ Φ σ' x):=by
 have key : ∀ q,(Instr.indexAt t (.pointer (some q)) (.int k z)).run P w = .ok (.pointer (some (q.add (z.toNat*i.size)))) w:=by
  intro q
  simp[Instr.indexAt,run_underlying ht,Instr.sureAddr,asIntOf,ZI hi,hz.1,hz.2]
 exact Te (I:=fun u=>Instr.indexAt t u (.int k z)) key hg hu hr
theorem RJ{t:TypeId}{i:TypeInfo}{cs:Array Value}{xs:List AV}{o:Nat}{y:AV}(hu:(P.underlying t).isSome=true)(hi:P.info? t=some i)(hr:RL μ Φ cs.toList xs)(ho:ZW cs.toList)
  (hl:HZ (Yu P t) i.size xs o=some y) : ∃ v,(part t cs o).run P w = .ok v w∧R μ Φ v y:=by
 unfold HZ at hl
 simp only[part,Sem.run_bind,VJ hu,Result.andThen_ok]
 cases hag:Yu P t with
 | true=>
  simp only[hag,if_true]at hl ⊢
  split at hl
  ·cases hl
   refine⟨.agg ((cs.toList.drop o).take i.size).toArray,?_,Bu ((hr.drop o).take _) ((ho.drop o).take _)⟩
   simp only[Sem.run_bind,ZI hi,Result.andThen_ok,Sem.run_pure]
   congr 2
   apply Array.ext'
   simp[Array.toList_extract]
  ·cases hl
 | false=>
  simp only[hag,if_false,Bool.false_eq_true]at hl ⊢
  obtain⟨v,hv,hR⟩:=hr.at_ hl
  have:cs[o]? = some v:=by simpa using hv
  exact⟨v,by simp[this],hR⟩
theorem b7t{s:TypeId}{fs:Array Field}{n:Nat}{f:Field}{i:TypeInfo}{u:Value}{X:IOp}(hs:P.underlying s=some (.struct fs))(hf:fs[n]? = some f)(hu':(P.underlying f.type).isSome=true)(hi:P.info? f.type=some i)
  (hg:Good c μ Φ σ w) (hu:R μ Φ u (ev env X)) (hr:(YF L env (.field (Yu P f.type) f.offset i.size X)).run σ=some (x,σ')):VS P (Instr.field s u n) w (ZN c μ Φ σ' x):=by
 simp only[YF]at hr
 split at hr
 ·rename_i ps hX
  rw[hX]at hu
  obtain⟨hl,rfl⟩:=WZ hr
  replace hu:=ZR hu
  have hc:=VQ hu rfl
  cases hu with
  | agg cs _ hn ho h=>
   obtain⟨v,h1,h2⟩:=RJ (P:=P) (w:=w) (μ:=μ) (cs:=cs) hu' hi hc.1.toRL hc.2 hl
   exact⟨v,w,by simpa [Instr.field,run_underlying hs,hf,asAgg]using h1,Zh hg h2⟩
 ·rename_i ps hX
  rw[hX]at hu
  obtain⟨hl,rfl⟩:=WZ hr
  have hc:=Bn hu rfl
  cases hu with
  | agg cs _ hn ho h=>
   obtain⟨v,h1,h2⟩:=RJ (P:=P) (w:=w) (μ:=μ) (cs:=cs) hu' hi hc.1 hc.2 hl
   exact⟨v,w,by simpa [Instr.field,run_underlying hs,hf,asAgg]using h1,Zh hg h2⟩
 ·exact(Zg hr).elim
theorem OJ{u:Value}{X:IOp}{n:Nat}(hg:Good c μ Φ σ w)(hu:R μ Φ u (ev env X))(hr:(YF L env (.extract X n)).run σ=some (x,σ')):VS P (Instr.extract u n) w (ZN c μ Φ σ' x):=by
 simp only[YF]at hr
 split at hr
 ·rename_i ps hX
  rw[hX]at hu
  obtain⟨hl,rfl⟩:=WZ hr
  rw[Option.map_eq_some_iff]at hl
  obtain⟨p,hp,rfl⟩:=hl
  replace hu:=ZR hu
  cases hu with
  | tup cs _ hn h=>
   have hlt:=(List.getElem?_eq_some_iff.1 hp).1
   have e:cs[n]? = some (cs[n]'(by omega)):=Array.getElem?_eq_getElem (by omega)
   exact⟨_,w,by simp[Instr.extract,e] <;> rfl,Zh hg (.pv _ _ (h n _ p e hp))⟩
 ·rename_i ps hX
  rw[hX]at hu
  obtain⟨hl,rfl⟩:=WZ hr
  cases hu with
  | tup cs _ hn h=>
   have hlt:=(List.getElem?_eq_some_iff.1 hl).1
   have e:cs[n]? = some (cs[n]'(by omega)):=Array.getElem?_eq_getElem (by omega)
   exact⟨_,w,by simp[Instr.extract,e] <;> rfl,Zh hg (h n _ x e hl)⟩
 ·exact(Zg hr).elim
theorem a9o{t:TypeId}{u v:Value}{X Y:IOp}(ht:P.underlying t=some .string)(hg:Good c μ Φ σ w)(hu:R μ Φ u (ev env X))(hv:R μ Φ v (ev env Y))(hr:(YF L env (.index X Y)).run σ=some (x,σ')):
  VS P (Instr.index t u v) w (ZN c μ Φ σ' x):=by
 simp only[YF]at hr
 split at hr
 ·rename_i s k i hX hY
  rw[hX]at hu
  rw[hY]at hv
  replace hu:=ZR hu
  replace hv:=ZR hv
  have hqr:=ZM hr
  clear hr
  obtain⟨hq,hr⟩:=hqr
  simp only[Bool.and_eq_true,decide_eq_true_eq]at hq
  obtain⟨h0,hlt0⟩:=hq
  obtain⟨rfl,rfl⟩:=Zp hr
  cases hv
  cases hu with
  | str s=>
   have hlt:i.toNat<s.size:=by simpa using hlt0
   have hb':s[i.toNat]? = some (s.data.toList.getD i.toNat 0):=by
    rw[getElem?_pos s i.toNat hlt]
    have h2:s.data.toList.getD i.toNat 0=s.data.toList[i.toNat]:=by simp[List.getD,List.getElem?_eq_getElem hlt0]
    rw[h2]
    rfl
   exact⟨_,w,by simp[Instr.index,asIntOf,run_underlying ht,h0,hb'] <;> rfl,Zh hg (.pv _ _ (.int _ _))⟩
 ·exact(Zg hr).elim
theorem a7e{sz:Nat}{t:Bool}{xs:List PV}{v:Value}{i:Nat}{y:PV}(h:RP Φ v (.sl sz t xs))(hy:xs[i]? = some y):
  ∃ b off c,v = .slice (some ⟨b,off,none⟩) xs.length c∧RP Φ (.pointer (some ⟨b,off+i*sz,none⟩)) (.rptr y.cells):=by
 have hi:=(List.getElem?_eq_some_iff.1 hy).1
 cases h with
 | sl0=>simp at hi
 | sl b off cs c _ _ _ u hb hc ht hs hu hr=>
  refine⟨b,off,c,rfl,.rptr b (off+i*sz) cs _ (fun j=>u (i*sz+j)) hb ?_ ?_⟩
  ·intro j p hp
   have e:(flat xs)[i*sz+j]? = some p:=by
    rw[<- HY hs hy,List.getElem?_take]at hp
    split at hp
    ·rwa [List.getElem?_drop]at hp
    ·cases hp
   have:=hu _ p e
   rwa [<- Nat.add_assoc]at this
  ·intro j p hp
   have e:(flat xs)[i*sz+j]? = some p:=by
    rw[<- HY hs hy,List.getElem?_take]at hp
    split at hp
    ·rwa [List.getElem?_drop]at hp
    ·cases hp
   exact hr _ p e
theorem a9q{t e:TypeId}{i:TypeInfo}{u v:Value}{X Y:IOp}(ht:P.underlying t=some (.slice e))(hi:P.info? e=some i)(hg:Good c μ Φ σ w)(hu:R μ Φ u (ev env X))(hv:R μ Φ v (ev env Y))
  (hr:(YF L env (.iaddr i.size X Y)).run σ=some (x,σ')):VS P (Instr.indexAt t u v) w (ZN c μ Φ σ' x):=by
 have key : ∀ q (len:Nat) cap k (n:Int),0<=n->n<(len:Int)->(Instr.indexAt t (.slice (some q) len cap) (.int k n)).run P w = .ok (.pointer (some (q.add (n.toNat*i.size)))) w:=by
  intro q len cap k n h0 h1
  simp[Instr.indexAt,asIntOf,run_underlying ht,ZI hi,h0,h1]
 simp only[YF]at hr
 split at hr
 ·rename_i sz' t' xs k n hX hY
  rw[hX]at hu
  rw[hY]at hv
  replace hu:=ZR hu
  replace hv:=ZR hv
  have hqr:=ZM hr
  clear hr
  obtain⟨hq,hr⟩:=hqr
  simp only[Bool.and_eq_true,decide_eq_true_eq,beq_iff_eq]at hq
  obtain⟨⟨h0,hlt⟩,rfl⟩:=hq
  have hy:xs[n.toNat]? = some (xs.getD n.toNat default):=by simp[List.getD,List.getElem?_eq_getElem hlt]
  obtain⟨rfl,rfl⟩:=Zp hr
  cases hv
  obtain⟨b,off,cp,rfl,h2⟩:=a7e hu hy
  exact⟨_,w,key _ _ _ _ _ h0 (by omega),Zh hg (by rw[ZP];exact .pv _ _ h2)⟩
 ·rename_i l n lo hi' k m hX hY
  rw[hX]at hu
  rw[hY]at hv
  replace hv:=ZR hv
  obtain⟨ob,hob,hr⟩:=YP hr
  split at hr
  ·rename_i fz ty sz' xs
   split at hr
   ·rename_i he
    subst he
    have hqr:=ZM hr
    clear hr
    obtain⟨hq,hr⟩:=hqr
    simp only[Bool.and_eq_true,decide_eq_true_eq,beq_iff_eq]at hq
    obtain⟨⟨h0,h1⟩,hn⟩:=hq
    obtain⟨rfl,rfl⟩:=Zp hr
    cases hv
    cases hu with
    | row _ _ _ _ B C S q hm h2 h3 h4 ha=>
     obtain⟨rfl,_⟩:=UK hg hob hn hm
     have hq:=ha (.inl (by omega))
     subst hq
     refine⟨_,w,key _ _ _ _ _ h0 (by omega),Zh hg ?_⟩
     rw[ZP,<- Nat.add_mul]
     exact .eptr l n _ 0 B C _ hm
   ·exact(Zg hr).elim
  ·exact(Zg hr).elim
 ·exact(Zg hr).elim
end
end Go.Pl
namespace Go.Pl
open Go.RowKit
section
variable {P:Program} {c:Ctx} {μ:Mu} {Φ:Zv} {σ σ':Zu} {w:World} {a:Act} {env:List AV} {L:Nat} {x:AV}
def BR(d:Nat)(o:Option Value)(n:Nat):Prop:=(o=none∧n=d) ∨ ∃ k i,o=some (.int k i)∧0<=i∧n=i.toNat
theorem c8e{a:Act}(he:YE μ Φ a.tmps env){d n:Nat}{o:Option Operand}{o':Option IOp}(ho:(match o with|none=>some none|some z=>(ZV z).map some)=some o')(h:Sl env d o'=some (true,n)):BR d (o.map a.eval) n:=by
 cases o with
 | none=>
  simp at ho
  subst ho
  simp[Sl]at h
  exact .inl ⟨rfl,h.symm⟩
 | some z=>
  simp only[Option.map_eq_some_iff]at ho
  obtain⟨y,hy,rfl⟩:=ho
  simp only[Sl]at h
  split at h
  ·rename_i k i hX
   simp only[Option.some.injEq,Prod.mk.injEq,decide_eq_true_eq]at h
   obtain⟨h0,rfl⟩:=h
   have:=ZF he hy
   rw[hX]at this
   have:=ZR this
   generalize hz:a.eval z=q at this
   cases this
   exact .inr ⟨_,_,by simp[hz] <;> rfl,h0,rfl⟩
  ·cases h
theorem QD{v:Value}{k:IntKind}{i:Int}{y:Nat}{code:BoundsCode}(hv:v = .int k i)(h0:0<=i)(h1:i.toNat<=y):(Instr.sliceBound v y code).run P w = .ok i.toNat w:=by
 subst hv
 have:i<=(y:Int):=by omega
 simp[Instr.sliceBound,asIntOf,h0,this]
theorem Js{isSl:Bool}{len cap l h:Nat}{lo hi:Option Value}(hl:BR 0 lo l)(hh:BR len hi h)(h1:l<=h)(h2:h<=cap):
  (Instr.sliceBounds isSl len cap lo hi none).run P w = .ok (l,h,cap) w:=by
 rcases hl with ⟨rfl,rfl⟩|⟨k,i,rfl,hi0,rfl⟩ <;> rcases hh with ⟨rfl,rfl⟩|⟨k',i',rfl,hi0',rfl⟩
 ·simp[Instr.sliceBounds]
 ·simp[Instr.sliceBounds,QD (P:=P) (w:=w) rfl hi0' h2]
 ·simp[Instr.sliceBounds,QD (P:=P) (w:=w) rfl hi0 h1]
 ·simp[Instr.sliceBounds,QD (P:=P) (w:=w) rfl hi0' h2,QD (P:=P) (w:=w) rfl hi0 h1]
theorem MI{len cap l h m:Nat}{lo hi:Option Value}{mx:Value}{d:Nat}(hl:BR 0 lo l)(hh:BR len hi h)(hhi:hi≠none)(hm:BR d (some mx) m)(h1:l<=h)(h2:h<=m)(h3:m<=cap):
  (Instr.sliceBounds true len cap lo hi (some mx)).run P w = .ok (l,h,m) w:=by
 rcases hm with ⟨h,_⟩|⟨k0,i0,e,hi00,rfl⟩
 ·cases h
 cases e
 rcases hl with ⟨rfl,rfl⟩|⟨k,i,rfl,hi0,rfl⟩ <;> rcases hh with ⟨rfl,rfl⟩|⟨k',i',rfl,hi0',rfl⟩
 ·exact absurd rfl hhi
 ·simp[Instr.sliceBounds,QD (P:=P) (w:=w) rfl hi00 h3,QD (P:=P) (w:=w) rfl hi0' h2]
 ·exact absurd rfl hhi
 ·simp[Instr.sliceBounds,QD (P:=P) (w:=w) rfl hi00 h3,QD (P:=P) (w:=w) rfl hi0' h2,QD (P:=P) (w:=w) rfl hi0 h1]
theorem a3p{sz:Nat}{t:Bool}{xs:List PV}{b:Option Addr}{n cap l h m:Nat}(hv:RP Φ (.slice b n cap) (.sl sz t xs))(h1:l<=h)(h2:h<=xs.length)(h3:h<=m)(h4:m<=cap)(t':Bool)(ht:t'=true->m=h)(s:Nat)(hs:xs=[]∨s=sz):
  RP Φ (.slice (if m=l then b else b.map (·.add (l*s))) (h - l) (m - l)) (.sl sz t' ((xs.take h).drop l)):=by
 by_cases hlh:l=h
 ·subst hlh
  have e:(xs.take l).drop l=[]:=by simp
  rw[e,Nat.sub_self]
  exact .sl0 _ _ _ _ (fun e=>by have:=ht e;omega)
 ·have hlt:l<h:=by omega
  cases hv with
  | sl0=>simp at h2;omega
  | sl b off cs _ _ _ _ u hb hc htt hss hu hr=>
   have hs':s=sz:=by
    rcases hs with rfl|hs
    ·simp at h2;omega
    ·exact hs
   subst hs'
   have hne : ¬ m=l:=by omega
   have hlen:((xs.take h).drop l).length=h - l:=by simp;omega
   rw[if_neg hne,Option.map_some,ZP,<- hlen]
   have hfl : ∀ (j:Nat) p,(flat ((xs.take h).drop l))[j]? = some p->(flat xs)[l*s+j]? = some p:=by
    intro j p hp
    rw[<- UH (fun x hx=>hss x (List.mem_of_mem_take hx)),<- Ki hss,List.getElem?_drop,List.getElem?_take]at hp
    split at hp
    ·exact hp
    ·cases hp
   refine .sl b (off+l*s) cs _ s t' _ (fun j=>u (l*s+j)) hb (by rw[hlen];omega) (fun e=>by have:=ht e;rw[hlen];omega) ?_ ?_ ?_
   ·intro x hx
    exact hss x (List.mem_of_mem_take (List.mem_of_mem_drop hx))
   ·intro j p hp
    have:=hu _ p (hfl j p hp)
    rwa [<- Nat.add_assoc]at this
   ·intro j p hp
    exact hr _ p (hfl j p hp)
theorem a4m{t:TypeId}{u:Value}{X:IOp}{lo hi:Option IOp}{vlo vhi:Option Value}(ht:P.underlying t=some .string)
  (hb1 : ∀ n,Sl env 0 lo=some (true,n)->BR 0 vlo n) (hb2 : ∀ d n,Sl env d hi=some (true,n)->BR d vhi n)
  (hg:Good c μ Φ σ w) (hu:R μ Φ u (ev env X)) (hr:(YF L env (.strslc X lo hi)).run σ=some (x,σ')):VS P (Instr.sliceAt t u vlo vhi none) w (ZN c μ Φ σ' x):=by
 simp only[YF]at hr
 split at hr
 ·rename_i s hX
  rw[hX]at hu
  split at hr
  ·rename_i r1 l r2 h hl hh
   have hqr:=ZM hr
   clear hr
   obtain⟨hq,hr⟩:=hqr
   simp only[Bool.and_eq_true,decide_eq_true_eq]at hq
   obtain⟨⟨⟨rfl,rfl⟩,hc1⟩,hc2⟩:=hq
   have bl:=hb1 l hl
   have bh:=hb2 _ h hh
   obtain⟨rfl,rfl⟩:=Zp hr
   replace hu:=ZR hu
   cases hu with
   | str z=>
    have e:z.data.toList.length=z.size:=by simp
    rw[e]at bh hc2
    refine⟨.string (z.extract l h),w,?_,Zh hg (.pv _ _ (RP.str' ?_))⟩
    ·simp[Instr.sliceAt,Instr.slice,run_underlying ht,Js (P:=P) (w:=w) (isSl:=false) (len:=z.size) (cap:=z.size) bl bh hc1 hc2]
    ·simp[ByteArray.data_extract,List.drop_take]
  ·exact(Zg hr).elim
 ·exact(Zg hr).elim
theorem d3i{t e:TypeId}{i:TypeInfo}{u:Value}{X:IOp}{lo hi mx:Option IOp}{vlo vhi vmx:Option Value}(ht:P.underlying t=some (.slice e))(hi':P.info? e=some i)
  (hb1 : ∀ n,Sl env 0 lo=some (true,n)->BR 0 vlo n) (hb2 : ∀ d n,Sl env d hi=some (true,n)->BR d vhi n) (hb3:mx=none->vmx=none) (hb4:hi≠none->vhi≠none)
  (hb5 : ∀ m,mx=some m-> ∃ v,vmx=some v∧ ∀ d n,Sl env d (some m)=some (true,n)->BR d (some v) n)
  (hg:Good c μ Φ σ w) (hu:R μ Φ u (ev env X)) (hr:(YF L env (.slc i.size X lo hi mx)).run σ=some (x,σ')):VS P (Instr.sliceAt t u vlo vhi vmx) w (ZN c μ Φ σ' x):=by
 simp only[YF]at hr
 split at hr
 ·rename_i sz' tt xs hX
  rw[hX]at hu
  replace hu:=ZR hu
  have hszz:(xs.isEmpty||sz'==i.size)=true->xs=[]∨i.size=sz':=by
   intro hsz
   rcases Bool.or_eq_true _ _ |>.mp hsz with h|h
   ·exact .inl (by simpa using h)
   ·exact .inr (by simpa using (beq_iff_eq.mp h).symm)
  have hlen : ∃ b cp,u = .slice b xs.length cp∧xs.length<=cp∧(tt=true->cp=xs.length):=by
   cases hu with
   | sl0 a c sz t h=>exact⟨a,c,rfl,by simp,fun e=>by simpa using h e⟩
   | sl b off cs c sz t xs u hb hc htt hs hu hr=>exact⟨_,c,rfl,hc,htt⟩
  obtain⟨b,cp,rfl,hcp,htt⟩:=hlen
  split at hr
  ·rename_i r1 l r2 h hl hh
   split at hr
   ·have hv:=hb3 rfl
    subst hv
    have hqr:=ZM hr
    clear hr
    obtain⟨hq,hr⟩:=hqr
    simp only[Bool.and_eq_true,decide_eq_true_eq]at hq
    obtain⟨⟨⟨⟨rfl,rfl⟩,hsz⟩,hc1⟩,hc2⟩:=hq
    have bl:=hb1 l hl
    have bh:=hb2 _ h hh
    have hsz':=hszz hsz
    obtain⟨rfl,rfl⟩:=Zp hr
    refine⟨_,w,?_,Zh hg (.pv _ _ (a3p hu hc1 hc2 (Nat.le_trans hc2 hcp) (Nat.le_refl cp) _ ?_ _ hsz'))⟩
    ·simp[Instr.sliceAt,Instr.slice,run_underlying ht,Js (P:=P) (w:=w) (isSl:=true) (len:=xs.length) (cap:=cp) bl bh hc1 (Nat.le_trans hc2 hcp),ZI hi']
    ·intro e
     simp at e
     rw[htt e.1,e.2]
   ·rename_i m
    split at hr
    ·rename_i r3 m' hm'
     obtain⟨v,rfl,hv⟩:=hb5 m rfl
     have hqr:=ZM hr
     clear hr
     obtain⟨hq,hr⟩:=hqr
     simp only[Bool.and_eq_true,decide_eq_true_eq]at hq
     obtain⟨⟨⟨⟨⟨⟨rfl,rfl⟩,rfl⟩,hsz⟩,hc1⟩,hc2⟩,hc3⟩:=hq
     have bl:=hb1 l hl
     have bh:=hb2 _ h hh
     have hsz':=hszz hsz
     have bm:=hv _ _ hm'
     obtain⟨rfl,rfl⟩:=Zp hr
     refine⟨_,w,?_,Zh hg (.pv _ _ (a3p hu hc1 (Nat.le_trans hc2 hc3) hc2 (Nat.le_trans hc3 hcp) _ ?_ _ hsz'))⟩
     ·simp[Instr.sliceAt,Instr.slice,run_underlying ht,MI (P:=P) (w:=w) (len:=xs.length) (cap:=cp) bl bh (hb4 (by simp)) bm hc1 hc2 (Nat.le_trans hc3 hcp),ZI hi']
     ·intro e
      simp at e
      exact e.symm
    ·exact(Zg hr).elim
  ·exact(Zg hr).elim
 ·rename_i r n lo' hi2 hX
  rw[hX]at hu
  split at hr
  ·rename_i r1 l r2 h hl hh
   have hv:=hb3 rfl
   subst hv
   have hqr:=YP hr
   clear hr
   obtain⟨ob,hob,hr⟩:=hqr
   split at hr
   ·rename_i fz ty sz' xs
    split at hr
    ·rename_i he
     subst he
     have hqr:=ZM hr
     clear hr
     obtain⟨hq,hr⟩:=hqr
     simp only[Bool.and_eq_true,decide_eq_true_eq,beq_iff_eq]at hq
     obtain⟨⟨⟨⟨rfl,rfl⟩,hc1⟩,hc2⟩,hn⟩:=hq
     have bl:=hb1 l hl
     have bh:=hb2 _ h hh
     obtain⟨rfl,rfl⟩:=Zp hr
     cases hu with
     | row _ _ _ _ B C S q hm h2 h3 h4 ha=>
      obtain⟨rfl,_⟩:=UK hg hob hn hm
      refine⟨_,w,by simp[Instr.sliceAt,Instr.slice,run_underlying ht,Js (P:=P) (w:=w) (isSl:=true) (len:=hi2 - lo') (cap:=C - lo') bl bh hc1 (by omega),ZI hi'] <;> rfl,Zh hg ?_⟩
      have e1:h - l=(lo'+h) - (lo'+l):=by omega
      have e2:C - lo' - l=C - (lo'+l):=by omega
      rw[e1,e2]
      refine .row r n _ _ B C _ _ hm (by omega) (by omega) h4 ?_
      intro hor
      by_cases hz:C - lo'=l
      ·rw[if_pos hz]
       rcases hor with h|h
       ·omega
       ·have hl0:lo'=0:=by omega
        have hl1:l=0:=by omega
        subst hl0 hl1
        have:=ha (.inr rfl)
        simpa using this
      ·rw[if_neg hz]
       have hq:=ha (by omega)
       subst hq
       simp[ZP,Nat.add_mul]
    ·exact(Zg hr).elim
   ·exact(Zg hr).elim
  ·exact(Zg hr).elim
 ·exact(Zg hr).elim
end
end Go.Pl
namespace Go.Pl
open Go.RowKit
mutual
theorem Dq: ∀ (x:AV) {c:Ctx} {μ:Mu} {Φ:Zv} {σ σ':Zu} {w:World} {v:Value} {p:PV},(frz x).run σ=some (p,σ')->Good c μ Φ σ w->R μ Φ v x ->
  ∃ Φ',Φ.le Φ'∧Good c μ Φ' σ' w∧RP Φ' v p
 | .pv q,c,μ,Φ,σ,σ',w,v,p,hr,hg,hv=>by
  simp only[frz]at hr
  obtain⟨rfl,rfl⟩:=Zp hr
  exact⟨Φ,Zv.le.refl _,hg,ZR hv⟩
 | .row l n lo hi,c,μ,Φ,σ,σ',w,v,p,hr,hg,hv=>by
  simp only[frz]at hr
  obtain⟨ob,hob,hr⟩:=YP hr
  split at hr
  ·rename_i fz ty sz xs
   ·obtain⟨hn,hr⟩:=ZM hr
    have hn:=beq_iff_eq.mp hn
    obtain⟨_,hr⟩:=Un hr
    obtain⟨rfl,rfl⟩:=Zp hr
    obtain⟨Φ',B,C,cs,h1,h2,h3,h4,h5,h6,h7,h8,h9⟩:=hg.freeze hob
    refine⟨Φ',h1,h2,?_⟩
    cases hv with
    | row _ _ _ _ B' C' S q hm k2 k3 k4 ha=>
     rw[hn,hm]at h3
     cases h3
     by_cases hlh:lo=hi
     ·subst hlh
      have e:(xs.take lo).drop lo=[]:=by simp
      rw[e,Nat.sub_self]
      exact .sl0 _ _ _ _ (fun e=>by cases e)
     ·have hq:=ha (.inl (by omega))
      subst hq
      have hlen:((xs.take hi).drop lo).length=hi - lo:=by simp;omega
      rw[<- hlen]
      have hfl : ∀ (j:Nat) p,(flat ((xs.take hi).drop lo))[j]? = some p->(flat xs)[lo*sz+j]? = some p:=by
       intro j p hp
       rw[<- UH (fun x hx=>h7 x (List.mem_of_mem_take hx)),<- Ki h7,List.getElem?_drop,List.getElem?_take]at hp
       split at hp
       ·exact hp
       ·cases hp
      have hcell : ∀ (j:Nat) p,(flat ((xs.take hi).drop lo))[j]? = some p-> ∃ u,cs[lo*sz+j]? = some u∧u.oneCell'=true∧RP Φ u p:=by
       intro j p hp
       obtain⟨u,hu,hR⟩:=h8.at_ (hfl j p hp)
       have hu':=hu
       rw[List.getElem?_take]at hu'
       split at hu'
       ·exact⟨u,by simpa using hu',h9 u (List.mem_of_getElem? hu),hR⟩
       ·cases hu'
      refine .sl B (lo*sz) cs _ sz false _ (fun j=>cs.getD (lo*sz+j) Go.undef) h4 (by rw[hlen];omega) (fun e=>by cases e) (fun x hx=>h7 x (List.mem_of_mem_take (List.mem_of_mem_drop hx))) ?_ ?_
      ·intro j p hp
       obtain⟨u,hu,ho,_⟩:=hcell j p hp
       simp[Array.getD_eq_getD_getElem?,hu,ho]
      ·intro j p hp
       obtain⟨u,hu,_,hR⟩:=hcell j p hp
       simpa [Array.getD_eq_getD_getElem?,hu]using hR.mono h1
  ·exact(Zg hr).elim
 | .agg xs,c,μ,Φ,σ,σ',w,v,p,hr,hg,hv=>by
  simp only[frz]at hr
  rw[HM.run_bind,Option.bind_eq_some_iff]at hr
  obtain⟨⟨ps,σ1⟩,h1,h2⟩:=hr
  obtain⟨rfl,rfl⟩:=Zp h2
  have hc:=Bn hv rfl
  cases hv with
  | agg cs _ hn ho h=>
   obtain⟨Φ',k1,k2,k3⟩:=Qu xs h1 hg hc.1
   exact⟨Φ',k1,k2,.agg cs ps (by simpa [Value.cells]using k3.1) ho (fun j v x hv hx=>k3.2 j v x (by simpa [Value.cells]using hv) hx)⟩
 | .tup xs,c,μ,Φ,σ,σ',w,v,p,hr,hg,hv=>by
  simp only[frz]at hr
  rw[HM.run_bind,Option.bind_eq_some_iff]at hr
  obtain⟨⟨ps,σ1⟩,h1,h2⟩:=hr
  obtain⟨rfl,rfl⟩:=Zp h2
  cases hv with
  | tup cs _ hn h=>
   obtain⟨Φ',k1,k2,k3⟩:=Qu xs (vs:=cs.toList) h1 hg ⟨by simpa using hn,fun j v x hv hx=>h j v x (by simpa using hv) hx⟩
   exact⟨Φ',k1,k2,.tup cs ps (by simpa using k3.1) (fun j v x hv hx=>k3.2 j v x (by simpa using hv) hx)⟩
 | .fn f [] [],c,μ,Φ,σ,σ',w,v,p,hr,hg,hv=>by
  simp only[frz]at hr
  obtain⟨rfl,rfl⟩:=Zp hr
  cases hv with
  | fn _ cs ds _ _ hn hm h k=>
   have e1:cs = #[]:=by simpa using hn
   have e2:ds = #[]:=by simpa using hm
   subst e1 e2
   exact⟨Φ,Zv.le.refl _,hg,.fn f⟩
 | .fn f (_::_) _,_,_,_,_,_,_,_,_,hr,_,_=>by simp only[frz]at hr;exact(Zg hr).elim
 | .fn f [] (_::_),_,_,_,_,_,_,_,_,hr,_,_=>by simp only[frz]at hr;exact(Zg hr).elim
 | .junk,_,_,_,_,_,_,_,_,hr,_,_=>by simp only[frz]at hr;exact(Zg hr).elim
 | .undef,_,_,_,_,_,_,_,_,hr,_,_=>by simp only[frz]at hr;exact(Zg hr).elim
 | .ptr _ _,_,_,_,_,_,_,_,_,hr,_,_=>by simp only[frz]at hr;exact(Zg hr).elim
 | .eptr _ _ _ _,_,_,_,_,_,_,_,_,hr,_,_=>by simp only[frz]at hr;exact(Zg hr).elim
 | .map _,_,_,_,_,_,_,_,_,hr,_,_=>by simp only[frz]at hr;exact(Zg hr).elim
theorem Qu: ∀ (xs:List AV) {c:Ctx} {μ:Mu} {Φ:Zv} {σ σ':Zu} {w:World} {vs:List Value} {ps:List PV},(KR xs).run σ=some (ps,σ')->Good c μ Φ σ w->RL μ Φ vs xs ->
  ∃ Φ',Φ.le Φ'∧Good c μ Φ' σ' w∧Xy Φ' vs ps
 | [],c,μ,Φ,σ,σ',w,vs,ps,hr,hg,hv=>by
  simp only[KR]at hr
  obtain⟨rfl,rfl⟩:=Zp hr
  have:=hv.unnil
  subst this
  exact⟨Φ,Zv.le.refl _,hg,rfl,fun j v x h=>by simp at h⟩
 | x::xs,c,μ,Φ,σ,σ',w,vs,ps,hr,hg,hv=>by
  simp only[KR]at hr
  rw[HM.run_bind,Option.bind_eq_some_iff]at hr
  obtain⟨⟨p,σ1⟩,h1,h2⟩:=hr
  rw[HM.run_bind,Option.bind_eq_some_iff]at h2
  obtain⟨⟨qs,σ2⟩,h3,h4⟩:=h2
  obtain⟨rfl,rfl⟩:=Zp h4
  obtain⟨v,vs',rfl,k1,k2⟩:=hv.uncons
  obtain⟨Φ1,a1,a2,a3⟩:=Dq x h1 hg k1
  obtain⟨Φ2,b1,b2,b3⟩:=Qu xs h3 a2 (k2.mono (Mu.le.refl _) a1)
  refine⟨Φ2,a1.trans b1,b2,by simp[b3.1],?_⟩
  intro j u y hu hy
  cases j with
  | zero=>simp at hu hy;subst hu hy;exact a3.mono b1
  | succ j=>simp at hu hy;exact b3.2 j u y hu hy
end
section
variable {P:Program} {c:Ctx} {μ:Mu} {Φ:Zv} {σ σ':Zu} {w:World} {a:Act} {env:List AV} {L:Nat} {x:AV}
theorem a1i(hg:Good c μ Φ σ w)(hl:σ[L]? = some .fresh){cs:Array Value}{xs:List AV}(T:TypeId)(hr:RL μ Φ cs.toList xs)(ho:ZW cs.toList):
  ∃ μ',μ.le μ'∧Good c μ' Φ (σ.set L (.obj (.box xs))) (w.alloc (.cells cs T))∧R μ' Φ (.pointer (some ⟨w.heap.size,0,none⟩)) (.ptr L 0):=by
 have hm:μ L 0=none:=hg.fresh L 0 (.inr hl)
 have hle:=Mu.le_add μ L 0 (w.heap.size,0,0) (.inl hm)
 refine⟨μ.add L 0 (w.heap.size,0,0),hle,?_,.ptr L 0 _ 0 0 (Mu.add_same _ _ _ _)⟩
 refine hg.new hl hle (fun l' h n=>Mu.add_ne _ _ _ _ _ _ h) rfl rfl rfl (by simp) (fun b hb=>Xq w _ b hb) ?_ (by simp[blk,Mu.add_same])
 refine⟨w.heap.size,0,0,T,cs,Mu.add_same _ _ _ _,Xp w _,hr.mono hle (Zv.le.refl _),ho,?_⟩
 cases hp:Φ w.heap.size with
 | none=>rfl
 | some cs'=>
  obtain⟨T',fz,hh⟩:=hg.phi _ _ hp
  have:=(Array.getElem?_eq_some_iff.1 hh).1
  omega
theorem Kk(hg:Good c μ Φ σ w){b:Nat}(hb:w.heap.size<=b):Φ b=none:=by
 cases hp:Φ b with
 | none=>rfl
 | some cs'=>
  obtain⟨T',fz,hh⟩:=hg.phi _ _ hp
  have:=(Array.getElem?_eq_some_iff.1 hh).1
  omega
theorem JM{w':World}(hg:Good c μ Φ σ w)(hl:σ[L]? = some .fresh){xs:List PV}{ty sz B C:Nat}{cs:Array Value}(hos:w'.os=w.os)(htape:w'.tape=w.tape)(hout:w'.output=w.output)(hsize:w.heap.size<=w'.heap.size)
  (hw : ∀ b,b<w.heap.size->w'.heap[b]? = w.heap[b]?) (hB:w.heap.size<=B) (hh:w'.heap[B]? = some (.cells cs ty (0,0))) (hcs:cs.size=C*sz) (hn:xs.length<=C) (hC:C<=maxLen)
  (hs : ∀ x∈xs,x.cells.length=sz) (hr:Xy Φ (cs.toList.take (xs.length*sz)) (flat xs)) (ho:ZW (cs.toList.take (xs.length*sz))) :
  ∃ μ',μ.le μ'∧Good c μ' Φ (σ.set L (.obj (.row false ty sz xs))) w'∧R μ' Φ (.slice (some ⟨B,0,none⟩) xs.length C) (.row L xs.length 0 xs.length):=by
 have hm : ∀ n,μ L n=none:=fun n=>hg.fresh L n (.inr hl)
 have hle:=Mu.le_add μ L xs.length (B,C,sz) (.inl (hm _))
 refine⟨μ.add L xs.length (B,C,sz),hle,?_,?_⟩
 ·refine hg.new hl hle (fun l' h n=>Mu.add_ne _ _ _ _ _ _ h) hos htape hout hsize hw ?_ (by simp[blk,Mu.add_same];exact hB)
  exact⟨B,C,cs,Mu.add_same _ _ _ _,fun n h=>by rw[Mu.add_ver _ _ _ _ _ (by omega)];exact hm n,.of hh,hcs,hn,hC,hs,hr,ho,by simp[Kk hg hB]⟩
 ·have:=R.row (μ:=μ.add L xs.length (B,C,sz)) (Φ:=Φ) L xs.length 0 xs.length B C sz (some ⟨B,0,none⟩) (Mu.add_same _ _ _ _) (Nat.zero_le _) (Nat.le_refl _) hn (fun _=>by simp)
  simpa using this
theorem d2c{t:TypeId}{i:TypeInfo}{u:Value}{X:IOp}(hg:Good c μ Φ σ w)(hu:R μ Φ u (ev env X))(hr:(YF L env (.box i.size X)).run σ=some (x,σ')):VS P (Instr.box t u) w (ZN c μ Φ σ' x):=by
 simp only[YF]at hr
 split at hr
 ·rename_i hc
  obtain⟨hl,hr⟩:=Qa hr
  obtain⟨rfl,rfl⟩:=Zp hr
  obtain⟨h1,h2⟩:=Bn hu hc.2
  obtain⟨μ',k1,k2,k3⟩:=a1i hg hl t h1 h2
  exact⟨_,_,by simp[Instr.box,newVar,newRow] <;> rfl,μ',Φ,k1,Zv.le.refl _,k2,k3⟩
 ·exact(Zg hr).elim
theorem a9i{t:TypeId}{i:TypeInfo}{z:Value}{p:PV}(hi:P.info? t=some i)(hz:i.zero=some z)(hp:Vn z=some p)(hg:Good c μ Φ σ w)(hr:(YF L env (.alloc p)).run σ=some (x,σ')):
  VS P (Instr.alloc t true (.tuple #[])) w (ZN c μ Φ σ' x):=by
 simp only[YF]at hr
 obtain⟨hl,hr⟩:=Qa hr
 obtain⟨rfl,rfl⟩:=Zp hr
 obtain⟨h1,h2⟩:=VQ (VB (Φ:=Φ) hp) (Xe hp)
 have e:AV.cells (.pv p)=p.cells.map .pv:=by cases p <;> rfl
 rw[e]
 obtain⟨μ',k1,k2,k3⟩:=a1i hg hl t (h1.toRL (μ:=μ)) h2
 exact⟨_,_,by simp[Instr.alloc,zeroValue,typeInfo,hi,hz,newVar,newRow] <;> rfl,μ',Φ,k1,Zv.le.refl _,k2,k3⟩
theorem b5e{t:TypeId}(hg:Good c μ Φ σ w)(hr:(YF L env .mkmap).run σ=some (x,σ')):VS P (Instr.makeMap t none) w (ZN c μ Φ σ' x):=by
 simp only[YF]at hr
 obtain⟨hl,hr⟩:=Qa hr
 obtain⟨rfl,rfl⟩:=Zp hr
 have hm:μ L 0=none:=hg.fresh L 0 (.inr hl)
 have hle:=Mu.le_add μ L 0 (w.heap.size,0,0) (.inl hm)
 refine⟨.map (some w.heap.size),w.alloc (.map #[] 0),rfl,μ.add L 0 (w.heap.size,0,0),Φ,hle,Zv.le.refl _,?_,.map L _ 0 0 (Mu.add_same _ _ _ _)⟩
 refine hg.new hl hle (fun l' h n=>Mu.add_ne _ _ _ _ _ _ h) rfl rfl rfl (by simp) (fun b hb=>Xq w _ b hb) ?_ (by simp[blk,Mu.add_same])
 exact⟨w.heap.size,0,0,#[],0,Mu.add_same _ _ _ _,Xp w _,rfl,fun j e p h=>by simp at h,Kk hg (Nat.le_refl _),fun x hx=>by simp at hx,by simp⟩
end
end Go.Pl
namespace Go.Pl
open Go.RowKit
section
variable {P:Program} {c:Ctx} {μ:Mu} {Φ:Zv} {σ σ':Zu} {w:World} {a:Act} {env:List AV} {L:Nat} {x:AV}
theorem Good.setRow{B:Nat}{o o':AObj}{l:Nat}{cs:Array Value}(hg:Good c μ Φ σ w)(hl:σ[l]? = some (.obj o))(hlive:o.live=true)(hB:blk μ l o=B)(ho':UR μ Φ (w.setRow B cs) l o')(hb:blk μ l o'=B):
  Good c μ Φ (σ.set l (.obj o')) (w.setRow B cs):=
 hg.put hl hlive (Mu.le.refl _) (fun _ _ _=>rfl) (by simp) (by simp) (by simp) (by simp) (fun b _ hne=>setRow_other w B b cs (by rw[hB]at hne;exact hne)) ho' (.inl (by rw[hb,hB]))
theorem Bo{g o:Nat}{t:TypeId}{z:Nat×Nat}: ∀ (vs:List Value) (i:Nat) (cur:Array Value) (w:World),w.heap[g]? = some (.cells cur t z)->(z=(0,0)∨cur.size<=z.1)->o+i+vs.length<=cur.size->(∀ v∈vs,v.oneCell'=true) ->
  (storeCells ⟨g,o,none⟩ vs i).run P w = .ok () (w.setRow g (cur.toList.take (o+i)++vs++cur.toList.drop (o+i+vs.length)).toArray):=by
 intro vs
 induction vs with
 | nil=>
  intro i cur w hg _ _ _
  simp only[storeCells,List.append_nil,List.length_nil,Nat.add_zero,List.take_append_drop,Array.toArray_toList]
  rw[setRow_self w g cur t z hg]
  rfl
 | cons v rest ih=>
  intro i cur w hg hz hl h1
  rw[List.length_cons]at hl
  have hi:o+i<cur.size:=by omega
  have e1:(⟨g,o,none⟩:Addr).add i=⟨g,o+i,none⟩:=by unfold Addr.add;split <;> simp_all
  have e2:w.frozen? ⟨g,o+i,none⟩=false:=by
   rcases hz with rfl|hz
   ·simp[World.frozen?,hg]
   ·simp[World.frozen?,hg];omega
  have e3:(store ((⟨g,o,none⟩:Addr).add i) v).run P w = .ok () (w.setRow g (cur.setIfInBounds (o+i) v)):=by
   rw[e1,run_store P w _ v _ (h1 v (by simp)),show w.cell? ⟨g,o+i,none⟩=some cur[o+i] by simp[World.cell?,hg,hi]]
   simp[e2,setCell_eq_setRow w g (o+i) cur t z v hg]
  have k:=ih (i+1) (cur.setIfInBounds (o+i) v) (w.setRow g (cur.setIfInBounds (o+i) v)) (setRow_heap w g cur _ t _ hg) (by simpa using hz) (by simp;omega) fun x hx=>h1 x (by simp[hx])
  simp only[storeCells,Sem.run_bind,e3,Result.andThen_ok,k,setRow_setRow]
  congr 3
  have e:=list_seg_step cur.toList (o+i) v rest (by simp;omega)
  simpa [Array.toList_setIfInBounds,Nat.add_assoc]using e
theorem XT.put{B n C:Nat}{ty:Nat}{cur cs:Array Value}(h:XT w B cur ty n C)(hs:cs.size=cur.size):XT (w.setRow B cs) B cs ty n C:=by
 obtain⟨z,h1,h2⟩:=h
 exact⟨z,setRow_heap w B cur cs ty z h1,by rw[hs];exact h2⟩
theorem Dh{t:TypeId}{i:TypeInfo}{v:Value}{B o:Nat}{T n C:Nat}{cur:Array Value}(hi:P.info? t=some i)(hn:v.cells.toList.length=i.size)(hh:XT w B cur T n C)(hf:o+i.size<=cur.size)(ho:ZW v.cells.toList):
  (Instr.storeAt t (.pointer (some ⟨B,o,none⟩)) v).run P w = .ok () (w.setRow B (splice cur.toList o v.cells.toList).toArray):=by
 obtain⟨z,hh,hz⟩:=hh
 have hs:=Bo (P:=P) (o:=o) v.cells.toList 0 cur w hh (hz.imp id fun h=>h.2) (by rw[hn];omega) ho
 have hn':v.cells.size=i.size:=by simpa using hn
 simp only[Nat.add_zero]at hs
 simp[Instr.storeAt,Instr.sureAddr,storeVar,ZI hi,hn',hs,splice]
theorem RL.splice{cs ds:List Value}{xs ys:List AV}(h:RL μ Φ cs xs)(k:RL μ Φ ds ys)(o:Nat):RL μ Φ (splice cs o ds) (splice xs o ys):=by
 unfold Pl.splice
 rw[k.1]
 exact((h.take o).append k).append (h.drop _)
theorem Xy.splice{cs ds:List Value}{xs ys:List PV}(h:Xy Φ cs xs)(k:Xy Φ ds ys)(o:Nat):Xy Φ (splice cs o ds) (splice xs o ys):=by
 unfold Pl.splice
 rw[k.1]
 exact((h.take o).append k).append (h.drop _)
theorem ZW.splice{cs ds:List Value}(h:ZW cs)(k:ZW ds)(o:Nat):ZW (splice cs o ds):=((h.take o).append k).append (h.drop _)
theorem YU{α:Type}{cs ds:List α}{o:Nat}(h:o+ds.length<=cs.length):(splice cs o ds).length=cs.length:=by
 simp[splice]
 omega
theorem Xf{α:Type}{cs ds:List α}{o:Nat}(h:o+ds.length<=cs.length)(j:Nat):(splice cs o ds)[j]? = if j<o then cs[j]? else if j<o+ds.length then ds[j - o]? else cs[j]? :=by
 unfold splice
 have h1:(cs.take o).length=o:=by simp;omega
 by_cases hj:j<o
 ·rw[if_pos hj,List.getElem?_append_left (by simp;omega),List.getElem?_append_left (by omega),List.getElem?_take,if_pos hj]
 ·rw[if_neg hj]
  by_cases hk:j<o+ds.length
  ·rw[if_pos hk,List.getElem?_append_left (by simp;omega),List.getElem?_append_right (by omega),h1]
  ·rw[if_neg hk,List.getElem?_append_right (by simp;omega),List.getElem?_drop]
   congr 1
   simp
   omega
theorem DW{α:Type}{cs ds:List α}{o n:Nat}(h:o+ds.length<=n)(hn:n<=cs.length):(splice cs o ds).take n=splice (cs.take n) o ds:=by
 apply List.ext_getElem?
 intro j
 rw[List.getElem?_take,Xf (by omega),Xf (by simp;omega),List.getElem?_take]
 by_cases h1:j<n
 ·simp[h1]
 ·have : ¬ j<o:=by omega
  have : ¬ j<o+ds.length:=by omega
  simp[*]
theorem RP.one_of{v:Value}{p:PV}(h:RP Φ v p)(hv:v.oneCell'=true):p.one=true:=by
 cases h <;> first|rfl|simp[Value.oneCell']at hv
theorem a5b{p:PV}(h:p.one=true):p.cells=[p]:=by
 cases p <;> first|rfl|simp[PV.one]at h
theorem Xy.ones{cs:List Value}{ps:List PV}(h:Xy Φ cs ps)(ho:ZW cs): ∀ p∈ps,p.one=true:=by
 intro p hp
 obtain⟨j,hj,rfl⟩:=List.getElem_of_mem hp
 obtain⟨v,hv,hR⟩:=h.at_ (List.getElem?_eq_getElem hj)
 exact hR.one_of (ho v (List.mem_of_getElem? hv))
theorem Pp{y:PV}{cs:List PV}(h:cs.length=y.cells.length)(h1 : ∀ q∈cs,q.one=true):(y.withCells cs).cells=cs:=by
 have key : ∀ y:PV,y.cells=[y]->cs.length=1->(cs.headD y).cells=cs:=by
  intro y _ hl
  match cs,hl,h1 with
  | [q],_,h1=>exact a5b (h1 q (by simp))
 cases y with
 | agg ys=>rfl
 | _=>exact key _ rfl h
theorem BA{α:Type}{cs ds:List α}{o:Nat}{q:α}(h:q∈splice cs o ds):q∈cs∨q∈ds:=by
 unfold splice at h
 rcases List.mem_append.1 h with h|h
 ·rcases List.mem_append.1 h with h|h
  ·exact .inl (List.mem_of_mem_take h)
  ·exact .inr h
 ·exact .inl (List.mem_of_mem_drop h)
theorem Bi{xs:List PV}{sz:Nat}(hs : ∀ x∈xs,x.cells.length=sz){j:Nat}{y:PV}(hy:xs[j]? = some y){k:Nat}(hk:k<sz):(flat xs)[j*sz+k]? = y.cells[k]? :=by
 rw[<- HY hs hy,List.getElem?_take,if_pos hk,List.getElem?_drop]
theorem b5x: ∀ {xs:List PV} {sz:Nat} (hs : ∀ x∈xs,x.cells.length=sz) {j:Nat} {y:PV} (hj:j<xs.length) (hy:y.cells.length=sz),flat (xs.set j y)=splice (flat xs) (j*sz) y.cells:=by
 intro xs
 induction xs with
 | nil=>intro sz hs j y hj;simp at hj
 | cons x xs ih=>
  intro sz hs j y hj hy
  have hx:=hs x (by simp)
  cases j with
  | zero=>
   rw[List.set_cons_zero,Xr,Xr,Nat.zero_mul]
   simp[splice,hy,<- hx]
  | succ j=>
   rw[List.set_cons_succ,Xr,Xr,ih (fun z hz=>hs z (by simp[hz])) (by simpa using hj) hy]
   have e:(j+1)*sz=x.cells.length+j*sz:=by rw[Nat.add_mul,Nat.one_mul,hx,Nat.add_comm]
   rw[e]
   simp only[splice,List.take_append,List.drop_append,Nat.add_assoc]
   rw[List.take_of_length_le (l:=x.cells) (by omega),List.drop_of_length_le (l:=x.cells) (by omega)]
   simp
theorem a5h{α:Type}{cs ds es:List α}{b o:Nat}(hb:b+ds.length<=cs.length)(ho:o+es.length<=ds.length)(hseg : ∀ k,k<ds.length->cs[b+k]? = ds[k]?):
  splice cs b (splice ds o es)=splice cs (b+o) es:=by
 have hl:=YU ho
 apply List.ext_getElem?
 intro j
 rw[Xf (cs:=cs) (ds:=splice ds o es) (by omega),Xf (cs:=cs) (ds:=es) (by omega),hl]
 by_cases h1:j<b
 ·have:j<b+o:=by omega
  simp[h1,this]
 ·rw[if_neg h1]
  by_cases h2:j<b+ds.length
  ·rw[if_pos h2,Xf ho]
   by_cases h3:j<b+o
   ·rw[if_pos h3,if_pos (by omega),<- hseg _ (by omega)]
    congr 1
    omega
   ·rw[if_neg h3,if_neg (by omega)]
    by_cases h4:j<b+o+es.length
    ·rw[if_pos h4,if_pos (by omega)]
     congr 1
     omega
    ·rw[if_neg h4,if_neg (by omega),<- hseg _ (by omega)]
     congr 1
     omega
  ·rw[if_neg h2,if_neg (by omega),if_neg (by omega)]
theorem a9a{t:TypeId}{i:TypeInfo}{u v:Value}{X Y:IOp}(hi:P.info? t=some i)(hg:Good c μ Φ σ w)(hu:R μ Φ u (ev env X))(hv:R μ Φ v (ev env Y))(hr:(YF L env (.store i.size X Y)).run σ=some (x,σ')):
  ∃ w',(Instr.storeAt t u v).run P w = .ok () w'∧ZN c μ Φ σ' x Go.undef w':=by
 simp only[YF]at hr
 split at hr
 ·rename_i l o hX
  rw[hX]at hu
  have hqr:=YP hr
  clear hr
  obtain⟨ob,hob,hr⟩:=hqr
  split at hr
  ·rename_i cs
   split at hr
   ·rename_i hc
    obtain⟨h1,h2,h3⟩:=hc
    obtain⟨_,hr⟩:=Un hr
    obtain⟨rfl,rfl⟩:=Zp hr
    cases hu with
    | ptr _ _ B C S hm=>
     obtain⟨B',C',S',T,us,k1,k2,k3,k4,k5⟩:=hg.obj l _ hob
     rw[hm]at k1
     cases k1
     obtain⟨m1,m2⟩:=Bn hv h3
     have hlen:v.cells.toList.length=i.size:=by rw[m1.1,h1]
     have hsz:us.size=cs.length:=by simpa using k3.1
     refine⟨_,Dh (n:=0) (C:=0) hi hlen (.of k2) (by omega) m2,μ,Φ,Mu.le.refl _,Zv.le.refl _,?_,.undef⟩
     refine hg.setRow hob rfl (by simp[blk,hm]) ?_ (by simp[blk,hm])
     exact⟨B,C,S,T,_,hm,setRow_heap w B us _ T _ k2,by simpa using k3.splice m1 o,by simpa using k4.splice m2 o,k5⟩
   ·exact(Zg hr).elim
  ·exact(Zg hr).elim
 ·rename_i l m j o hX
  rw[hX]at hu
  rw[HM.run_bind,Option.bind_eq_some_iff]at hr
  obtain⟨⟨p,σ1⟩,hf,hr⟩:=hr
  obtain⟨Φ1,f1,f2,f3⟩:=Dq _ hf hg hv
  have hqr:=YP hr
  clear hr
  obtain⟨ob,hob,hr⟩:=hqr
  split at hr
  ·rename_i ty sz xs
   have hqr:=ZM hr
   clear hr
   obtain⟨hq,hr⟩:=hqr
   simp only[Bool.and_eq_true,beq_iff_eq,decide_eq_true_eq]at hq
   obtain⟨⟨⟨⟨h0,hj0⟩,h1⟩,h2⟩,h3⟩:=hq
   obtain⟨y,hyy,hy⟩ : ∃ y,xs.getD j default=y∧xs[j]? = some y:=⟨_,rfl,by simp[List.getD,List.getElem?_eq_getElem hj0]⟩
   rw[hyy]at h2 hr
   have hqr:=Un hr
   clear hr
   obtain⟨_,hr⟩:=hqr
   obtain⟨rfl,rfl⟩:=Zp hr
   cases hu with
   | eptr _ _ _ _ B C S hm=>
    obtain⟨B',C',us,k1,k2,k3,k4,k5,k6,k7,k8,k9,k10⟩:=f2.obj l _ hob
    rw[h0,hm]at k1
    cases k1
    obtain⟨m1,m2⟩:=VQ f3 h3
    have hlen:v.cells.toList.length=i.size:=by rw[m1.1,h1]
    have hjm:j<xs.length:=(List.getElem?_eq_some_iff.1 hy).1
    have hys:y.cells.length=sz:=k7 y (List.mem_of_getElem? hy)
    have hle:j*sz+sz<=xs.length*sz:=by
     have:(j+1)*sz<=xs.length*sz:=Nat.mul_le_mul_right _ hjm
     rwa [Nat.add_mul,Nat.one_mul]at this
    have hcap:xs.length*sz<=us.size:=by rw[k4];exact Nat.mul_le_mul_right _ k5
    have hpl:p.cells.length=i.size:=h1
    refine⟨_,Dh hi hlen k3 (by omega) m2,μ,Φ1,Mu.le.refl _,f1,?_,.undef⟩
    have hB:blk μ l (.row false ty sz xs)=B:=by simp[blk,h0,hm]
    have hey:Xy Φ1 ((us.toList.drop (j*sz)).take sz) y.cells∧ZW ((us.toList.drop (j*sz)).take sz):=(Nt k3 k7 k8 k9 hy).2
    have hspl:(splice y.cells o p.cells).length=y.cells.length:=YU (by rw[hpl];exact h2)
    have hyc:(y.withCells (splice y.cells o p.cells)).cells=splice y.cells o p.cells:=by
     refine Pp hspl ?_
     intro q hq
     rcases BA hq with hq|hq
     ·exact hey.1.ones hey.2 q hq
     ·exact m1.ones m2 q hq
    have hfs:flat (xs.set j (y.withCells (splice y.cells o p.cells)))=splice (flat xs) (j*sz+o) p.cells:=by
     rw[b5x k7 hjm (by rw[hyc,hspl,hys]),hyc]
     refine a5h (by rw[Y9 k7];omega) (by rw[hpl];exact h2) ?_
     intro k hk
     exact Bi k7 hy (by omega)
    have hop:o+i.size<=sz:=by rw[<- hys];exact h2
    have hty:(splice us.toList (j*sz+o) v.cells.toList).take ((xs.set j (y.withCells (splice y.cells o p.cells))).length*sz)=splice (us.toList.take (xs.length*sz)) (j*sz+o) v.cells.toList:=by
     rw[List.length_set,DW (by rw[hlen];omega) (by simpa using hcap)]
    refine f2.setRow hob rfl hB ?_ (by simp[blk,h0,hm])
    refine⟨B,C,_,by rw[List.length_set,h0];exact hm,fun n hn=>k2 n (by simpa using hn),by rw[List.length_set];exact k3.put (by have:=YU (cs:=us.toList) (ds:=v.cells.toList) (o:=j*sz+o) (by rw[hlen];simp;omega);simpa using this),?_,by simpa using k5,k6,?_,?_,?_,by simpa using k10⟩
    ·have:=YU (cs:=us.toList) (ds:=v.cells.toList) (o:=j*sz+o) (by rw[hlen];simp;omega)
     simpa [k4]using this
    ·intro z hz
     rcases List.mem_or_eq_of_mem_set hz with hz|rfl
     ·exact k7 z hz
     ·rw[hyc,hspl,hys]
    ·rw[List.toList_toArray,hty,hfs]
     exact k8.splice m1 _
    ·rw[List.toList_toArray,hty]
     exact k9.splice m2 _
  ·exact(Zg hr).elim
 ·exact(Zg hr).elim
end
end Go.Pl
namespace Go.Pl
open Go.RowKit
section
variable {P:Program} {c:Ctx} {μ:Mu} {Φ:Zv} {σ σ':Zu} {w:World} {a:Act} {env:List AV} {L:Nat} {x:AV}
def UM(d:TypeDesc)(st:Bool):Prop:=if st then d = .string else ∃ k,d = .int k
theorem Cb{kt:TypeId}{d:TypeDesc}{st:Bool}(hd:P.underlying kt=some d)(hk:UM d st)(e:Bool)(v:Value)(n:Nat):(Instr.checkKey e (n+1) kt v).run P w = .ok () w:=by
 unfold Instr.checkKey
 cases st with
 | true=>
  simp only[UM,if_true]at hk
  subst hk
  simp[run_underlying hd]
 | false=>
  simp only[UM,if_false,Bool.false_eq_true]at hk
  obtain⟨k,rfl⟩:=hk
  simp[run_underlying hd]
theorem V6{d:TypeDesc}{st:Bool}(hk:UM d st){v u:Value}{p q:PV}(hp:RP Φ v p)(hq:RP Φ u q)(hkey:p.isKey st=true){r:Bool}(h:QW p q=some r):Instr.sameNow d v u=some r:=by
 cases st with
 | true=>
  simp only[UM,if_true]at hk
  subst hk
  cases hp <;> simp[PV.isKey]at hkey
  cases hq <;> simp[QW]at h
  subst h
  simp only[Instr.sameNow]
  congr 1
 | false=>
  simp only[UM,if_false,Bool.false_eq_true]at hk
  obtain⟨k,rfl⟩:=hk
  cases hp <;> simp[PV.isKey]at hkey
  cases hq <;> simp[QW]at h
  obtain⟨rfl,rfl⟩:=h
  simp[Instr.sameNow]
def PU(Φ:Zv)(l:List MapEntry)(es:List (PV×PV)):Prop:=l.length=es.length∧ ∀ (j:Nat) e p,l[j]? = some e->es[j]? = some p->RP Φ e.key p.1∧RP Φ e.val p.2
theorem PU.uncons{l:List MapEntry}{p:PV×PV}{es:List (PV×PV)}(h:PU Φ l (p::es)): ∃ e l',l=e::l'∧RP Φ e.key p.1∧RP Φ e.val p.2∧PU Φ l' es:=by
 cases l with
 | nil=>have:=h.1;simp at this
 | cons e l'=>
  have h0:=h.2 0 e p rfl rfl
  exact⟨e,l',rfl,h0.1,h0.2,by have:=h.1;simpa using this,fun j a b ha hb=>h.2 (j+1) a b (by simpa using ha) (by simpa using hb)⟩
theorem a4a{d:TypeDesc}{st:Bool}(hk:UM d st){v:Value}{p:PV}(hp:RP Φ v p)(hkey:p.isKey st=true): ∀ (es:List (PV×PV)) (l:List MapEntry) (i:Nat) (r:Option PV),PU Φ l es->GN p es=some r ->
  ∃ r',Instr.findNow d v l i=some r'∧(match r with|none=>r'=none|some q=> ∃ idx u,r'=some (idx,u)∧RP Φ u q):=by
 intro es
 induction es with
 | nil=>
  intro l i r he hl
  simp[GN]at hl
  subst hl
  have:l=[]:=by have:=he.1;simpa using this
  subst this
  exact⟨none,rfl,rfl⟩
 | cons q es ih=>
  intro l i r he hl
  obtain⟨e,l',rfl,h1,h2,h3⟩:=he.uncons
  obtain⟨a,b⟩:=q
  simp only[GN]at hl
  split at hl
  ·rename_i heq
   cases hl
   exact⟨some (i,e.val),by simp[Instr.findNow,V6 hk hp h1 hkey heq],i,e.val,rfl,h2⟩
  ·rename_i heq
   obtain⟨r',k1,k2⟩:=ih l' (i+1) r h3 hl
   exact⟨r',by simp[Instr.findNow,V6 hk hp h1 hkey heq,k1],k2⟩
  ·cases hl
theorem c9l{d:TypeDesc}{st:Bool}(hk:UM d st){v u:Value}{p q:PV}(hp:RP Φ v p)(hkey:p.isKey st=true)(hu:RP Φ u q): ∀ (es:List (PV×PV)) (l:List MapEntry) (i:Nat) (es':List (PV×PV)),PU Φ l es->upd p q es=some es' ->
  (∃ idx b old,Instr.findNow d v l i=some (some (i+idx,b))∧l[idx]? = some old∧RP Φ old.key p∧(∀ f:MapEntry->MapEntry,(∀ e,RP Φ e.key p->RP Φ (f e).key p∧RP Φ (f e).val q)->PU Φ (l.modify idx f) es')) ∨
  (Instr.findNow d v l i=some none∧ ∀ born,PU Φ (l++[{key:=v,val:=u,born:=born}]) es'):=by
 intro es
 induction es with
 | nil=>
  intro l i es' he hl
  simp[upd]at hl
  subst hl
  have:l=[]:=by have:=he.1;simpa using this
  subst this
  refine .inr ⟨rfl,fun born=>⟨rfl,?_⟩⟩
  intro j a b ha hb
  cases j with
  | zero=>simp at ha hb;subst ha hb;exact⟨hp,hu⟩
  | succ j=>simp at ha
 | cons z es ih=>
  intro l i es' he hl
  obtain⟨e,l',rfl,h1,h2,h3⟩:=he.uncons
  obtain⟨a,b⟩:=z
  simp only[upd]at hl
  split at hl
  ·rename_i heq
   cases hl
   have hpa:RP Φ e.key p:=by
    have:p=a:=by
     cases p <;> cases a <;> simp_all[QW,PV.isKey]
    rw[this];exact h1
   refine .inl ⟨0,e.val,e,by simp[Instr.findNow,V6 hk hp h1 hkey heq],rfl,hpa,fun f hf=>⟨by simpa using h3.1,?_⟩⟩
   intro j x y hx hy
   cases j with
   | zero=>simp at hx hy;subst hx hy;exact hf e hpa
   | succ j=>simp at hx hy;exact h3.2 j x y hx hy
  ·rename_i heq
   rw[Option.map_eq_some_iff]at hl
   obtain⟨es2,hl,rfl⟩:=hl
   rcases ih l' (i+1) es2 h3 hl with ⟨idx,b',old,k1,k2,k3,k4⟩|⟨k1,k2⟩
   ·refine .inl ⟨idx+1,b',old,?_,by simpa using k2,k3,fun f hf=> ?_⟩
    ·have e:i+(idx+1)=i+1+idx:=by omega
     simp[Instr.findNow,V6 hk hp h1 hkey heq,k1,e]
    ·have:=k4 f hf
     refine⟨by simpa using this.1,?_⟩
     intro j x y hx hy
     cases j with
     | zero=>simp at hx hy;subst hx hy;exact⟨h1,h2⟩
     | succ j=>simp at hx hy;exact this.2 j x y (by simpa using hx) hy
   ·refine .inr ⟨by simp[Instr.findNow,V6 hk hp h1 hkey heq,k1],fun born=> ?_⟩
    have:=k2 born
    refine⟨by have:=this.1;simp at this ⊢;omega,?_⟩
    intro j x y hx hy
    cases j with
    | zero=>simp at hx hy;subst hx hy;exact⟨h1,h2⟩
    | succ j=>simp at hx hy;exact this.2 j x y hx hy
  ·cases hl
theorem Cw(hg:Good c μ Φ σ w){l:Nat}{es:List (PV×PV)}(hl:σ[l]? = some (.obj (.map es))){B C S:Nat}(hm:μ l 0=some (B,C,S)): ∃ mes clock,w.heap[B]? = some (.map mes clock)∧PU Φ mes.toList es∧Φ B=none∧Su mes clock:=by
 obtain⟨B',C',S',mes,clock,h1,h2,h3,h4,h5⟩:=hg.obj l _ hl
 rw[hm]at h1
 cases h1
 exact⟨mes,clock,h2,⟨by simpa using h3,fun j e p he hp=>h4 j e p (by simpa using he) hp⟩,h5⟩
theorem a4y{t kt et:TypeId}{d:TypeDesc}{i:TypeInfo}{zv:Value}{z:PV}{ok st:Bool}{sh:Sh}{u v:Value}{X Y:IOp}(ht:P.underlying t=some (.map kt et))(hd:P.underlying kt=some d)(hk:UM d st)
  (hi:P.info? et=some i) (hz:i.zero=some zv) (hzp:Vn zv=some z) (hg:Good c μ Φ σ w) (hu:R μ Φ u (ev env X)) (hv:R μ Φ v (ev env Y)) (hr:(YF L env (.lookup st sh z ok X Y)).run σ=some (x,σ')) :
  VS P (Instr.lookup t u v ok) w (ZN c μ Φ σ' x):=by
 simp only[YF]at hr
 split at hr
 ·rename_i k hY
  rw[hY]at hv
  replace hv:=ZR hv
  split at hr
  ·rename_i hkey
   split at hr
   ·rename_i l hX
    rw[hX]at hu
    have hqr:=YP hr
    clear hr
    obtain⟨ob,hob,hr⟩:=hqr
    split at hr
    ·rename_i es
     cases hu with
     | map _ B C S hm=>
      obtain⟨mes,clock,h1,h2,_⟩:=Cw hg hob hm
      have hget:(getObj B).run P w = .ok (.map mes clock) w:=by simp[getObj,Sem.run,h1]
      have hck:(Instr.checkKey mes.isEmpty 10000 kt v).run P w = .ok () w:=Cb hd hk _ _ 9999
      have hfk : ∀ r',Instr.findNow d v mes.toList 0=some r'->(Instr.findKey kt v mes.toList).run P w = .ok r' w:=fun r' h=>by simp[Instr.findKey,run_underlying hd,h]
      have hzr:(zeroValue et).run P w = .ok zv w:=by simp[zeroValue,typeInfo,hi,hz]
      have hqr:=ZM hr
      clear hr
      obtain⟨hq,hr⟩:=hqr
      simp only[Bool.and_eq_true]at hq
      obtain⟨hlo,hfit⟩:=hq
      obtain⟨rfl,rfl⟩:=Zp hr
      cases hlk:GN k es with
      | none=>simp[VY,hlk]at hlo
      | some r=>
       cases r with
       | some q=>
        obtain⟨r',k1,idx,val,rfl,k3⟩:=a4a hk hv hkey es mes.toList 0 (some q) h2 hlk
        have e1:YN k z es=q:=by simp[YN,hlk]
        have e2:Uq k es=true:=by simp[Uq,hlk]
        rw[e1]at hfit ⊢
        rw[e2]
        have k4:=a0t k3 hfit
        refine⟨if ok then .tuple #[val,.bool true]else val,w,?_,Zh hg ?_⟩
        ·simp[Instr.lookup,run_underlying ht,hget,hck,hfk _ k1]
        ·cases ok
         ·exact .pv _ _ k4
         ·refine .pv _ _ (.tup _ _ rfl ?_)
          intro j a b ha hb
          match j with
          | 0=>simp at ha hb;subst ha hb;exact k4
          | 1=>simp at ha hb;subst ha hb;exact .bool _
          | j+2=>simp at ha
       | none=>
        obtain⟨r',k1,k2⟩:=a4a hk hv hkey es mes.toList 0 none h2 hlk
        simp only at k2
        subst k2
        have e1:YN k z es=z:=by simp[YN,hlk]
        have e2:Uq k es=false:=by simp[Uq,hlk]
        rw[e1]at hfit ⊢
        rw[e2]
        have k4:=a0t (VB (Φ:=Φ) hzp) hfit
        refine⟨if ok then .tuple #[zv,.bool false]else zv,w,?_,Zh hg ?_⟩
        ·simp[Instr.lookup,run_underlying ht,hget,hck,hfk _ k1,hzr]
        ·cases ok
         ·exact .pv _ _ k4
         ·refine .pv _ _ (.tup _ _ rfl ?_)
          intro j a b ha hb
          match j with
          | 0=>simp at ha hb;subst ha hb;exact k4
          | 1=>simp at ha hb;subst ha hb;exact .bool _
          | j+2=>simp at ha
    ·exact(Zg hr).elim
   ·exact(Zg hr).elim
  ·exact(Zg hr).elim
 ·exact(Zg hr).elim
theorem Pt(w:World)(B b:Nat)(o:Obj)(h:b≠B):({w with heap:=w.heap.setIfInBounds B o}:World).heap[b]? = w.heap[b]? :=by
 simp[Array.getElem?_setIfInBounds_ne (Ne.symm h)]
theorem Good.setMap{B:Nat}{es es':List (PV×PV)}{l C S:Nat}{mes:Array MapEntry}{clock:Nat}(hg:Good c μ Φ σ w)(hl:σ[l]? = some (.obj (.map es)))(hm:μ l 0=some (B,C,S))(h:PU Φ mes.toList es')(hbn:Su mes clock):
  Good c μ Φ (σ.set l (.obj (.map es'))) {w with heap:=w.heap.setIfInBounds B (.map mes clock)}:=by
 obtain⟨mes0,clock0,h1,_,h2⟩:=Cw hg hl hm
 have hlt:=(Array.getElem?_eq_some_iff.1 h1).1
 refine hg.put hl rfl (Mu.le.refl _) (fun _ _ _=>rfl) rfl rfl rfl (by simp) ?_ ?_ (.inl (by simp[blk]))
 ·intro b _ hb
  exact Pt w B b _ (by simpa [blk,hm]using hb)
 ·exact⟨B,C,S,mes,clock,hm,by simp[hlt],by simpa using h.1,fun j e p he hp=>h.2 j e p (by simpa using he) hp,h2.1,hbn⟩
theorem Su.update{mes mes':Array MapEntry}{clock:Nat}(h:Su mes clock)(e:mes'.toList.map (·.born)=mes.toList.map (·.born)):Su mes' clock:=by
 refine⟨fun x hx=> ?_,by rw[e];exact h.2⟩
 have:x.born∈mes'.toList.map (·.born):=List.mem_map.2 ⟨x,hx,rfl⟩
 rw[e]at this
 obtain⟨y,hy,e2⟩:=List.mem_map.1 this
 rw[<- e2]
 exact h.1 y hy
theorem Su.push{mes:Array MapEntry}{clock:Nat}(h:Su mes clock)(k v:Value):Su (mes.push {key:=k,val:=v,born:=clock}) (clock+1):=by
 refine⟨fun x hx=> ?_,?_⟩
 ·simp only[Array.toList_push,List.mem_append,List.mem_singleton]at hx
  rcases hx with hx|rfl
  ·exact Nat.lt_succ_of_lt (h.1 x hx)
  ·exact Nat.lt_succ_self _
 ·simp only[Array.toList_push,List.map_append,List.map_cons,List.map_nil]
  rw[List.nodup_append]
  refine⟨h.2,by simp,fun a ha b hb e=> ?_⟩
  obtain⟨y,hy,rfl⟩:=List.mem_map.1 ha
  have:=h.1 y hy
  simp only[List.mem_singleton]at hb
  omega
theorem CF{v:Value}{l:List UInt8}(h:RP Φ v (.str l)): ∃ s:ByteArray,v = .string s∧s.data.toList=l:=by
 cases h with
 | str s=>exact⟨s,rfl,rfl⟩
theorem b4q{st:Bool}{v u:Value}{p:PV}(hv:RP Φ v p)(hu:RP Φ u p)(hkey:p.isKey st=true):(Instr.keyThatStays u v).run P w = .ok v w:=by
 have e:Instr.sameBits (9999+1) u v=true:=by
  cases p <;> simp[PV.isKey]at hkey
  ·cases hv;cases hu;unfold Instr.sameBits;first|rfl|simp|trace_state
  ·obtain⟨s1,rfl,e1⟩:=CF hv
   obtain⟨s2,rfl,e2⟩:=CF hu
   have:s1=s2:=ByteArray.ext (by simpa using e1.trans e2.symm)
   subst this
   unfold Instr.sameBits
   show(s1==s1)=true
   first|exact beq_self_eq_true s1|(show(s1.data.toList==s1.data.toList)=true;simp)|(show(s1.data==s1.data)=true;simp)|(show decide (s1=s1)=true;simp)
 unfold Instr.keyThatStays
 rw[show(10000:Nat)=9999+1 from rfl,if_pos e]
 rfl
theorem a5u{t kt et:TypeId}{d:TypeDesc}{st:Bool}{u v z:Value}{X Y Z:IOp}(ht:P.underlying t=some (.map kt et))(hd:P.underlying kt=some d)(hk:UM d st)
  (hg:Good c μ Φ σ w) (hu:R μ Φ u (ev env X)) (hv:R μ Φ v (ev env Y)) (hz:R μ Φ z (ev env Z)) (hr:(YF L env (.mapupd st X Y Z)).run σ=some (x,σ')) :
  ∃ w',(Instr.mapUpdate t u v z).run P w = .ok () w'∧ZN c μ Φ σ' x Go.undef w':=by
 simp only[YF]at hr
 split at hr
 ·rename_i k hY
  rw[hY]at hv
  replace hv:=ZR hv
  split at hr
  ·rename_i hkey
   split at hr
   ·rename_i l hX
    rw[hX]at hu
    rw[HM.run_bind,Option.bind_eq_some_iff]at hr
    obtain⟨⟨q,σ1⟩,hf,hr⟩:=hr
    obtain⟨Φ1,f1,f2,f3⟩:=Dq _ hf hg hz
    have hqr:=YP hr
    clear hr
    obtain⟨ob,hob,hr⟩:=hqr
    split at hr
    ·rename_i es
     cases hu with
     | map _ B C S hm=>
      obtain⟨mes,clock,h1,h2,_,hbn⟩:=Cw f2 hob hm
      have hget:(getObj B).run P w = .ok (.map mes clock) w:=by simp[getObj,Sem.run,h1]
      have hset : ∀ o,(setObj B o).run P w = .ok () {w with heap:=w.heap.setIfInBounds B o}:=fun o=>by simp[setObj,Sem.run,h1]
      have hck : ∀ e,(Instr.checkKey e 10000 kt v).run P w = .ok () w:=fun e=>Cb hd hk _ _ 9999
      have hfk : ∀ r',Instr.findNow d v mes.toList 0=some r'->(Instr.findKey kt v mes.toList).run P w = .ok r' w:=fun r' h=>by simp[Instr.findKey,run_underlying hd,h]
      have hqr:=ZM hr
      clear hr
      obtain⟨hq,hr⟩:=hqr
      obtain⟨es',hup⟩ : ∃ es',upd k q es=some es':=Option.isSome_iff_exists.1 hq
      have hul:WA k q es=es':=by simp[WA,hup]
      rw[hul]at hr
      have hqr:=Un hr
      clear hr
      obtain⟨_,hr⟩:=hqr
      obtain⟨rfl,rfl⟩:=Zp hr
      rcases c9l hk (hv.mono f1) hkey f3 es mes.toList 0 es' h2 hup with ⟨idx,b,old,k1,k2,k3,k4⟩|⟨k1,k2⟩
      ·simp only[Nat.zero_add]at k1
       have k2':mes[idx]? = some old:=by simpa using k2
       have hst:=b4q (P:=P) (w:=w) (hv.mono f1) k3 hkey
       refine⟨_,by simp[Instr.mapUpdate,run_underlying ht,hget,hck,hfk _ k1,k2',hst,hset] <;> rfl,μ,Φ1,Mu.le.refl _,f1,?_,.undef⟩
       refine f2.setMap hob hm ?_ (hbn.update ?_)
       rotate_left
       ·apply List.ext_getElem?
        intro j
        simp only[List.getElem?_map,Array.getElem?_toList,Array.getElem?_modify]
        split
        ·cases mes[j]? <;> rfl
        ·rfl
       have:=k4 (fun e=>{e with key:=v,val:=z}) (fun e _=>⟨hv.mono f1,f3⟩)
       simpa using this
      ·refine⟨_,by simp[Instr.mapUpdate,run_underlying ht,hget,hck,hfk _ k1,hset] <;> rfl,μ,Φ1,Mu.le.refl _,f1,?_,.undef⟩
       refine f2.setMap hob hm ?_ (hbn.push _ _)
       simpa using k2 clock
    ·exact(Zg hr).elim
   ·exact(Zg hr).elim
  ·exact(Zg hr).elim
 ·exact(Zg hr).elim
end
end Go.Pl
namespace Go.Pl
open Go.RowKit
section
variable {P:Program} {c:Ctx} {μ:Mu} {Φ:Zv} {σ σ':Zu} {w:World} {a:Act} {env:List AV} {L:Nat} {x:AV}
def K3(P:Program)(t:TypeId):Option Nat:=
 match P.underlying t with
 | some .string=>some 0
 | some (.slice _)=>some 1
 | some (.map _ _)=>some 2
 | _=>none
theorem c9y{t ty:TypeId}{k:Nat}{u:Value}{X:IOp}(ht:K3 P t=some k)(hg:Good c μ Φ σ w)(hu:R μ Φ u (ev env X))(hr:(YF L env (.len k X)).run σ=some (x,σ')):VS P (Builtin.len_ #[t] ty #[u]) w (ZN c μ Φ σ' x):=by
 simp only[YF]at hr
 split at hr
 ·rename_i l hX
  rw[hX]at hu
  obtain⟨a,b,hk⟩ : ∃ a b,P.underlying t=some (.map a b):=by
   unfold K3 at ht
   split at ht <;> first|exact⟨_,_,‹_›⟩|simp at ht
  obtain⟨ob,hob,hr⟩:=YP hr
  split at hr
  ·rename_i es
   obtain⟨rfl,rfl⟩:=Zp hr
   cases hu with
   | map _ B C S hm=>
    obtain⟨mes,clock,h1,h2,_⟩:=Cw hg hob hm
    have hget:(getObj B).run P w = .ok (.map mes clock) w:=by simp[getObj,Sem.run,h1]
    have hs:mes.size=es.length:=by simpa using h2.1
    refine⟨_,w,by simp[Builtin.len_,run_underlying hk,hget] <;> rfl,Zh hg ?_⟩
    rw[hs]
    exact .pv _ _ (.int _ _)
  ·exact(Zg hr).elim
 ·rename_i hX
  rw[hX]at hu
  obtain⟨a,b,hk⟩ : ∃ a b,P.underlying t=some (.map a b):=by
   unfold K3 at ht
   split at ht <;> first|exact⟨_,_,‹_›⟩|simp at ht
  obtain⟨rfl,rfl⟩:=Zp hr
  replace hu:=ZR hu
  cases hu
  exact⟨_,w,by simp[Builtin.len_,run_underlying hk] <;> rfl,Zh hg (.pv _ _ (.int _ _))⟩
 ·rename_i s hX
  rw[hX]at hu
  have hk:P.underlying t=some .string:=by
   unfold K3 at ht
   split at ht <;> first|assumption|simp at ht
  obtain⟨rfl,rfl⟩:=Zp hr
  obtain⟨z,rfl,rfl⟩:=CF (ZR hu)
  have e:z.data.toList.length=z.size:=by simp
  exact⟨.int .i64 z.size,w,by simp[Builtin.len_,run_underlying hk,goInt],Zh hg (by rw[e];exact .pv _ _ (.int _ _))⟩
 ·rename_i b m xs hX
  rw[hX]at hu
  obtain⟨e,hk⟩ : ∃ a,P.underlying t=some (.slice a):=by
   unfold K3 at ht
   split at ht <;> first|exact⟨_,‹_›⟩|simp at ht
  obtain⟨rfl,rfl⟩:=Zp hr
  replace hu:=ZR hu
  cases hu with
  | sl0=>exact⟨.int .i64 0,w,by simp[Builtin.len_,run_underlying hk,goInt],Zh hg (.pv _ _ (.int _ _))⟩
  | sl b off cs cc=>exact⟨.int .i64 xs.length,w,by simp[Builtin.len_,run_underlying hk,goInt],Zh hg (.pv _ _ (.int _ _))⟩
 ·rename_i ra rn rc hX
  rw[hX]at hu
  obtain⟨e,hk⟩ : ∃ a,P.underlying t=some (.slice a):=by
   unfold K3 at ht
   split at ht <;> first|exact⟨_,‹_›⟩|simp at ht
  obtain⟨rfl,rfl⟩:=Zp hr
  replace hu:=ZR hu
  cases hu
  exact⟨.int .i64 rn,w,by simp[Builtin.len_,run_underlying hk,goInt],Zh hg (.pv _ _ (.int _ _))⟩
 ·rename_i l n' lo hi hX
  rw[hX]at hu
  obtain⟨e,hk⟩ : ∃ a,P.underlying t=some (.slice a):=by
   unfold K3 at ht
   split at ht <;> first|exact⟨_,‹_›⟩|simp at ht
  obtain⟨rfl,rfl⟩:=Zp hr
  cases hu with
  | row _ _ _ _ B C S q hm h2 h3 h4 ha=>exact⟨.int .i64 (hi - lo:Nat),w,by simp[Builtin.len_,run_underlying hk,goInt],Zh hg (.pv _ _ (.int _ _))⟩
 ·exact(Zg hr).elim
theorem b3r{src dst:TypeId}{u:Value}{X:IOp}(hs:(P.underlying src).isSome=true)(hd:P.underlying dst=some .string)(hg:Good c μ Φ σ w)(hu:R μ Φ u (ev env X))
  (hr:(YF L env (.strid X)).run σ=some (x,σ')):VS P (convert src dst u) w (ZN c μ Φ σ' x):=by
 simp only[YF]at hr
 split at hr
 ·rename_i s hX
  rw[hX]at hu
  obtain⟨rfl,rfl⟩:=Zp hr
  obtain⟨z,rfl,rfl⟩:=CF (ZR hu)
  obtain⟨d,hd'⟩:=Option.isSome_iff_exists.1 hs
  exact⟨.string z,w,by cases d <;> simp[convert,run_underlying hd',run_underlying hd],Zh hg (.pv _ _ (.str _))⟩
 ·exact(Zg hr).elim
theorem c7f{mx:Bool}{ts:Array TypeId}{ty:TypeId}{u v:Value}{X Y:IOp}(hg:Good c μ Φ σ w)(hu:R μ Φ u (ev env X))(hv:R μ Φ v (ev env Y))(hr:(YF L env (.mm mx X Y)).run σ=some (x,σ')):
  VS P (if mx then Builtin.max_ ts ty #[u,v]else Builtin.min_ ts ty #[u,v]) w (ZN c μ Φ σ' x):=by
 simp only[YF]at hr
 split at hr
 ·rename_i k p k' q hX hY
  rw[hX]at hu
  rw[hY]at hv
  split at hr
  ·rename_i e
   have e:=KO e
   subst e
   obtain⟨rfl,rfl⟩:=Zp hr
   replace hu:=ZR hu
   replace hv:=ZR hv
   cases hu
   cases hv
   cases mx
   ·exact⟨_,w,by simp[Builtin.min_,Builtin.min2] <;> rfl,Zh hg (.pv _ _ (.int _ _))⟩
   ·exact⟨_,w,by simp[Builtin.max_,Builtin.max2] <;> rfl,Zh hg (.pv _ _ (.int _ _))⟩
  ·exact(Zg hr).elim
 ·exact(Zg hr).elim
theorem a6z(off:Nat): ∀ (vs:List Value) (k:Nat) (cs:Array Value),off+k+vs.length<=cs.size ->
  ((vs.zipIdx k).foldl (fun cs (p:Value×Nat)=>cs.setIfInBounds (off+p.2) p.1) cs).toList=splice cs.toList (off+k) vs:=by
 intro vs
 induction vs with
 | nil=>intro k cs h;simp[splice]
 | cons v vs ih=>
  intro k cs h
  simp only[List.zipIdx_cons,List.foldl_cons]
  simp only[List.length_cons]at h
  rw[ih (k+1) _ (by simp;omega),Array.toList_setIfInBounds]
  apply List.ext_getElem?
  intro j
  rw[Xf (by simp;omega),Xf (by simp;omega),List.getElem?_set]
  simp only[List.length_cons]
  by_cases h1:j<off+k
  ·have a1:j<off+(k+1):=by omega
   have a2 : ¬ off+k=j:=by omega
   simp[h1,a1,a2]
  ·by_cases h2:j=off+k
   ·subst h2
    have a1:off+k<off+(k+1):=by omega
    simp[a1]
    omega
   ·have a1 : ¬ j<off+(k+1):=by omega
    have a2 : ¬ off+k=j:=by omega
    by_cases h3:j<off+(k+1)+vs.length
    ·have a3:j<off+k+(vs.length+1):=by omega
     rw[if_neg a1,if_pos h3,if_neg h1,if_pos a3]
     have:j - (off+k)=(j - (off+(k+1)))+1:=by omega
     rw[this,List.getElem?_cons_succ]
    ·have a3 : ¬ j<off+k+(vs.length+1):=by omega
     rw[if_neg a1,if_neg h3,if_neg h1,if_neg a3,if_neg a2]
theorem a2j{places:Nat->Option (Nat×Nat)}: ∀ (ps:List (Nat×Value)) (qs:List (Nat×Nat×AV)) (cs:Array Value) (xs ys:List AV),RL μ Φ cs.toList xs->ZW cs.toList ->
  ps.length=qs.length->(∀ (j:Nat) p q,ps[j]? = some p->qs[j]? = some q->places p.1=some (q.1,q.2.1)∧R μ Φ p.2 q.2.2)->DX xs qs=some ys ->
  ∃ ds,Instr.fill places cs ps=some ds∧RL μ Φ ds.toList ys∧ZW ds.toList∧ds.size=cs.size:=by
 intro ps
 induction ps with
 | nil=>
  intro qs cs xs ys h1 h2 h3 _ hf
  have:qs=[]:=by simpa using h3.symm
  subst this
  simp[DX]at hf
  subst hf
  exact⟨cs,rfl,h1,h2,rfl⟩
 | cons p ps ih=>
  intro qs cs xs ys h1 h2 h3 h4 hf
  cases qs with
  | nil=>simp at h3
  | cons q qs=>
   obtain⟨i,v⟩:=p
   obtain⟨o,n,y⟩:=q
   simp only[DX]at hf
   split at hf
   ·rename_i hc
    obtain⟨c1,c2,c3⟩:=hc
    obtain⟨e1,e2⟩:=h4 0 _ _ rfl rfl
    simp only at e1 e2
    obtain⟨m1,m2⟩:=Bn e2 c3
    have hvl:v.cells.size=n:=by have:=m1.1;simp at this;omega
    have hcs:cs.size=xs.length:=by simpa using h1.1
    have hset:=a6z o v.cells.toList 0 cs (by simp;omega)
    simp only[Nat.add_zero]at hset
    obtain⟨ds,k1,k2,k3,k4⟩:=ih qs (v.cells.zipIdx.foldl (fun cs (p:Value×Nat)=>cs.setIfInBounds (o+p.2) p.1) cs) _ ys
     (by rw[<- Array.foldl_toList,Array.toList_zipIdx,hset];exact h1.splice m1 o) (by rw[<- Array.foldl_toList,Array.toList_zipIdx,hset];exact h2.splice m2 o) (by simpa using h3) (fun j a b ha hb=>h4 (j+1) a b (by simpa using ha) (by simpa using hb)) hf
    refine⟨ds,?_,k2,k3,?_⟩
    ·simp only[Instr.fill,e1]
     rw[if_neg (by simp[hvl];omega)]
     exact k1
    ·rw[k4]
     have:=congrArg List.length hset
     rw[YU (by simp;omega)]at this
     rw[<- Array.foldl_toList,Array.toList_zipIdx]
     simpa using this
   ·cases hf
end
end Go.Pl
namespace Go.Pl
open Go.RowKit
section
variable {P:Program} {c:Ctx} {μ:Mu} {Φ:Zv} {σ σ':Zu} {w:World} {a:Act} {env:List AV} {L:Nat} {x:AV}
theorem a9e{α β:Type}{f:α->Sem β}: ∀ {xs:List α} {ys:List β},xs.length=ys.length->(∀ (j:Nat) x y,xs[j]? = some x->ys[j]? = some y->(f x).run P w = .ok y w)->(xs.mapM f).run P w = .ok ys w:=by
  intro xs
  induction xs with
  | nil => intro ys h _; have : ys = [] := by simpa using h.symm
           subst this;simp
  | cons x xs ih=>
    intro ys h hf
    cases ys with
    | nil=>simp at h
    | cons y ys=>
      rw[List.mapM_cons]
      simp[hf 0 x y rfl rfl,ih (by simpa using h) (fun j a b ha hb=>hf (j+1) a b (by simpa using ha) (by simpa using hb))]
theorem Ab{α β:Type}{f:α->Sem β}{xs:Array α}{ys:List β}(h:xs.size=ys.length)(hf : ∀ (j:Nat) x y,xs[j]? = some x->ys[j]? = some y->(f x).run P w = .ok y w):(xs.mapM f).run P w = .ok ys.toArray w:=by
 rw[Array.mapM_eq_mapM_toList]
 simp[a9e (P:=P) (w:=w) (f:=f) (xs:=xs.toList) (ys:=ys) (by simpa using h) (fun j x y hx hy=>hf j x y (by simpa using hx) hy)]
theorem Al{z:Value}{p:PV}{places:Nat->Option (Nat×Nat)}{ps:List (Nat×Value)}{qs:List (Nat×Nat×IOp)}(hz:Vn z=some p)(hg:Good c μ Φ σ w)
  (hlen:ps.length=qs.length) (hrel : ∀ (j:Nat) a b,ps[j]? = some a->qs[j]? = some b->places a.1=some (b.1,b.2.1)∧R μ Φ a.2 (ev env b.2.2)) (hr:(YF L env (.build p.cells qs)).run σ=some (x,σ')) :
  ∃ ds,Instr.fill places z.cells ps=some ds∧σ'=σ∧R μ Φ (.agg ds) x:=by
 simp only[YF]at hr
 split at hr
 ·rename_i ys hf
  obtain⟨rfl,rfl⟩:=Zp hr
  obtain⟨h1,h2⟩:=VQ (VB (Φ:=Φ) hz) (Xe hz)
  obtain⟨ds,k1,k2,k3,_⟩:=a2j (places:=places) ps (qs.map fun(o,n,x)=>(o,n,ev env x)) z.cells _ ys (h1.toRL (μ:=μ)) h2 (by simpa using hlen) (by
   intro j a b ha hb
   rw[List.getElem?_map]at hb
   obtain⟨q,hq,rfl⟩:=Option.map_eq_some_iff.1 hb
   exact hrel j a q ha hq) hf
  refine⟨ds,k1,rfl,?_⟩
  have:=Bu k2 k3
  simpa using this
 ·exact(Zg hr).elim
theorem b1e{t:TypeId}{fs:Array Field}{i:TypeInfo}{z:Value}{p:PV}{pl:List (Nat×Nat)}{ps:Array (Nat×Value)}{qs:List (Nat×Nat×IOp)}(ht:P.underlying t=some (.struct fs))(hi:P.info? t=some i)(hiz:i.zero=some z)(hz:Vn z=some p)
  (hpl:Xg (fun(f:Field)=>(P.info? f.type).map fun i=>(f.offset,i.size)) fs.toList=some pl) (hg:Good c μ Φ σ w) (hlen:ps.size=qs.length)
  (hrel : ∀ (j:Nat) a b,ps[j]? = some a->qs[j]? = some b->pl[a.1]? = some (b.1,b.2.1)∧R μ Φ a.2 (ev env b.2.2)) (hr:(YF L env (.build p.cells qs)).run σ=some (x,σ')) :
  VS P (Instr.build t ps) w (ZN c μ Φ σ' x):=by
 obtain⟨ds,k1,rfl,k2⟩:=Al (c:=c) (places:=(pl[·]?)) (ps:=ps.toList) hz hg (by simpa using hlen) (fun j a b ha hb=>hrel j a b (by simpa using ha) hb) hr
 obtain⟨m1,m2⟩:=Xo hpl
 have hm:=Ab (P:=P) (w:=w) (f:=fun(f:Field)=>do pure (f.offset,<- sizeOf f.type)) (xs:=fs) (ys:=pl) (by simpa using m1) (by
  intro j f q hf hq
  have:=m2 j f q (by simpa using hf) hq
  rw[Option.map_eq_some_iff]at this
  obtain⟨i',hi',rfl⟩:=this
  simp[ZI hi'])
 refine⟨.agg ds,w,?_,Zh hg k2⟩
 have hzr:(zeroValue t).run P w = .ok z w:=by simp[zeroValue,typeInfo,hi,hiz]
 simp only[Instr.build,Sem.run_bind,hzr,Result.andThen_ok,run_underlying ht]
 rw[hm]
 simp[k1]
theorem a5d{t e:TypeId}{n:Nat}{i ie:TypeInfo}{z:Value}{p:PV}{ps:Array (Nat×Value)}{qs:List (Nat×Nat×IOp)}(ht:P.underlying t=some (.array n e))(hi:P.info? t=some i)(hie:P.info? e=some ie)(hiz:i.zero=some z)(hz:Vn z=some p)
  (hg:Good c μ Φ σ w) (hlen:ps.size=qs.length)
  (hrel : ∀ (j:Nat) a b,ps[j]? = some a->qs[j]? = some b->some (a.1*ie.size,ie.size)=some (b.1,b.2.1)∧R μ Φ a.2 (ev env b.2.2)) (hr:(YF L env (.build p.cells qs)).run σ=some (x,σ')) :
  VS P (Instr.build t ps) w (ZN c μ Φ σ' x):=by
 obtain⟨ds,k1,rfl,k2⟩:=Al (c:=c) (places:=fun j=>some (j*ie.size,ie.size)) (ps:=ps.toList) hz hg (by simpa using hlen) (fun j a b ha hb=>hrel j a b (by simpa using ha) hb) hr
 refine⟨.agg ds,w,?_,Zh hg k2⟩
 have hzr:(zeroValue t).run P w = .ok z w:=by simp[zeroValue,typeInfo,hi,hiz]
 simp[Instr.build,hzr,run_underlying ht,ZI hie,k1]
theorem a4v{sz:Nat}: ∀ (xs:List PV) (k:Nat) (pre:List AV),pre.length=k*sz->(∀ x∈xs,x.cells.length=sz∧x.cellsOk=true) ->
  DX (pre++List.replicate (xs.length*sz) .junk) ((xs.zipIdx k).map fun q=>(q.2*sz,sz,AV.pv q.1))=some (pre++(flat xs).map .pv):=by
 intro xs
 induction xs with
 | nil=>intro k pre _ _;simp[DX,flat]
 | cons x xs ih=>
  intro k pre hp hx
  obtain⟨h1,h2⟩:=hx x (by simp)
  have e:AV.cells (.pv x)=x.cells.map .pv:=by cases x <;> rfl
  have hok:AV.cellsOk (.pv x)=true:=by cases x <;> simp_all[AV.cellsOk,PV.cellsOk]
  have hl:(AV.cells (.pv x)).length=sz:=by rw[e];simpa using h1
  simp only[List.zipIdx_cons,List.map_cons,DX]
  rw[if_pos ⟨hl,by simp[hp,Nat.add_mul],hok⟩]
  have hsp:splice (pre++List.replicate ((x::xs).length*sz) AV.junk) (k*sz) (AV.cells (.pv x))=(pre++x.cells.map .pv)++List.replicate (xs.length*sz) .junk:=by
   unfold splice
   rw[hl,<- hp,List.take_left,<- List.drop_drop,List.drop_left,e,List.drop_replicate]
   congr 2
   simp[Nat.add_mul]
  rw[hsp,ih (k+1) _ (by simp[hp,h1,Nat.add_mul]) (fun y hy=>hx y (by simp[hy]))]
  simp[Xr]
theorem Mr:(default:Value).oneCell'=true:=rfl
theorem c5l(cs:List Value):RL μ Φ cs (List.replicate cs.length .junk):=
 ⟨by simp,fun j v x hv hx=>by
  have:=List.getElem?_eq_some_iff.1 hx
  obtain⟨h,e⟩:=this
  simp at e
  subst e
  exact .junk v⟩
theorem Rj{z:Array Value}(hz:ZW z.toList)(n:Nat):ZW ((Array.range n).map (z[· % z.size]!)).toList:=by
 intro v hv
 simp at hv
 obtain⟨k,hk,rfl⟩:=hv
 rw[getElem!_def]
 split
 ·rename_i e
  exact hz _ (by simpa using Array.mem_of_getElem? e)
 ·exact Mr
theorem PD{α:Type}: ∀ (l:List (Nat×α)) (k:Nat),l.map (·.1)=List.range' k l.length->l=((l.map (·.2)).zipIdx k).map fun q=>(q.2,q.1):=by
 intro l
 induction l with
 | nil=>intro k _;rfl
 | cons a l ih=>
  intro k h
  simp only[List.map_cons,List.length_cons,List.range'_succ,List.cons.injEq]at h
  simp only[List.map_cons,List.zipIdx_cons]
  rw[<- ih (k+1) h.2,<- h.1]
theorem vs_bslice {t e : TypeId} {n : Nat} {i : TypeInfo} {z : Value} {p : PV} {ps : Array (Nat × Value)} {qs : List (Nat × IOp)} (ht : P.underlying t = some (.slice e)) (hi : P.info? e = some i) (hiz : i.zero = some z) (hz : Vn z = some p)
    (hsmall:n*i.size ≤ 1048576) (hnsm:n ≤ 1048576) (hg:Good c μ Φ σ w) (hlen:ps.size=qs.length)
    (hrel : ∀ (j:Nat) a b,ps[j]? = some a → qs[j]? = some b → a.1=b.1∧R μ Φ a.2 (ev env b.2)) (hr:(YF L env (.bslice e i.size n p qs)).run σ=some (x,σ')) :
    VS P (Instr.buildSlice t n ps) w (ZN c μ Φ σ' x):=by
  simp only[YF]at hr
  split at hr
  · rename_i hrange
    rw[HM.run_bind,Option.bind_eq_some_iff]at hr
    obtain⟨⟨xs,σ1⟩,hf,hr⟩:=hr
    have hvs:RL μ Φ (ps.toList.map (·.2)) (qs.map fun(_,x)=>ev env x):=by
      refine⟨by simpa using hlen,?_⟩
      intro j v y hv hy
      rw[List.getElem?_map]at hv hy
      obtain⟨a,ha,rfl⟩:=Option.map_eq_some_iff.1 hv
      obtain⟨b,hb,rfl⟩:=Option.map_eq_some_iff.1 hy
      exact(hrel j a b (by simpa using ha) hb).2
    obtain⟨Φ1,f1,f2,f3⟩:=Qu _ hf hg hvs
    simp only at hr
    have hqr:=ZM hr
    clear hr
    obtain⟨hall,hr⟩:=hqr
    · obtain⟨hl,hr⟩:=Qa hr
      obtain⟨rfl,rfl⟩:=Zp hr
      have hxs:xs.length=n:=by
        have h1:=congrArg List.length hrange
        have h2:=f3.1
        simp at h1 h2
        omega
      have hcells : ∀ x∈xs,x.cells.length=i.size∧x.cellsOk=true:=by
        intro y hy
        have:=List.all_eq_true.1 hall y hy
        simpa using this
      have hzero:(if n*i.size=0 then(pure #[]:Sem (Array Value))else do pure (← zeroValue e).cells).run P w = .ok (if n*i.size=0 then #[]else z.cells) w:=by
        split
        · rfl
        · simp[zeroValue,typeInfo,hi,hiz]
      have hzo:ZW (if n*i.size=0 then #[]else z.cells:Array Value).toList:=by
        split
        · intro v hv;simp at hv
        · exact(VQ (VB (Φ:=Φ) hz) (Xe hz)).2
      -- the parts in order
      have hps:ps.toList=((ps.toList.map (·.2)).zipIdx 0).map fun q=>(q.2,q.1):=by
        refine PD _ 0 ?_
        have e1:ps.toList.map (·.1)=qs.map (·.1):=by
          apply List.ext_getElem?
          intro j
          rw[List.getElem?_map,List.getElem?_map]
          by_cases hj:j<qs.length
          · have ha:ps[j]? = some (ps[j]'(by omega)):=Array.getElem?_eq_getElem (by omega)
            have hb:qs[j]? = some qs[j]:=List.getElem?_eq_getElem hj
            have:=(hrel j _ _ ha hb).1
            simp[ha,hb,this]
          · have hb:qs[j]? = none:=List.getElem?_eq_none (by omega)
            have ha:ps.toList[j]? = none:=List.getElem?_eq_none (by simp;omega)
            rw[ha,hb];rfl
        rw[e1,hrange,List.range_eq_range']
        have:ps.toList.length=n:=by
          have:=f3.1
          simp at this ⊢
          omega
        rw[this]
      obtain⟨ds,k1,k2,k3,k4⟩:=a2j (μ:=μ) (Φ:=Φ1) (places:=fun j=>some (j*i.size,i.size)) ps.toList ((xs.zipIdx 0).map fun q=>(q.2*i.size,i.size,AV.pv q.1))
        ((Array.range (n*i.size)).map ((if n*i.size=0 then #[]else z.cells:Array Value)[· % (if n*i.size=0 then #[]else z.cells:Array Value).size]!)) (List.replicate (n*i.size) .junk) ((flat xs).map .pv)
        (by have := c5l (μ := μ) (Φ := Φ1) ((Array.range (n * i.size)).map ((if n * i.size = 0 then #[] else z.cells : Array Value)[· % (if n * i.size = 0 then #[] else z.cells : Array Value).size]!)).toList
            simpa using this)
        (Rj hzo _) (by have:=f3.1;simp at this ⊢;omega)
        (by
          intro j pa qa ha hb
          rw[hps,List.getElem?_map,List.getElem?_zipIdx]at ha
          rw[List.getElem?_map,List.getElem?_zipIdx]at hb
          simp only[Option.map_map,Option.map_eq_some_iff,Function.comp]at ha hb
          obtain⟨v,hv,rfl⟩:=ha
          obtain⟨y,hy,rfl⟩:=hb
          exact⟨rfl,.pv _ _ (f3.2 j v y hv hy)⟩)
        (by have := a4v (sz := i.size) xs 0 [] (by simp) hcells
            rw[hxs]at this
            simpa using this)
      have hfill:Instr.fill (fun j=>some (j*i.size,i.size)) ((Array.range (n*i.size)).map ((if n*i.size=0 then #[]else z.cells:Array Value)[· % (if n*i.size=0 then #[]else z.cells:Array Value).size]!)) ps.toList=some ds:=k1
      have hdsz:ds.size=n*i.size:=by rw[k4];simp
      have htk:ds.toList.take (xs.length*i.size)=ds.toList:=by rw[List.take_of_length_le (by simp[hdsz,hxs])]
      obtain⟨μ',q1,q2,q3⟩:=JM (w':=w.alloc (.cells ds e)) f2 hl (ty:=e) (sz:=i.size) (xs:=xs) (B:=w.heap.size) (C:=n) (cs:=ds) rfl rfl rfl (by simp) (fun b hb=>Xq w _ b hb) (Nat.le_refl _) (Xp w _) hdsz (by omega)
        (by unfold maxLen;omega)
        (fun y hy=>(hcells y hy).1) (by
          rw[htk]
          refine⟨by simpa using k2.1,fun j v y hv hy=>ZR (k2.2 j v (.pv y) hv (by simp[hy]))⟩) (by rw[htk];exact k3)
      rw[hxs]at q3
      refine⟨_,_,?_,μ',Φ1,q1,f1,q2,q3⟩
      have hns : ¬ n*i.size>2 ^ 24:=by omega
      have hzr:(zeroValue e).run P w = .ok z w:=by simp[zeroValue,typeInfo,hi,hiz]
      by_cases hz0:n*i.size=0
      · simp only[hz0,if_true]at hfill hns
        simp only[Instr.buildSlice,Sem.run_bind,run_underlying ht,Result.andThen_ok,ZI hi,hns,if_false,hz0,if_true,Sem.run_pure,hfill,newRow]
        rfl
      · simp only[hz0,if_false]at hfill hns
        simp only[Instr.buildSlice,Sem.run_bind,run_underlying ht,Result.andThen_ok,ZI hi,hns,if_false,hz0,hzr,Sem.run_pure,hfill,newRow]
        rfl
  · exact(Zg hr).elim
end
end Go.Pl
namespace Go.Pl
open Go.RowKit
section
variable {P:Program} {c:Ctx} {μ:Mu} {Φ:Zv} {σ σ':Zu} {w:World} {a:Act} {env:List AV} {L:Nat} {x:AV}
theorem Jw{p:PV}: ∀ (n k:Nat),k<n*p.cells.length->(flat (List.replicate n p))[k]? = p.cells[k % p.cells.length]? :=by
 intro n
 induction n with
 | zero=>intro k h;simp at h
 | succ n ih=>
  intro k h
  rw[List.replicate_succ,Xr]
  rw[Nat.add_mul,Nat.one_mul]at h
  by_cases hk:k<p.cells.length
  ·rw[List.getElem?_append_left hk,Nat.mod_eq_of_lt hk]
  ·rw[List.getElem?_append_right (by omega),ih _ (by omega)]
   congr 1
   rw[Nat.mod_eq_sub_mod (by omega:k ≥ p.cells.length)]
theorem NI{z:Value}{p:PV}(hz:Vn z=some p){n sz:Nat}(hs:p.cells.length=sz):Xy Φ ((madeCells z.cells (n*sz)).toList) (flat (List.replicate n p))∧ZW (madeCells z.cells (n*sz)).toList:=by
 obtain⟨h1,h2⟩:=VQ (VB (Φ:=Φ) hz) (Xe hz)
 have hzs:z.cells.size=sz:=by have:=h1.1;simp at this;omega
 refine⟨⟨?_,?_⟩,Rj h2 _⟩
 ·rw[Y9 (sz:=sz) (fun x hx=>by have:=List.eq_of_mem_replicate hx;rw[this];exact hs)]
  simp[size_madeCells]
 ·intro j v x hv hx
  have hj:j<n*sz:=by
   have:=(List.getElem?_eq_some_iff.1 hv).1
   simpa [size_madeCells]using this
  have hpos:0<sz:=by
   rcases Nat.eq_zero_or_pos sz with h|h
   ·subst h;simp at hj
   ·exact h
  have hm:j % sz<sz:=Nat.mod_lt _ hpos
  rw[Jw n j (by rw[hs];exact hj),hs]at hx
  have hzc:z.cells[j % sz]? = some (z.cells[j % sz]'(by omega)):=Array.getElem?_eq_getElem (by omega)
  have hv':v=z.cells[j % sz]'(by omega):=by
   simp[madeCells,hzs]at hv
   obtain⟨k,hk,hv⟩:=hv
   have hkj:j=k:=by
    obtain⟨_,e⟩:=List.getElem?_eq_some_iff.1 hk
    simpa using e
   subst hkj
   rw[getElem!_pos z.cells (j % sz) (by omega)]at hv
   exact hv.symm
  subst hv'
  exact h1.2 (j % sz) _ x (by simp[hzc]) hx
theorem c0l{t e:TypeId}{i:TypeInfo}{z:Value}{p:PV}{u v:Value}{X Y:IOp}(ht:P.underlying t=some (.slice e))(hi:P.info? e=some i)(hiz:i.zero=some z)(hz:Vn z=some p)(hs:p.cells.length=i.size)
  (hg:Good c μ Φ σ w) (hu:R μ Φ u (ev env X)) (hv:R μ Φ v (ev env Y)) (hr:(YF L env (.mksl e i.size i.bytes p X Y)).run σ=some (x,σ')):VS P (Instr.makeSlice t u v) w (ZN c μ Φ σ' x):=by
 simp only[YF]at hr
 split at hr
 ·rename_i n m hX hY
  rw[hX]at hu
  rw[hY]at hv
  replace hu:=ZR hu
  replace hv:=ZR hv
  have hqr:=ZM hr
  clear hr
  obtain⟨hc,hr⟩:=hqr
  simp only[Bool.and_eq_true,beq_iff_eq,decide_eq_true_eq]at hc
  ·obtain⟨⟨⟨h0,rfl⟩,h2⟩,h3⟩:=hc
   have hqr:=Qa hr
   clear hr
   obtain⟨hl,hr⟩:=hqr
   obtain⟨rfl,rfl⟩:=Zp hr
   cases hu
   cases hv
   have hrun:=run_make (P:=P) w t e i z ht hi hiz .i64 .i64 n n h0 (Int.le_refl _) (by rw[Int.mul_comm];omega) (by omega)
   obtain⟨k1,k2⟩:=NI (Φ:=Φ) hz (n:=n.toNat) hs
   have hlen:(List.replicate n.toNat p).length=n.toNat:=by simp
   have htk:(madeCells z.cells (n.toNat*i.size)).toList.take ((List.replicate n.toNat p).length*i.size)=(madeCells z.cells (n.toNat*i.size)).toList:=by
    rw[List.take_of_length_le (by simp[size_madeCells])]
   obtain⟨μ',q1,q2,q3⟩:=JM (w':=w.alloc (.cells (madeCells z.cells (n.toNat*i.size)) e)) hg hl (ty:=e) (sz:=i.size) (xs:=List.replicate n.toNat p) (B:=w.heap.size) (C:=n.toNat) (cs:=madeCells z.cells (n.toNat*i.size)) rfl rfl rfl (by simp) (fun b hb=>Xq w _ b hb) (Nat.le_refl _) (Xp w _) (size_madeCells _ _) (by simp)
    (by unfold maxLen;omega) (fun y hy=>by have:=List.eq_of_mem_replicate hy;rw[this];exact hs) (by rw[htk];exact k1) (by rw[htk];exact k2)
   rw[hlen]at q3
   exact⟨_,_,hrun,μ',Φ,q1,Zv.le.refl _,q2,q3⟩
 ·exact(Zg hr).elim
def YS(Φ:Zv)(w:World)(sz:Nat)(v:Value)(ys:List PV):Prop:=
 ∃ ay cy,v = .slice ay ys.length cy∧(ys=[] ∨ ∃ b off news,ay=some ⟨b,off,none⟩∧Y0 w b off news∧Xy Φ news (flat ys)∧ZW news∧ ∀ x∈ys,x.cells.length=sz)
theorem QZ{σ:Zu}{l:Nat}{s:Slot}(h:σ[l]? = some s):σ.set l s=σ:=by
 apply List.ext_getElem?
 intro j
 by_cases e:j=l
 ·subst e
  rw[ZB h,h]
 ·rw[Zx e]
theorem Yr{t ty e:TypeId}{i:TypeInfo}(ht:P.underlying t=some (.slice e))(hi:P.info? e=some i){b ay:Option Addr}{n cp cy:Nat}(h:n<=cp):
  (Builtin.append_ #[t,t] ty #[.slice b n cp,.slice ay 0 cy]).run P w = .ok (.slice b n cp) w:=by
 have hf:(Builtin.firstCells i.size 0 (.slice ay 0 cy)).run P w = .ok #[] w:=by
  cases ay with
  | none=>rfl
  | some q=>simp[Builtin.firstCells,loadCells,loadCellsFrom]
 cases b with
 | none=>simp[Builtin.append_,run_underlying ht,ZI hi,Builtin.lenOf,h,hf]
 | some q=>simp[Builtin.append_,run_underlying ht,ZI hi,Builtin.lenOf,h,hf,storeCells]
theorem XB{b off:Nat}{cs:List Value}(h:Y0 w b off cs): ∀ j u,cs[j]? = some u->w.cell? ((⟨b,off,none⟩:Addr).add j)=some u:=fun j u hj=>by rw[ZP];exact h j u hj
theorem VM{w':World}(hg:Good c μ Φ σ w){v':Value}{e sz n:Nat}{olds:List Value}{xs:List PV}(hown:w'.ownsRow w.heap.size e sz v' n olds)(hgr : ∀ k,k<w.heap.size->w'.heap[k]? = w.heap[k]?)(hn:n=xs.length)(hpos:0<n):
  ∃ g cp cur,v' = .slice (some ⟨g,0,none⟩) n cp∧w.heap.size<=g∧w'.heap[g]? = some (.cells cur e (0,0))∧n<=cp∧cp<=maxLen∧cur.size=cp*sz∧cur.toList.take (n*sz)=olds:=by
 rcases hown.2 with ⟨_,h0⟩|⟨g,cp,cur,h1,h2,h3,h4,h5,h6,h7⟩
 ·omega
 ·exact⟨g,cp,cur,h1,h2,h3,h4,h5,h6,h7⟩
theorem XT.stores{B o n C:Nat}{e:Nat}{cur:Array Value}(h:XT w B cur e n C)(vs:List Value)(hl:o+vs.length<=cur.size)(h1 : ∀ v∈vs,v.oneCell'=true):
  (storeCells ⟨B,o,none⟩ vs 0).run P w = .ok () (w.setRow B (cur.toList.take o++vs++cur.toList.drop (o+vs.length)).toArray):=by
 obtain⟨z,h,hz⟩:=h
 have:=Bo (P:=P) (o:=o) vs 0 cur w h (hz.imp id fun h=>h.2) (by omega) h1
 simpa using this
theorem Ck{t ty e:TypeId}{i:TypeInfo}(ht:P.underlying t=some (.slice e))(hi:P.info? e=some i)
  (g sLen sCap:Nat) (cur:Array Value) {n C:Nat} (hg:XT w g cur e n C)
  (a:Addr) (m c:Nat) (news:List Value) (hl:news.length=m*i.size) (hnews : ∀ j u,news[j]? = some u->w.cell? (a.add j)=some u) (h1 : ∀ u∈news,u.oneCell'=true)
  (hroom:sLen+m<=sCap) (hfit:sLen*i.size+news.length<=cur.size) :
  (Builtin.append_ #[t,t] ty #[.slice (some ⟨g,0,none⟩) sLen sCap,.slice (some a) m c]).run P w =
   .ok (.slice (some ⟨g,0,none⟩) (sLen+m) sCap) (w.setRow g (cur.toList.take (sLen*i.size)++news++cur.toList.drop (sLen*i.size+news.length)).toArray):=by
 have hf:=run_firstCells_some (P:=P) w i.size m a m c news hl hnews
 have hst:=hg.stores (P:=P) news hfit h1
 simp[Builtin.append_,run_underlying ht,sizeOf,typeInfo,hi,Builtin.lenOf,hroom,hf,Addr.add_lit,hst]
theorem XT.put'{g n C n' C':Nat}{e:Nat}{cur:Array Value}{cs:List Value}(h:XT w g cur e n C)(hs:cs.length=cur.size):XT (w.setRow g cs.toArray) g cs.toArray e n' C':=by
 obtain⟨z,h1,h2⟩:=h
 exact⟨z,setRow_heap w g cur _ e z h1,by rw[List.size_toArray,hs];exact h2⟩
theorem Tz{t ty e:TypeId}{i:TypeInfo}{z:Value}{p:PV}{u v:Value}{X:AV}{ys:List PV}(ht:P.underlying t=some (.slice e))(hi:P.info? e=some i)(hiz:i.zero=some z)(hz:Vn z=some p)(hs:p.cells.length=i.size)(hpos:0<i.size)
  (hg:Good c μ Φ σ w) (hu:R μ Φ u X) (hy:YS Φ w i.size v ys) (hr:(Q0 L e i.size i.bytes X ys).run σ=some (x,σ')):VS P (Builtin.append_ #[t,t] ty #[u,v]) w (ZN c μ Φ σ' x):=by
 have hzs:z.cells.size=i.size:=by
  have:=(VQ (VB (Φ:=Φ) hz) (Xe hz)).1.1
  simp at this
  omega
 obtain⟨ay,cy,rfl,hys⟩:=hy
 unfold Q0 at hr
 split at hr
 ·rename_i sz' tt xs
  replace hu:=ZR hu
  have hqr:=ZM hr
  clear hr
  obtain⟨rfl,hr⟩:=hqr
  replace hr:=a3s hr
  cases he:ys.isEmpty with
  | true=>
   rw[he]at hr
   obtain⟨rfl,rfl⟩:=Zp hr
   have:ys=[]:=by simpa using he
   subst this
   have : ∃ b cp,u = .slice b xs.length cp∧xs.length<=cp:=by
    cases hu with
    | sl0 a c sz t h=>exact⟨a,c,rfl,by simp⟩
    | sl b off cs c sz t xs u hb hc htt hs hu hr=>exact⟨_,c,rfl,hc⟩
   obtain⟨b,cp,rfl,hcp⟩:=this
   exact⟨_,w,Yr ht hi hcp,Zh hg (.pv _ _ hu)⟩
  | false=>
   rw[he]at hr
   have hne : ¬ ys.isEmpty=true:=by simp[he]
   have hqr:=ZM hr
   clear hr
   obtain⟨hb,hr⟩:=hqr
   simp only[Bool.and_eq_true,decide_eq_true_eq]at hb
   ·obtain⟨⟨hb0,hb1⟩,hb2⟩:=hb
    have hqr:=Qa hr
    clear hr
    obtain⟨hl,hr⟩:=hqr
    obtain⟨rfl,rfl⟩:=Zp hr
    rcases hys with rfl|⟨b,off,news,rfl,y1,y2,y3,y4⟩
    ·simp at hne
    have hnl:news.length=ys.length*i.size:=by rw[y2.1,Y9 y4]
    have hylen:0<ys.length:=by
     cases ys with
     | nil=>simp at hne
     | cons=>simp
    -- the run
    have hrun : ∃ v' w' olds,(Builtin.append_ #[t,t] ty #[u,.slice (some ⟨b,off,none⟩) ys.length cy]).run P w = .ok v' w'∧w'.ownsRow w.heap.size e i.size v' (xs.length+ys.length) (olds++news)∧w.grownBy w' none∧Xy Φ olds (flat xs)∧ZW olds∧(∀ x∈xs,x.cells.length=i.size):=by
     by_cases hx0:xs=[]
     ·subst hx0
      cases hu with
      | sl0 a cc _ _ h=>
       have:=h rfl
       subst this
       cases a with
       | none=>
        obtain⟨v',w',r1,r2,r3,_⟩:=run_append_own (P:=P) w w.heap.size t ty e i z i.size i.bytes ht hi hiz rfl rfl hzs hpos _ 0 [] (World.ownsRow_nil _ _ _ _) ⟨b,off,none⟩ ys.length cy news hnl (XB y1) y3 (by unfold maxLen;simp at hb2;omega) (by simp at hb1 ⊢;omega) (Nat.le_refl _)
        exact⟨v',w',[],r1,by simpa using r2,r3,⟨rfl,fun j v x h=>by simp at h⟩,fun v hv=>by simp at hv,fun x hx=>by simp at hx⟩
       | some q=>
        obtain⟨v',w',r1,r2,r3⟩:=run_append_arg_grows (P:=P) w t ty e i z i.size i.bytes ht hi hiz rfl rfl hzs hpos q 0 0 [] (by simp) (fun j u h=>by simp at h) ⟨b,off,none⟩ ys.length cy news hnl (XB y1) (by omega) (by unfold maxLen;simp at hb2;omega) (by simp at hb1 ⊢;omega)
        exact⟨v',w',[],r1,by simpa using r2,r3,⟨rfl,fun j v x h=>by simp at h⟩,fun v hv=>by simp at hv,fun x hx=>by simp at hx⟩
      | sl b' off' cs cc _ _ _ uu hb' hc htt hss huu hrr=>
       have:=htt rfl
       have hc0:cc=0:=by simpa using this
       subst hc0
       obtain⟨v',w',r1,r2,r3⟩:=run_append_arg_grows (P:=P) w t ty e i z i.size i.bytes ht hi hiz rfl rfl hzs hpos ⟨b',off',none⟩ 0 0 [] (by simp) (fun j u h=>by simp at h) ⟨b,off,none⟩ ys.length cy news hnl (XB y1) (by omega) (by unfold maxLen;simp at hb2;omega) (by simp at hb1 ⊢;omega)
       exact⟨v',w',[],r1,by simpa using r2,r3,⟨rfl,fun j v x h=>by simp at h⟩,fun v hv=>by simp at hv,fun x hx=>by simp at hx⟩
     ·obtain⟨b',off',c',cs',us',rfl,z1,z2,z3,z4,z5,z6,z7⟩:=hu.sl_cells hg.phi hx0
      have hc':=z3 rfl
      have hsz:sz'=i.size:=by
       rcases Bool.or_eq_true _ _ |>.mp hb0 with h|h
       ·exact absurd (by simpa using h) hx0
       ·exact beq_iff_eq.mp h
      subst hsz
      obtain⟨v',w',r1,r2,r3⟩:=run_append_arg_grows (P:=P) w t ty e i z i.size i.bytes ht hi hiz rfl rfl hzs hpos ⟨b',off',none⟩ xs.length c' us' (by rw[z6.1,Y9 z4]) (XB z5) ⟨b,off,none⟩ ys.length cy news hnl (XB y1) (by omega) (by unfold maxLen;omega) (by omega)
      exact⟨v',w',us',r1,r2,r3,z6,z7,z4⟩
    obtain⟨v',w',olds,r1,r2,r3,r4,r5,r6⟩:=hrun
    have hall : ∀ x∈xs++ys,x.cells.length=i.size:=fun x hx=>by
     rcases List.mem_append.1 hx with hx|hx
     ·exact r6 x hx
     ·exact y4 x hx
    have hgb : ∀ k,k<w.heap.size->w'.heap[k]? = w.heap[k]? :=fun k hk=>r3.block k hk (by simp)
    obtain⟨g,cp,cur,rfl,g2,g3,g4,g5,g6,g7⟩:=VM hg r2 hgb (xs:=xs++ys) (by simp) (by omega)
    have hlen:(xs++ys).length=xs.length+ys.length:=by simp
    obtain⟨μ',q1,q2,q3⟩:=JM (w':=w') hg hl (ty:=e) (sz:=i.size) (xs:=xs++ys) (B:=g) (C:=cp) (cs:=cur) r3.os r3.tape r3.output r3.size hgb g2 g3 g6 (by rw[hlen];exact g4) g5 hall
     (by rw[hlen,g7,XC];exact r4.append y2) (by rw[hlen,g7];exact r5.append y3)
    rw[hlen]at q3
    exact⟨_,_,r1,μ',Φ,q1,Zv.le.refl _,q2,q3⟩
 ·rename_i l n0 n
  have hqr:=YP hr
  clear hr
  obtain⟨ob,hob,hr⟩:=hqr
  split at hr
  ·rename_i ty' sz' xs
   split at hr
   ·rename_i hc
    obtain⟨rfl,rfl⟩:=hc
    have hqr:=ZM hr
    clear hr
    obtain⟨hq,hr⟩:=hqr
    simp only[Bool.and_eq_true,beq_iff_eq,decide_eq_true_eq]at hq
    obtain⟨⟨⟨hn,rfl⟩,hb1⟩,hb2⟩:=hq
    have hqr:=Un hr
    clear hr
    obtain⟨_,hr⟩:=hqr
    obtain⟨rfl,rfl⟩:=Zp hr
    cases hu with
    | row _ _ _ _ B C S q hm h2 h3 h4 ha=>
     have hq:=ha (.inr rfl)
     subst hq
     obtain⟨B',C',us,k1,k2,k3,k4,k5,k6,k7,k8,k9,k10⟩:=hg.obj l _ hob
     rw[hn,hm]at k1
     cases k1
     simp only[Nat.sub_zero,Nat.zero_mul]
     rcases hys with rfl|⟨b,off,news,rfl,y1,y2,y3,y4⟩
     ·-- nothing is appended
      have hsame:σ.set l (.obj (.row false ty' i.size (xs++[])))=σ:=by rw[List.append_nil];exact QZ hob
      refine⟨_,w,Yr ht hi (by omega),?_⟩
      rw[hsame]
      refine Zh hg ?_
      have:=R.row (μ:=μ) (Φ:=Φ) l n 0 n B C i.size (some ⟨B,0,none⟩) hm (Nat.zero_le _) (Nat.le_refl _) h4 (fun _=>by simp)
      simpa using this
     ·have hnl:news.length=ys.length*i.size:=by rw[y2.1,Y9 y4]
      have hall : ∀ x∈xs++ys,x.cells.length=i.size:=fun x hx=>by
       rcases List.mem_append.1 hx with hx|hx
       ·exact k7 x hx
       ·exact y4 x hx
      have hlen:(xs++ys).length=n+ys.length:=by simp[hn]
      have hblk:blk μ l (.row false ty' i.size xs)=B:=by simp[blk,hn,hm]
      by_cases hy0:ys=[]
      ·subst hy0
       have hsame:σ.set l (.obj (.row false ty' i.size (xs++[])))=σ:=by rw[List.append_nil];exact QZ hob
       refine⟨_,w,Yr ht hi (by omega),?_⟩
       rw[hsame]
       refine Zh hg ?_
       have:=R.row (μ:=μ) (Φ:=Φ) l n 0 n B C i.size (some ⟨B,0,none⟩) hm (Nat.zero_le _) (Nat.le_refl _) h4 (fun _=>by simp)
       simpa using this
      ·have hylen:0<ys.length:=by
        cases ys with
        | nil=>exact absurd rfl hy0
        | cons=>simp
       have hnew:μ l (n+ys.length)=none:=k2 _ (by omega)
       by_cases hroom:n+ys.length<=C
       ·-- there is room
        have hfit:n*i.size+news.length<=us.size:=by
         rw[hnl,k4,<- Nat.add_mul]
         exact Nat.mul_le_mul_right _ hroom
        have hrun:=Ck (P:=P) (w:=w) (ty:=ty) ht hi B n C us k3 ⟨b,off,none⟩ ys.length cy news hnl (XB y1) y3 hroom hfit
        have hle:=Mu.le_add μ l (n+ys.length) (B,C,i.size) (.inl hnew)
        refine⟨_,_,hrun,μ.add l (n+ys.length) (B,C,i.size),Φ,hle,Zv.le.refl _,?_,?_⟩
        ·refine hg.put hob rfl hle (fun l' h m=>Mu.add_ne _ _ _ _ _ _ h) (by simp) (by simp) (by simp) (by simp) (fun b' _ hne=>setRow_other w B b' _ (by rw[hblk]at hne;exact hne)) ?_ (.inl (by rw[hblk];simp[blk,hlen,Mu.add_same]))
         have hfl:(us.toList.take (n*i.size)).length=n*i.size:=by simp;omega
         have htk:(us.toList.take (n*i.size)++news++us.toList.drop (n*i.size+news.length)).take ((xs++ys).length*i.size)=us.toList.take (xs.length*i.size)++news:=by
          rw[hlen,hn,Nat.add_mul,<- hnl]
          rw[List.take_append_of_le_length (by rw[List.length_append,hfl];exact Nat.le_refl _),List.take_of_length_le (by rw[List.length_append,hfl];exact Nat.le_refl _)]
         refine⟨B,C,_,by rw[hlen];exact Mu.add_same _ _ _ _,fun m hm'=>by rw[Mu.add_ver _ _ _ _ _ (by omega)];exact k2 m (by omega),k3.put' (by rw[List.length_append,List.length_append,hfl,List.length_drop];simp only[Array.length_toList];omega),?_,by rw[hlen];exact hroom,k6,hall,?_,?_,by simpa using k10⟩
         ·rw[List.size_toArray,List.length_append,List.length_append,hfl,List.length_drop]
          simp only[Array.length_toList]
          omega
         ·rw[List.toList_toArray,htk,XC]
          exact k8.append y2
         ·rw[List.toList_toArray,htk]
          exact k9.append y3
        ·have:=R.row (μ:=μ.add l (n+ys.length) (B,C,i.size)) (Φ:=Φ) l (n+ys.length) 0 (n+ys.length) B C i.size (some ⟨B,0,none⟩) (Mu.add_same _ _ _ _) (Nat.zero_le _) (Nat.le_refl _) hroom (fun _=>by simp)
         simpa using this
       ·-- a new row
        have hol:(us.toList.take (n*i.size)).length=n*i.size:=by
         have:n*i.size<=us.size:=by rw[k4];exact Nat.mul_le_mul_right _ h4
         simp
         omega
        obtain⟨v',w',r1,r2,r3⟩:=run_append_arg_grows (P:=P) w t ty ty' i z i.size i.bytes ht hi hiz rfl rfl hzs hpos ⟨B,0,none⟩ n C (us.toList.take (n*i.size)) hol
         (fun j u' hj=>by
          rw[ZP]
          obtain⟨_,k3,_⟩:=k3
          have:=ZJ k3 0 (n*i.size)
          simp only[List.drop_zero]at this
          exact this j u' hj)
         ⟨b,off,none⟩ ys.length cy news hnl (XB y1) (by omega) (by unfold maxLen;omega) (by omega)
        have hgb : ∀ k,k<w.heap.size->w'.heap[k]? = w.heap[k]? :=fun k hk=>r3.block k hk (by simp)
        obtain⟨g,cp,cur,rfl,g2,g3,g4,g5,g6,g7⟩:=VM hg r2 hgb (xs:=xs++ys) (by simp[hn]) (by omega)
        have hle:=Mu.le_add μ l (n+ys.length) (g,cp,i.size) (.inl hnew)
        refine⟨_,_,r1,μ.add l (n+ys.length) (g,cp,i.size),Φ,hle,Zv.le.refl _,?_,?_⟩
        ·refine hg.put hob rfl hle (fun l' h m=>Mu.add_ne _ _ _ _ _ _ h) r3.os r3.tape r3.output r3.size (fun b' hb' _=>hgb b' hb') ?_ (.inr (by simp[blk,hlen,Mu.add_same];exact g2))
         refine⟨g,cp,cur,by rw[hlen];exact Mu.add_same _ _ _ _,fun m hm'=>by rw[Mu.add_ver _ _ _ _ _ (by omega)];exact k2 m (by omega),.of g3,g6,by rw[hlen];exact g4,g5,hall,?_,?_,by simp[Kk hg g2]⟩
         ·rw[hlen,g7,XC]
          have:=k8
          rw[hn]at this
          exact this.append y2
         ·rw[hlen,g7]
          have:=k9
          rw[hn]at this
          exact this.append y3
        ·have:=R.row (μ:=μ.add l (n+ys.length) (g,cp,i.size)) (Φ:=Φ) l (n+ys.length) 0 (n+ys.length) g cp i.size (some ⟨g,0,none⟩) (Mu.add_same _ _ _ _) (Nat.zero_le _) (Nat.le_refl _) g4 (fun _=>by simp)
         simpa using this
   ·exact(Zg hr).elim
  ·exact(Zg hr).elim
 ·exact(Zg hr).elim
theorem H9{t tn ty e:TypeId}{i:TypeInfo}{z:Value}(ht:P.underlying t=some (.slice e))(htn:P.underlying tn=some (.int .i64))(hi:P.info? e=some i)(hiz:i.zero=some z)
  (g sLen sCap:Nat) (cur:Array Value) {rn rc:Nat} (hg:XT w g cur e rn rc) (m:Nat) (hm:m<=1099511627776) (h48:m*i.bytes<=281474976710656) (h1 : ∀ u∈(Builtin.zeroCells z.cells m).toList,u.oneCell'=true) (hs:0<i.size) (h0:0<m)
  (hroom:sLen+m<=sCap) (hfit:sLen*i.size+(Builtin.zeroCells z.cells m).size<=cur.size) :
  (Builtin.append_ #[t,tn] ty #[.slice (some ⟨g,0,none⟩) sLen sCap,.int .i64 (m:Int)]).run P w =
   .ok (.slice (some ⟨g,0,none⟩) (sLen+m) sCap) (w.setRow g (cur.toList.take (sLen*i.size)++(Builtin.zeroCells z.cells m).toList++cur.toList.drop (sLen*i.size+(Builtin.zeroCells z.cells m).size)).toArray):=by
 have hst:=hg.stores (P:=P) (o:=sLen*i.size) (Builtin.zeroCells z.cells m).toList (by simpa using hfit) h1
 have hw:IntKind.i64.wrap (m:Int)=m:=by rw[IntKind.wrap_i64];omega
 have hneg : ¬ ((m:Int)<0):=by omega
 have h48i : ¬ (281474976710656<(m:Int)*(i.bytes:Int)):=by
  rw[<- Int.natCast_mul]
  omega
 have hns : ¬ (m*i.size=0):=Nat.mul_ne_zero (by omega) (by omega)
 simp only[Array.length_toList]at hst
 simp[Builtin.append_,run_underlying ht,run_underlying htn,sizeOf,typeInfo,zeroValue,hi,hiz,asInt,asIntOf,hw,hneg,h48i,hroom,hns,Addr.add_lit,hst]
theorem Hy{t tn ty e:TypeId}{i:TypeInfo}{z:Value}(ht:P.underlying t=some (.slice e))(htn:P.underlying tn=some (.int .i64))(hi:P.info? e=some i)(hiz:i.zero=some z)(hzs:z.cells.size=i.size)(hs:0<i.size)
  (b:Addr) (n cap:Nat) (olds:List Value) (hlo:olds.length=n*i.size) (Vs : ∀ j u,olds[j]? = some u->w.cell? (b.add j)=some u)
  (m:Nat) (h0:0<m) (hg:cap<n+m) (h63:n+m<=maxLen) (hbytes:(n+m)*i.bytes<=140737488355328) :
  ∃ v' w',(Builtin.append_ #[t,tn] ty #[.slice (some b) n cap,.int .i64 (m:Int)]).run P w = .ok v' w'∧w'.ownsRow w.heap.size e i.size v' (n+m) (olds++(Builtin.zeroCells z.cells m).toList)∧w.grownBy w' none:=by
 have hsmall:n+m<=9223372036854775807:=by simp only[maxLen]at h63;omega
 have hzl:(Builtin.zeroCells z.cells m).size=m*i.size:=by rw[size_zeroCells,hzs]
 have hlen:(olds++(Builtin.zeroCells z.cells m).toList).length=(n+m)*i.size:=by rw[List.length_append,hlo,Array.length_toList,hzl,Nat.add_mul]
 have hge:=grownCap_ge w (n+m) cap e
 have hcm:grownCap w (n+m) cap e<=maxLen:=grownCap_le_maxLen w (n+m) cap e h63
 have hn : ¬ (n+m<=cap):=by omega
 have h63' : ¬ (9223372036854775807<((n:Int)+(m:Int))):=by omega
 have h48' : ¬ (281474976710656<Builtin.nextslicecap (n+m) cap*i.bytes):=by have:=growslice_fits hg hbytes;omega
 have hw:IntKind.i64.wrap (m:Int)=m:=by rw[IntKind.wrap_i64];omega
 have hneg : ¬ ((m:Int)<0):=by omega
 have h48i : ¬ (281474976710656<(m:Int)*(i.bytes:Int)):=by
  rw[<- Int.natCast_mul]
  have:m*i.bytes<=(n+m)*i.bytes:=Nat.mul_le_mul_right _ (by omega)
  omega
 have hns : ¬ (m*i.size=0):=Nat.mul_ne_zero (by omega) (by omega)
 have hfo:=run_firstCells_some (P:=P) w.drew i.size n b n cap olds hlo (by simpa using Vs)
 have hr:(Builtin.append_ #[t,tn] ty #[.slice (some b) n cap,.int .i64 (m:Int)]).run P w = .ok (.slice (some ⟨w.heap.size,0,none⟩) (n+m) (grownCap w (n+m) cap e))
   (w.drew.alloc (.cells (olds.toArray++Builtin.zeroCells z.cells m++Builtin.zeroCells z.cells (grownCap w (n+m) cap e - (n+m))) e)):=by
  simp[Builtin.append_,run_underlying ht,run_underlying htn,sizeOf,typeInfo,zeroValue,hi,hiz,asInt,asIntOf,hw,hneg,h48i,hn,h63',h48',hns,Question.forced,hfo,newRow,grownCap]
 refine⟨_,_,hr,⟨hlen,.inr ⟨w.heap.size,_,_,rfl,Nat.le_refl _,heap_alloc_new w.drew _,hge,hcm,?_,?_⟩⟩,⟨rfl,rfl,rfl,by simp,fun k hk _=>heap_alloc_old w.drew _ hk⟩⟩
 ·simp only[Array.size_append,List.size_toArray,size_zeroCells,hzs,hlo,<- Nat.add_mul]
  congr 1
  omega
 ·simp only[Array.toList_append,List.append_assoc]
  rw[<- List.append_assoc,<- hlen]
  exact List.take_left
theorem J9{t tn ty e:TypeId}{i:TypeInfo}(ht:P.underlying t=some (.slice e))(htn:P.underlying tn=some (.int .i64))(hi:P.info? e=some i){b:Option Addr}{n cp:Nat}(h:n<=cp):
  (Builtin.append_ #[t,tn] ty #[.slice b n cp,.int .i64 (0:Nat)]).run P w = .ok (.slice b n cp) w:=by
 have hw:IntKind.i64.wrap (0:Int)=0:=by rw[IntKind.wrap_i64];omega
 cases b with
 | none=>simp[Builtin.append_,run_underlying ht,run_underlying htn,sizeOf,typeInfo,hi,asInt,asIntOf,hw,h]
 | some q=>simp[Builtin.append_,run_underlying ht,run_underlying htn,sizeOf,typeInfo,hi,asInt,asIntOf,hw,h,storeCells]
theorem b4c{z:Value}{p:PV}{m sz:Nat}(hz:Vn z=some p)(hs:p.cells.length=sz)(hzs:z.cells.size=sz)(hpos:0<sz):
  Xy Φ (Builtin.zeroCells z.cells m).toList (flat (List.replicate m p))∧ZW (Builtin.zeroCells z.cells m).toList:=by
 have h:Builtin.zeroCells z.cells m=madeCells z.cells (m*sz):=by
  unfold Builtin.zeroCells madeCells
  rw[hzs]
 rw[h]
 exact NI (Φ:=Φ) hz (n:=m) hs
theorem c2i{t tn ty e:TypeId}{i:TypeInfo}{z:Value}{p:PV}{u v:Value}{X Y:IOp}(ht:P.underlying t=some (.slice e))(htn:P.underlying tn=some (.int .i64))(hi:P.info? e=some i)(hiz:i.zero=some z)(hz:Vn z=some p)(hs:p.cells.length=i.size)(hpos:0<i.size)
  (hg:Good c μ Φ σ w) (hu:R μ Φ u (ev env X)) (hv:R μ Φ v (ev env Y)) (hr:(YF L env (.appz e i.size i.bytes p X Y)).run σ=some (x,σ')):VS P (Builtin.append_ #[t,tn] ty #[u,v]) w (ZN c μ Φ σ' x):=by
 have hzs:z.cells.size=i.size:=by
  have:=(VQ (VB (Φ:=Φ) hz) (Xe hz)).1.1
  simp at this
  omega
 simp only[YF]at hr
 split at hr
 ·rename_i m hY
  rw[hY]at hv
  replace hv:=ZR hv
  cases hv
  have hqr:=ZM hr
  clear hr
  obtain⟨hq,hr⟩:=hqr
  simp only[Bool.and_eq_true,decide_eq_true_eq]at hq
  obtain⟨hm0,hm1⟩:=hq
  obtain⟨k,rfl⟩ : ∃ k:Nat,m=(k:Int):=⟨m.toNat,by omega⟩
  split at hr
  ·rename_i l n0 n hX
   rw[hX]at hu
   rw[Int.toNat_natCast]at hr
   simp only[Q0]at hr
   have hqr:=YP hr
   clear hr
   obtain⟨ob,hob,hr⟩:=hqr
   split at hr
   ·rename_i ty' sz' xs
    split at hr
    ·rename_i hc
     obtain⟨rfl,rfl⟩:=hc
     have hqr:=ZM hr
     clear hr
     obtain⟨hq,hr⟩:=hqr
     rw[List.length_replicate]at hq hr
     simp only[Bool.and_eq_true,beq_iff_eq,decide_eq_true_eq]at hq
     obtain⟨⟨⟨hn,rfl⟩,hb1⟩,hb2⟩:=hq
     have hqr:=Un hr
     clear hr
     obtain⟨_,hr⟩:=hqr
     obtain⟨rfl,rfl⟩:=Zp hr
     cases hu with
     | row _ _ _ _ B C S q hm h2 h3 h4 ha=>
      have hq:=ha (.inr rfl)
      subst hq
      obtain⟨B',C',us,k1,k2,k3,k4,k5,k6,k7,k8,k9,k10⟩:=hg.obj l _ hob
      rw[hn,hm]at k1
      cases k1
      simp only[Nat.sub_zero,Nat.zero_mul]
      by_cases h0:k=0
      ·subst h0
       have hsame:σ.set l (.obj (.row false ty' i.size (xs++List.replicate 0 p)))=σ:=by rw[List.replicate_zero,List.append_nil];exact QZ hob
       refine⟨_,w,J9 ht htn hi (by omega),?_⟩
       rw[hsame]
       refine Zh hg ?_
       have:=R.row (μ:=μ) (Φ:=Φ) l n 0 n B C i.size (some ⟨B,0,none⟩) hm (Nat.zero_le _) (Nat.le_refl _) h4 (fun _=>by simp)
       simpa using this
      ·have hk0:0<k:=by omega
       obtain⟨y2,y3⟩:=b4c (Φ:=Φ) (m:=k) hz hs hzs hpos
       have hzl:(Builtin.zeroCells z.cells k).size=k*i.size:=by rw[size_zeroCells,hzs]
       have hall : ∀ x∈xs++List.replicate k p,x.cells.length=i.size:=fun x hx=>by
        rcases List.mem_append.1 hx with hx|hx
        ·exact k7 x hx
        ·rw[List.eq_of_mem_replicate hx];exact hs
       have hlen:(xs++List.replicate k p).length=n+k:=by simp[hn]
       have hblk:blk μ l (.row false ty' i.size xs)=B:=by simp[blk,hn,hm]
       have hnew:μ l (n+k)=none:=k2 _ (by omega)
       have hb48:k*i.bytes<=281474976710656:=by
        have:k*i.bytes<=(n+k)*i.bytes:=Nat.mul_le_mul_right _ (by omega)
        omega
       by_cases hroom:n+k<=C
       ·have hfit:n*i.size+(Builtin.zeroCells z.cells k).size<=us.size:=by
         rw[hzl,k4,<- Nat.add_mul]
         exact Nat.mul_le_mul_right _ hroom
        have hrun:=H9 (P:=P) (w:=w) (ty:=ty) ht htn hi hiz B n C us k3 k (by omega) hb48 y3 hpos hk0 hroom hfit
        have hle:=Mu.le_add μ l (n+k) (B,C,i.size) (.inl hnew)
        refine⟨_,_,hrun,μ.add l (n+k) (B,C,i.size),Φ,hle,Zv.le.refl _,?_,?_⟩
        ·refine hg.put hob rfl hle (fun l' h m=>Mu.add_ne _ _ _ _ _ _ h) (by simp) (by simp) (by simp) (by simp) (fun b' _ hne=>setRow_other w B b' _ (by rw[hblk]at hne;exact hne)) ?_ (.inl (by rw[hblk];simp[blk,hlen,Mu.add_same]))
         have hfl:(us.toList.take (n*i.size)).length=n*i.size:=by simp;omega
         have htk:(us.toList.take (n*i.size)++(Builtin.zeroCells z.cells k).toList++us.toList.drop (n*i.size+(Builtin.zeroCells z.cells k).size)).take ((xs++List.replicate k p).length*i.size)=us.toList.take (xs.length*i.size)++(Builtin.zeroCells z.cells k).toList:=by
          rw[hlen,hn,Nat.add_mul,<- hzl]
          rw[List.take_append_of_le_length (by rw[List.length_append,hfl,Array.length_toList];exact Nat.le_refl _),List.take_of_length_le (by rw[List.length_append,hfl,Array.length_toList];exact Nat.le_refl _)]
         refine⟨B,C,_,by rw[hlen];exact Mu.add_same _ _ _ _,fun m hm'=>by rw[Mu.add_ver _ _ _ _ _ (by omega)];exact k2 m (by omega),k3.put' (by rw[List.length_append,List.length_append,hfl,List.length_drop];simp only[Array.length_toList];omega),?_,by rw[hlen];exact hroom,k6,hall,?_,?_,by simpa using k10⟩
         ·rw[List.size_toArray,List.length_append,List.length_append,hfl,List.length_drop]
          simp only[Array.length_toList]
          omega
         ·rw[List.toList_toArray,htk,XC]
          exact k8.append y2
         ·rw[List.toList_toArray,htk]
          exact k9.append y3
        ·have:=R.row (μ:=μ.add l (n+k) (B,C,i.size)) (Φ:=Φ) l (n+k) 0 (n+k) B C i.size (some ⟨B,0,none⟩) (Mu.add_same _ _ _ _) (Nat.zero_le _) (Nat.le_refl _) hroom (fun _=>by simp)
         simpa using this
       ·have hol:(us.toList.take (n*i.size)).length=n*i.size:=by
         have:n*i.size<=us.size:=by rw[k4];exact Nat.mul_le_mul_right _ h4
         simp
         omega
        obtain⟨v',w',r1,r2,r3⟩:=Hy (P:=P) (w:=w) (ty:=ty) ht htn hi hiz hzs hpos ⟨B,0,none⟩ n C (us.toList.take (n*i.size)) hol
         (fun j u' hj=>by
          rw[ZP]
          obtain⟨_,k3,_⟩:=k3
          have:=ZJ k3 0 (n*i.size)
          simp only[List.drop_zero]at this
          exact this j u' hj)
         k hk0 (by omega) (by unfold maxLen;omega) (by omega)
        have hgb : ∀ k,k<w.heap.size->w'.heap[k]? = w.heap[k]? :=fun k hk=>r3.block k hk (by simp)
        obtain⟨g,cp,cur,rfl,g2,g3,g4,g5,g6,g7⟩:=VM hg r2 hgb (xs:=xs++List.replicate k p) (by simp[hn]) (by omega)
        have hle:=Mu.le_add μ l (n+k) (g,cp,i.size) (.inl hnew)
        refine⟨_,_,r1,μ.add l (n+k) (g,cp,i.size),Φ,hle,Zv.le.refl _,?_,?_⟩
        ·refine hg.put hob rfl hle (fun l' h m=>Mu.add_ne _ _ _ _ _ _ h) r3.os r3.tape r3.output r3.size (fun b' hb' _=>hgb b' hb') ?_ (.inr (by simp[blk,hlen,Mu.add_same];exact g2))
         refine⟨g,cp,cur,by rw[hlen];exact Mu.add_same _ _ _ _,fun m hm'=>by rw[Mu.add_ver _ _ _ _ _ (by omega)];exact k2 m (by omega),.of g3,g6,by rw[hlen];exact g4,g5,hall,?_,?_,by simp[Kk hg g2]⟩
         ·rw[hlen,g7,XC]
          have:=k8
          rw[hn]at this
          exact this.append y2
         ·rw[hlen,g7]
          have:=k9
          rw[hn]at this
          exact this.append y3
        ·have:=R.row (μ:=μ.add l (n+k) (g,cp,i.size)) (Φ:=Φ) l (n+k) 0 (n+k) g cp i.size (some ⟨g,0,none⟩) (Mu.add_same _ _ _ _) (Nat.zero_le _) (Nat.le_refl _) g4 (fun _=>by simp)
         simpa using this
    ·exact(Zg hr).elim
   ·exact(Zg hr).elim
  ·exact(Zg hr).elim
 ·exact(Zg hr).elim
theorem VN(bs:ByteArray):(Zz bs.data.toList).length=bs.size:=by unfold Zz;simp
theorem Om(s:List UInt8): ∀ x∈Zz s,x.cells.length=1:=by
 intro x hx
 unfold Zz at hx
 obtain⟨c,_,rfl⟩:=List.mem_map.1 hx
 rfl
theorem R6(s:List UInt8):flat (Zz s)=Zz s:=by
 unfold Zz
 induction s with
 | nil=>rfl
 | cons c s ih=>simp only[flat,List.map_cons,List.flatMap_cons,PV.cells,List.singleton_append]at ih ⊢;rw[ih]
theorem b9k(bs:ByteArray):Xy Φ (Lib.strCells bs) (flat (Zz bs.data.toList)):=by
 rw[R6]
 refine⟨by rw[Lib.strCells_length,VN],fun j v x hv hx=> ?_⟩
 unfold Lib.strCells at hv
 unfold Zz at hx
 rw[List.getElem?_map]at hv hx
 cases hs:bs.data.toList[j]? with
 | none=>rw[hs]at hv;cases hv
 | some c=>
  rw[hs]at hv hx
  cases hv
  cases hx
  exact .int _ _
theorem JG{t tn ty e:TypeId}{i:TypeInfo}(ht:P.underlying t=some (.slice e))(htn:P.underlying tn=some .string)(hi:P.info? e=some i){b:Option Addr}{n cp:Nat}{bs:ByteArray}(h:n<=cp)(h0:bs.size=0):
  (Builtin.append_ #[t,tn] ty #[.slice b n cp,.string bs]).run P w = .ok (.slice b n cp) w:=by
 have hf:=Lib.run_firstCells_string (P:=P) w i.size bs
 rw[h0]at hf
 have hc:Lib.strCells bs=[]:=List.eq_nil_of_length_eq_zero (by rw[Lib.strCells_length,h0])
 rw[hc]at hf
 cases b with
 | none=>simp[Builtin.append_,run_underlying ht,run_underlying htn,sizeOf,typeInfo,hi,Builtin.lenOf,h0,h,hf]
 | some q=>simp[Builtin.append_,run_underlying ht,run_underlying htn,sizeOf,typeInfo,hi,Builtin.lenOf,h0,h,hf,storeCells]
theorem JP{t tn ty e:TypeId}{i:TypeInfo}(ht:P.underlying t=some (.slice e))(htn:P.underlying tn=some .string)(hi:P.info? e=some i)(hs1:i.size=1)
  (g sLen sCap:Nat) (cur:Array Value) {rn rc:Nat} (hg:XT w g cur e rn rc) (bs:ByteArray) (hroom:sLen+bs.size<=sCap) (hfit:sLen*i.size+(Lib.strCells bs).length<=cur.size) :
  (Builtin.append_ #[t,tn] ty #[.slice (some ⟨g,0,none⟩) sLen sCap,.string bs]).run P w =
   .ok (.slice (some ⟨g,0,none⟩) (sLen+bs.size) sCap) (w.setRow g (cur.toList.take (sLen*i.size)++Lib.strCells bs++cur.toList.drop (sLen*i.size+(Lib.strCells bs).length)).toArray):=by
 have hf:=Lib.run_firstCells_string (P:=P) w 1 bs
 rw[hs1,Nat.mul_one]at hfit
 have hst:=hg.stores (P:=P) (o:=sLen) (Lib.strCells bs) hfit (Lib.strCells_oneCell bs)
 rw[Lib.strCells_length]at hst
 rw[hs1,Nat.mul_one,Lib.strCells_length]
 simp[Builtin.append_,run_underlying ht,run_underlying htn,sizeOf,typeInfo,hi,hs1,Builtin.lenOf,hroom,hf,Addr.add_lit,hst]
theorem JY{t tn ty e:TypeId}{i:TypeInfo}{z:Value}(ht:P.underlying t=some (.slice e))(htn:P.underlying tn=some .string)(hi:P.info? e=some i)(hiz:i.zero=some z)(hzs:z.cells.size=i.size)(hs1:i.size=1)
  (b:Addr) (n cap:Nat) (olds:List Value) (hlo:olds.length=n*i.size) (Vs : ∀ j u,olds[j]? = some u->w.cell? (b.add j)=some u)
  (bs:ByteArray) (hg:cap<n+bs.size) (h63:n+bs.size<=maxLen) (hbytes:(n+bs.size)*i.bytes<=140737488355328) :
  ∃ v' w',(Builtin.append_ #[t,tn] ty #[.slice (some b) n cap,.string bs]).run P w = .ok v' w'∧w'.ownsRow w.heap.size e i.size v' (n+bs.size) (olds++Lib.strCells bs)∧w.grownBy w' none:=by
 have hsmall:n+bs.size<=9223372036854775807:=by simp only[maxLen]at h63;omega
 have hlen:(olds++Lib.strCells bs).length=(n+bs.size)*i.size:=by rw[List.length_append,hlo,Lib.strCells_length,hs1];omega
 have hge:=grownCap_ge w (n+bs.size) cap e
 have hcm:grownCap w (n+bs.size) cap e<=maxLen:=grownCap_le_maxLen w (n+bs.size) cap e h63
 have hr:=Lib.run_append_grow_string (P:=P) w t tn ty e i z ht htn hi hiz b n cap olds hlo Vs bs hg (by omega) (growslice_fits hg hbytes)
 refine⟨_,_,hr,⟨hlen,.inr ⟨w.heap.size,_,_,rfl,Nat.le_refl _,heap_alloc_new w.drew _,hge,hcm,?_,?_⟩⟩,⟨rfl,rfl,rfl,by simp,fun k hk _=>heap_alloc_old w.drew _ hk⟩⟩
 ·simp only[Array.size_append,List.size_toArray,size_zeroCells,hzs,hlo,Lib.strCells_length,hs1,Nat.mul_one]
  omega
 ·simp only[Array.toList_append,List.append_assoc]
  rw[<- List.append_assoc,<- hlen]
  exact List.take_left
theorem c1h{t tn ty e:TypeId}{i:TypeInfo}{z:Value}{p:PV}{u v:Value}{X Y:IOp}(ht:P.underlying t=some (.slice e))(htn:P.underlying tn=some .string)(hi:P.info? e=some i)(hiz:i.zero=some z)(hz:Vn z=some p)(hs:p.cells.length=i.size)(hs1:i.size=1)
  (hg:Good c μ Φ σ w) (hu:R μ Φ u (ev env X)) (hv:R μ Φ v (ev env Y)) (hr:(YF L env (.apps e i.size i.bytes X Y)).run σ=some (x,σ')):VS P (Builtin.append_ #[t,tn] ty #[u,v]) w (ZN c μ Φ σ' x):=by
 have hzs:z.cells.size=i.size:=by
  have:=(VQ (VB (Φ:=Φ) hz) (Xe hz)).1.1
  simp at this
  omega
 simp only[YF]at hr
 split at hr
 ·rename_i s hY
  rw[hY]at hv
  replace hv:=ZR hv
  obtain⟨bs,rfl,rfl⟩ : ∃ bs:ByteArray,v = .string bs∧s=bs.data.toList:=by
   generalize hq:PV.str s=q at hv
   cases hv <;> cases hq
   exact⟨_,rfl,rfl⟩
  split at hr
  ·rename_i l n0 n hX
   rw[hX]at hu
   simp only[Q0]at hr
   have hqr:=YP hr
   clear hr
   obtain⟨ob,hob,hr⟩:=hqr
   split at hr
   ·rename_i ty' sz' xs
    split at hr
    ·rename_i hc
     obtain⟨rfl,rfl⟩:=hc
     have hqr:=ZM hr
     clear hr
     obtain⟨hq,hr⟩:=hqr
     rw[VN]at hq hr
     simp only[Bool.and_eq_true,beq_iff_eq,decide_eq_true_eq]at hq
     obtain⟨⟨⟨hn,rfl⟩,hb1⟩,hb2⟩:=hq
     have hqr:=Un hr
     clear hr
     obtain⟨_,hr⟩:=hqr
     obtain⟨rfl,rfl⟩:=Zp hr
     cases hu with
     | row _ _ _ _ B C S q hm h2 h3 h4 ha=>
      have hq:=ha (.inr rfl)
      subst hq
      obtain⟨B',C',us,k1,k2,k3,k4,k5,k6,k7,k8,k9,k10⟩:=hg.obj l _ hob
      rw[hn,hm]at k1
      cases k1
      simp only[Nat.sub_zero,Nat.zero_mul]
      obtain⟨k,hk⟩ : ∃ k,k=bs.size:=⟨_,rfl⟩
      rw[<- hk]at hb1 hb2 ⊢
      by_cases h0:k=0
      ·have hb0:Zz bs.data.toList=[]:=List.eq_nil_of_length_eq_zero (by rw[VN,<- hk,h0])
       rw[h0]
       have hsame:σ.set l (.obj (.row false ty' i.size (xs++Zz bs.data.toList)))=σ:=by rw[hb0,List.append_nil];exact QZ hob
       refine⟨_,w,JG ht htn hi (by omega) (by omega),?_⟩
       rw[hsame]
       refine Zh hg ?_
       have:=R.row (μ:=μ) (Φ:=Φ) l n 0 n B C i.size (some ⟨B,0,none⟩) hm (Nat.zero_le _) (Nat.le_refl _) h4 (fun _=>by simp)
       simpa using this
      ·have hk0:0<k:=by omega
       have y2:Xy Φ (Lib.strCells bs) (flat (Zz bs.data.toList)):=b9k bs
       have y3:ZW (Lib.strCells bs):=Lib.strCells_oneCell bs
       have hzl:(Lib.strCells bs).length=k*i.size:=by rw[Lib.strCells_length,hs1,Nat.mul_one,hk]
       have hall : ∀ x∈xs++Zz bs.data.toList,x.cells.length=i.size:=fun x hx=>by
        rcases List.mem_append.1 hx with hx|hx
        ·exact k7 x hx
        ·rw[Om _ x hx,hs1]
       have hlen:(xs++Zz bs.data.toList).length=n+k:=by rw[List.length_append,VN,hn,hk]
       have hblk:blk μ l (.row false ty' i.size xs)=B:=by simp[blk,hn,hm]
       have hnew:μ l (n+k)=none:=k2 _ (by omega)
       have hb48:k*i.bytes<=281474976710656:=by
        have:k*i.bytes<=(n+k)*i.bytes:=Nat.mul_le_mul_right _ (by omega)
        omega
       by_cases hroom:n+k<=C
       ·have hfit:n*i.size+(Lib.strCells bs).length<=us.size:=by
         rw[hzl,k4,<- Nat.add_mul]
         exact Nat.mul_le_mul_right _ hroom
        have hrun:=JP (P:=P) (w:=w) (ty:=ty) ht htn hi hs1 B n C us k3 bs (by omega) hfit
        rw[<- hk]at hrun
        have hle:=Mu.le_add μ l (n+k) (B,C,i.size) (.inl hnew)
        refine⟨_,_,hrun,μ.add l (n+k) (B,C,i.size),Φ,hle,Zv.le.refl _,?_,?_⟩
        ·refine hg.put hob rfl hle (fun l' h m=>Mu.add_ne _ _ _ _ _ _ h) (by simp) (by simp) (by simp) (by simp) (fun b' _ hne=>setRow_other w B b' _ (by rw[hblk]at hne;exact hne)) ?_ (.inl (by rw[hblk];simp[blk,hlen,Mu.add_same]))
         have hfl:(us.toList.take (n*i.size)).length=n*i.size:=by simp;omega
         have htk:(us.toList.take (n*i.size)++Lib.strCells bs++us.toList.drop (n*i.size+(Lib.strCells bs).length)).take ((xs++Zz bs.data.toList).length*i.size)=us.toList.take (xs.length*i.size)++Lib.strCells bs:=by
          rw[hlen,hn,Nat.add_mul,<- hzl]
          rw[List.take_append_of_le_length (by rw[List.length_append,hfl,Array.length_toList];exact Nat.le_refl _),List.take_of_length_le (by rw[List.length_append,hfl,Array.length_toList];exact Nat.le_refl _)]
         refine⟨B,C,_,by rw[hlen];exact Mu.add_same _ _ _ _,fun m hm'=>by rw[Mu.add_ver _ _ _ _ _ (by omega)];exact k2 m (by omega),k3.put' (by rw[List.length_append,List.length_append,hfl,List.length_drop];simp only[Array.length_toList];omega),?_,by rw[hlen];exact hroom,k6,hall,?_,?_,by simpa using k10⟩
         ·rw[List.size_toArray,List.length_append,List.length_append,hfl,List.length_drop]
          simp only[Array.length_toList]
          omega
         ·rw[List.toList_toArray,htk,XC]
          exact k8.append y2
         ·rw[List.toList_toArray,htk]
          exact k9.append y3
        ·have:=R.row (μ:=μ.add l (n+k) (B,C,i.size)) (Φ:=Φ) l (n+k) 0 (n+k) B C i.size (some ⟨B,0,none⟩) (Mu.add_same _ _ _ _) (Nat.zero_le _) (Nat.le_refl _) hroom (fun _=>by simp)
         simpa using this
       ·have hol:(us.toList.take (n*i.size)).length=n*i.size:=by
         have:n*i.size<=us.size:=by rw[k4];exact Nat.mul_le_mul_right _ h4
         simp
         omega
        obtain⟨v',w',r1,r2,r3⟩:=JY (P:=P) (w:=w) (ty:=ty) ht htn hi hiz hzs hs1 ⟨B,0,none⟩ n C (us.toList.take (n*i.size)) hol
         (fun j u' hj=>by
          rw[ZP]
          obtain⟨_,k3,_⟩:=k3
          have:=ZJ k3 0 (n*i.size)
          simp only[List.drop_zero]at this
          exact this j u' hj)
         bs (by omega) (by unfold maxLen;omega) (by rw[<- hk];omega)
        rw[<- hk]at r2
        have hgb : ∀ k,k<w.heap.size->w'.heap[k]? = w.heap[k]? :=fun k hk=>r3.block k hk (by simp)
        obtain⟨g,cp,cur,rfl,g2,g3,g4,g5,g6,g7⟩:=VM hg r2 hgb (xs:=xs++Zz bs.data.toList) (by rw[List.length_append,VN,hn,hk]) (by omega)
        have hle:=Mu.le_add μ l (n+k) (g,cp,i.size) (.inl hnew)
        refine⟨_,_,r1,μ.add l (n+k) (g,cp,i.size),Φ,hle,Zv.le.refl _,?_,?_⟩
        ·refine hg.put hob rfl hle (fun l' h m=>Mu.add_ne _ _ _ _ _ _ h) r3.os r3.tape r3.output r3.size (fun b' hb' _=>hgb b' hb') ?_ (.inr (by simp[blk,hlen,Mu.add_same];exact g2))
         refine⟨g,cp,cur,by rw[hlen];exact Mu.add_same _ _ _ _,fun m hm'=>by rw[Mu.add_ver _ _ _ _ _ (by omega)];exact k2 m (by omega),.of g3,g6,by rw[hlen];exact g4,g5,hall,?_,?_,by simp[Kk hg g2]⟩
         ·rw[hlen,g7,XC]
          have:=k8
          rw[hn]at this
          exact this.append y2
         ·rw[hlen,g7]
          have:=k9
          rw[hn]at this
          exact this.append y3
        ·have:=R.row (μ:=μ.add l (n+k) (g,cp,i.size)) (Φ:=Φ) l (n+k) 0 (n+k) g cp i.size (some ⟨g,0,none⟩) (Mu.add_same _ _ _ _) (Nat.zero_le _) (Nat.le_refl _) g4 (fun _=>by simp)
         simpa using this
    ·exact(Zg hr).elim
   ·exact(Zg hr).elim
  ·exact(Zg hr).elim
 ·exact(Zg hr).elim
end
end Go.Pl
namespace Go.Pl
open Go.RowKit
section
variable {P:Program} {c:Ctx} {μ:Mu} {Φ:Zv} {σ σ':Zu} {w:World} {a:Act} {env:List AV} {L:Nat} {x:AV}
theorem Good.below{Φ':Zv}{w':World}(h:Good c μ Φ σ w)(hb:Below w.heap.size w w')(hle:Φ.le Φ')(hok:Ye Φ' w')(hdom : ∀ b cs,Φ' b=some cs->Φ b=some cs∨w.heap.size<=b):Good c μ Φ' σ w':=by
 refine⟨hok,?_,h.apart,h.fresh,h.own,hb.os.trans h.os,hb.tape.trans h.tape,hb.output.trans h.output,Nat.le_trans h.size hb.size,?_,h.Φle.trans hle,h.μle,?_,h.laid⟩
 ·intro l o ho
  have hox:=h.obj l o ho
  refine(hox.keep (Mu.le.refl _) (fun _=>rfl) hle ?_ (hb.block _ hox.blk_lt)).1
  cases hp:Φ' (blk μ l o)with
  | none=>
   cases hq:Φ (blk μ l o)with
   | none=>rfl
   | some cs=>rw[hle _ _ hq]at hp;cases hp
  | some cs=>
   rcases hdom _ _ hp with hd|hd
   ·exact hd.symm
   ·have:=hox.blk_lt
    omega
 ·intro b h1 h2
  rw[hb.block b (Nat.lt_of_lt_of_le h1 h.size)]
  exact h.frame b h1 h2
 ·intro b cs hcs
  rcases hdom b cs hcs with hd|hd
  ·exact h.dom b cs hd
  ·exact .inr (.inl (Nat.le_trans h.size hd))
theorem D9(s:List UInt8):flat (Zz s)=Zz s:=by
 unfold Zz
 induction s with
 | nil=>rfl
 | cons c s ih=>simp only[flat,List.map_cons,List.flatMap_cons,PV.cells,List.singleton_append]at ih ⊢;rw[ih]
theorem RG(w:World)(a:Addr)(b:Nat)(h:b≠a.block):(w.freeze a 1).heap[b]? = w.heap[b]? :=by
 unfold World.freeze
 rw[if_neg (by decide)]
 show(w.heap.modify a.block _)[b]? = _
 rw[Array.getElem?_modify,if_neg (Ne.symm h)]
theorem MF{w:World}{B:Nat}{cs:Array Value}{ty:Nat}{z:Nat×Nat}(h:w.heap[B]? = some (.cells cs ty z))(hz:z=(0,0)∨cs.size<=z.1): ∃ z':Nat×Nat,(w.freeze ⟨B,cs.size,none⟩ 1).heap[B]? = some (.cells cs ty z')∧cs.size<=z'.1:=by
 obtain⟨lo,hi⟩:=z
 unfold World.freeze
 rw[if_neg (by decide)]
 refine⟨if lo==hi then(cs.size,cs.size+1)else(min lo cs.size,max hi (cs.size+1)),?_,?_⟩
 ·show(w.heap.modify B _)[B]? = _
  rw[Array.getElem?_modify,if_pos rfl,h]
  rfl
 ·split
  ·exact Nat.le_refl _
  ·rename_i hne
   rcases hz with e|hz
   ·cases e;simp at hne
   ·have hz:cs.size<=lo:=hz
    show cs.size<=min lo cs.size
    omega
theorem a7n{t e:TypeId}{v:Value}{X:IOp}(hd:P.underlying t=some (.slice e))(he:P.underlying e=some (.int .u8))(hg:Good c μ Φ σ w)(hv:R μ Φ v (ev env X))
  (hr:(YF L env (.sslice X)).run σ=some (x,σ')):VS P (convert t t v) w (ZN c μ Φ σ' x):=by
 simp only[YF]at hr
 split at hr
 ·rename_i l n hi hX
  rw[hX]at hv
  have hqr:=YP hr
  clear hr
  obtain⟨ob,hob,hr⟩:=hqr
  split at hr
  ·rename_i ty sz xs
   have hqr:=ZM hr
   clear hr
   obtain⟨hq,hr⟩:=hqr
   simp only[Bool.and_eq_true,beq_iff_eq]at hq
   obtain⟨hn,rfl⟩:=hq
   obtain⟨rfl,rfl⟩:=Zp hr
   cases hv with
   | row _ _ _ _ B C S q hm h2 h3 h4 ha=>
    have hq:=ha (.inr rfl)
    subst hq
    obtain⟨B',C',us,k1,k2,k3,k4,k5,k6,k7,k8,k9,k10⟩:=hg.obj l _ hob
    rw[hn,hm]at k1
    cases k1
    obtain⟨z,k3,hz⟩:=k3
    obtain⟨z',m1,m2⟩:=MF k3 (hz.imp id fun h=>h.2)
    have hsh:w.shape? B=some (5,us.size):=by simp[World.shape?,k3]
    simp only[Nat.sub_zero,Nat.zero_mul]
    have hrun:(convert t t (.slice (some ⟨B,0,none⟩) hi C)).run P w = .ok (.slice (some ⟨B,0,none⟩) hi C) (w.freeze ⟨B,us.size,none⟩ 1):=by
     simp[convert,run_underlying hd,run_underlying he,markStringish,hsh]
    have hblk:blk μ l (.row false 5 sz xs)=B:=by simp[blk,hn,hm]
    have hsame:=QZ hob
    refine⟨_,_,hrun,μ,Φ,.refl _,.refl _,?_,?_⟩
    ·have hput:=hg.put (l:=l) (o:=.row false 5 sz xs) (o':=.row false 5 sz xs) (w':=w.freeze ⟨B,us.size,none⟩ 1) hob rfl (.refl _) (fun _ _ _=>rfl) rfl rfl rfl (by simp[World.freeze]) (fun b _ hne=>RG w _ b (by rw[hblk]at hne;exact hne)) ?_ (.inl rfl)
     ·rw[hsame]at hput;exact hput
     ·exact⟨B,C,us,by rw[hn];exact hm,k2,⟨z',m1,.inr ⟨rfl,m2⟩⟩,k4,k5,k6,k7,k8,k9,k10⟩
    ·have:=R.row (μ:=μ) (Φ:=Φ) l n 0 hi B C _ (some ⟨B,0,none⟩) hm (Nat.zero_le _) h3 h4 (fun _=>by simp)
     simpa using this
  ·exact(Zg hr).elim
 ·exact(Zg hr).elim
theorem a4o{src dst e:TypeId}{v:Value}{X:IOp}(hs:(P.underlying src).isSome=true)(hd:P.underlying dst=some (.slice e))(he:P.underlying e=some (.int .u8))(hg:Good c μ Φ σ w)(hv:R μ Φ v (ev env X))
  (hr:(YF L env (.sbytes X)).run σ=some (x,σ')):VS P (convert src dst v) w (ZN c μ Φ σ' x):=by
 simp only[YF]at hr
 split at hr
 ·rename_i s hX
  rw[hX]at hv
  obtain⟨rfl,rfl⟩:=Zp hr
  replace hv:=ZR hv
  obtain⟨u,hu⟩:=Option.isSome_iff_exists.1 hs
  generalize hq:PV.str s=q at hv
  cases hv with
  | str b=>
   cases hq
   have hrun:=Lib.run_convert_string_bytes w src dst e b hu hd he
   have hnone:Φ w.heap.size=none:=by
    cases hx:Φ w.heap.size with
    | none=>rfl
    | some cs=>
     obtain⟨T,fz,hh⟩:=hg.phi _ _ hx
     have:=(Array.getElem?_eq_some_iff.1 hh).1
     omega
   have hle:Φ.le (fun k=>if k=w.heap.size then some (Lib.bytesCells w e b)else Φ k):=by
    intro k cs hk
    have:k≠w.heap.size:=by rintro rfl;rw[hnone]at hk;cases hk
    simp[this,hk]
   have hbl:Below w.heap.size w (Lib.bytesWorld w e b):=⟨by simp[Lib.bytesWorld,World.freeze,World.alloc,World.drew,-World.alloc_eq,-World.drew_eq],by simp[Lib.bytesWorld,World.freeze,World.alloc,World.drew,-World.alloc_eq,-World.drew_eq],by simp[Lib.bytesWorld,World.freeze,World.alloc,World.drew,-World.alloc_eq,-World.drew_eq],by rw[Lib.bytesWorld_size];omega,fun k hk=>Lib.bytesWorld_at_old w e b k hk⟩
   refine⟨_,_,hrun,μ,_,.refl _,hle,hg.below hbl hle ?_ ?_,.pv _ _ ?_⟩
   ·intro k cs hk
    by_cases h:k=w.heap.size
    ·subst h
     simp at hk
     subst hk
     exact⟨_,_,Lib.bytesWorld_at_new w e b⟩
    ·simp[h]at hk
     obtain⟨T,fz,hh⟩:=hg.phi k cs hk
     exact⟨T,fz,by rw[Lib.bytesWorld_at_old w e b k (Array.getElem?_eq_some_iff.1 hh).1];exact hh⟩
   ·intro k cs hk
    by_cases h:k=w.heap.size
    ·exact .inr (by omega)
    ·simp[h]at hk
     exact .inl hk
   ·have hlen:(Zz b.data.toList).length=b.size:=by simp[Zz]
    rw[<- hlen]
    refine .sl w.heap.size 0 (Lib.bytesCells w e b) _ 1 false _ (fun j=>.int .u8 ((b.data.toList.getD j 0).toNat:Int)) (by simp) (by rw[hlen];exact grownCap_ge w _ _ _) (fun h=>by cases h) ?_ ?_ ?_
    ·intro y hy
     simp only[Zz,List.mem_map]at hy
     obtain⟨c,_,rfl⟩:=hy
     rfl
    ·intro j p hp
     rw[D9]at hp
     have hj:j<b.size:=by have:=(List.getElem?_eq_some_iff.1 hp).1;rw[hlen]at this;exact this
     refine⟨?_,rfl⟩
     rw[Nat.zero_add,Lib.bytesCells,Array.getElem?_append_left (by simpa using hj)]
     have hj':j<b.data.size:=hj
     simp[List.getD,hj']
     exact⟨_,Array.getElem?_eq_getElem hj',by rw[Array.getElem?_eq_getElem hj'];rfl⟩
    ·intro j p hp
     rw[D9]at hp
     simp only[Zz,List.getElem?_map,Option.map_eq_some_iff]at hp
     obtain⟨c,hc,rfl⟩:=hp
     have:b.data.toList.getD j 0=c:=by rw[List.getD,hc];rfl
     rw[this]
     exact .int _ _
  | _=>cases hq
 ·exact(Zg hr).elim
theorem MS: ∀ {us:List Value} {xs:List PV},xs.all a7m=true->Xy Φ us (flat xs)->us=(Va xs).map fun b=>.int .u8 (b.toNat:Int):=by
 intro us xs
 induction xs generalizing us with
 | nil=>intro _ h;have:=h.1;simp[flat]at this;subst this;rfl
 | cons y xs ih=>
  intro ha h
  simp only[List.all_cons,Bool.and_eq_true]at ha
  obtain⟨h1,h2⟩:=ha
  cases y with
  | int k n=>
   cases k <;> simp[a7m]at h1
   have hf:flat (.int .u8 n::xs) = .int .u8 n::flat xs:=rfl
   rw[hf]at h
   cases us with
   | nil=>have:=h.1;simp at this
   | cons u us=>
    have h0:=h.2 0 u _ rfl rfl
    have ht:Xy Φ us (flat xs):=⟨by have:=h.1;simpa using this,fun j v x hv hx=>h.2 (j+1) v x hv hx⟩
    rw[ih h2 ht]
    cases h0
    have e:((UInt8.ofNat n.toNat).toNat:Int)=n:=by rw[UInt8.toNat_ofNat'];omega
    show Value.int .u8 n::List.map (fun b=>Value.int IntKind.u8 ↑b.toNat) (Va xs)=Value.int .u8 ((UInt8.ofNat n.toNat).toNat:Int)::List.map (fun b=>Value.int IntKind.u8 ↑b.toNat) (Va xs)
    congr 1
    exact congrArg (Value.int .u8) e.symm
  | _=>simp[a7m]at h1
theorem c5g{src dst e:TypeId}{v:Value}{X:IOp}(hs:P.underlying src=some (.slice e))(hd:P.underlying dst=some .string)(he:P.underlying e=some (.int .u8))(hg:Good c μ Φ σ w)(hv:R μ Φ v (ev env X))
  (hr:(YF L env (.bstr X)).run σ=some (x,σ')):VS P (convert src dst v) w (ZN c μ Φ σ' x):=by
 have back : ∀ (l:List UInt8) (b off cap n:Nat),n=l.length->Y0 w b off (l.map fun b=>.int .u8 (b.toNat:Int))->VS P (convert src dst (.slice (some ⟨b,off,none⟩) n cap)) w (ZN c μ Φ σ (.pv (.str l))):=by
  rintro l b off cap _ rfl hc
  refine⟨_,w,run_convert_bytes_back w src dst e ⟨b,off,none⟩ cap l hs he hd fun j hj=> ?_,Zh hg (.pv _ _ (RP.str' rfl))⟩
  have:=hc j (.int .u8 (l[j].toNat:Int)) (by simp[hj])
  rw[<- ZP]at this
  exact this
 have nil : ∀ (p:Option Addr) (cap:Nat),VS P (convert src dst (.slice p 0 cap)) w (ZN c μ Φ σ (.pv (.str []))):=by
  intro p cap
  cases p with
  | none=>exact⟨_,w,by rw[run_convert_bytes_string w src dst e none 0 cap hs he hd];rfl,Zh hg (.pv _ _ (RP.str' rfl))⟩
  | some q=>exact⟨_,w,run_convert_bytes_back w src dst e q cap [] hs he hd fun j hj=>by simp at hj,Zh hg (.pv _ _ (RP.str' rfl))⟩
 simp only[YF]at hr
 split at hr
 ·rename_i sz t xs hX
  rw[hX]at hv
  obtain⟨hq,hr⟩:=ZM hr
  obtain⟨rfl,rfl⟩:=Zp hr
  replace hv:=ZR hv
  simp only[Bool.and_eq_true]at hq
  by_cases h0:xs=[]
  ·subst h0
   generalize hz:PV.sl sz t []=z at hv
   cases hv <;> cases hz
   ·exact nil _ _
   ·exact nil _ _
  ·obtain⟨b,off,cap,cs,us,rfl,_,_,_,h5,h6,h7,_⟩:=hv.sl_cells hg.phi h0
   rw[MS hq.1 h7]at h6
   exact back _ _ _ _ _ (by simp[Va]) h6
 ·rename_i l n lo hi hX
  rw[hX]at hv
  obtain⟨ob,hob,hr⟩:=YP hr
  split at hr
  ·rename_i fz ty sz xs
   obtain⟨hq,hr⟩:=ZM hr
   obtain⟨rfl,rfl⟩:=Zp hr
   simp only[Bool.and_eq_true,beq_iff_eq]at hq
   obtain⟨⟨hn,hu8⟩,rfl⟩:=hq
   generalize hz:AV.row l n lo hi=z at hv
   cases hv with
   | row _ _ _ _ B C S q' hm k2 k3 k4 ha=>
    cases hz
    obtain⟨rfl,us,m1,m2,m3,m4,m5,m6,m7⟩:=UK hg hob hn hm
    by_cases hlh:lo<hi
    ·have hq:=ha (.inl hlh)
     subst hq
     have hlen:hi - lo=(Va ((xs.take hi).drop lo)).length:=by simp[Va];omega
     refine back _ _ _ _ _ hlen ?_
     have hsub:((xs.take hi).drop lo).all a7m=true:=by
      rw[List.all_eq_true]at hu8 ⊢
      intro y hy
      exact hu8 y (List.mem_of_mem_take (List.mem_of_mem_drop hy))
     have hR:=(m6.drop (lo*1)).take ((hi - lo)*1)
     rw[UH m5,Ki (fun x hx=>m5 x (List.mem_of_mem_drop hx))]at hR
     have e2:(xs.take hi).drop lo=(xs.drop lo).take (hi - lo):=by rw[List.drop_take]
     rw[<- e2]at hR
     rw[<- MS hsub hR]
     obtain⟨_,m1,_⟩:=m1
     have:=ZJ m1 (lo*1) ((hi - lo)*1)
     have e:((us.toList.take (xs.length*1)).drop (lo*1)).take ((hi - lo)*1)=(us.toList.drop (lo*1)).take ((hi - lo)*1):=by
      rw[List.drop_take,List.take_take,Nat.min_eq_left]
      omega
     rw[e]
     exact this
    ·have:hi=lo:=by omega
     subst this
     rw[Nat.sub_self]
     have e3:Va ((xs.take hi).drop hi)=[]:=by simp[Va]
     rw[e3]
     exact nil _ _
   | _=>cases hz
  ·exact(Zg hr).elim
 ·exact(Zg hr).elim
theorem a7u{t e:TypeId}{n:Nat}{i:TypeInfo}{u v:Value}{X Y:IOp}(ht:P.underlying t=some (.array n e))(hi:P.info? e=some i)(hg:Good c μ Φ σ w)(hu:R μ Φ u (ev env X))(hv:R μ Φ v (ev env Y))
  (hr:(YF L env (.iaddrA n i.size X Y)).run σ=some (x,σ')):VS P (Instr.indexAt t u v) w (ZN c μ Φ σ' x):=by
 simp only[YF]at hr
 split at hr
 ·rename_i l o k j hX hY
  rw[hX]at hu
  rw[hY]at hv
  obtain⟨hq,hr⟩:=ZM hr
  obtain⟨rfl,rfl⟩:=Zp hr
  simp only[Bool.and_eq_true,decide_eq_true_eq]at hq
  obtain⟨h0,h1⟩:=hq
  replace hv:=ZR hv
  cases hv
  have key : ∀ q,(Instr.indexAt t (.pointer (some q)) (.int k j)).run P w = .ok (.pointer (some (q.add (j.toNat*i.size)))) w:=by
   intro q
   have h2:j<(n:Int):=by omega
   simp[Instr.indexAt,run_underlying ht,Instr.sureAddr,asIntOf,ZI hi,h0,h2]
  cases hu with
  | ptr _ _ B C S hm=>exact⟨_,w,key _,Zh hg (by rw[ZP];exact .ptr _ _ B C S hm)⟩
 ·exact(Zg hr).elim
theorem a6k{t e:TypeId}{n:Nat}{i:TypeInfo}{u v:Value}{X Y:IOp}(ht:P.underlying t=some (.array n e))(hi:P.info? e=some i)(hu':(P.underlying e).isSome=true)(hag:Yu P e=decide (2<=i.size))(hg:Good c μ Φ σ w)(hu:R μ Φ u (ev env X))(hv:R μ Φ v (ev env Y))
  (hr:(YF L env (.indexA n i.size X Y)).run σ=some (x,σ')):VS P (Instr.index t u v) w (ZN c μ Φ σ' x):=by
 simp only[YF]at hr
 split at hr
 ·rename_i ps k j hX hY
  rw[hX]at hu
  rw[hY]at hv
  split at hr
  ·rename_i h2
   rw[h2]at hag
   obtain⟨hq,hr⟩:=ZM hr
   obtain⟨hl,rfl⟩:=WZ hr
   simp only[Bool.and_eq_true,decide_eq_true_eq]at hq
   obtain⟨h0,hlt⟩:=hq
   replace hu:=ZR hu
   replace hv:=ZR hv
   cases hv
   have hc:=VQ hu rfl
   cases hu with
   | agg cs _ hn ho h=>
    rw[<- hag]at hl
    obtain⟨v,h1,h2⟩:=RJ (P:=P) (w:=w) (μ:=μ) (cs:=cs) hu' hi hc.1.toRL hc.2 hl
    refine⟨v,w,?_,Zh hg h2⟩
    have hz:(Go.sizeOf e).run P w = .ok i.size w:=by simp[Go.sizeOf,typeInfo,hi]
    simp only[Instr.index,asIntOf,Sem.run_bind,Sem.run_pure,Result.andThen_ok,run_underlying ht]
    rw[if_pos ⟨h0,by omega⟩]
    simp only[Sem.run_bind,hz,Result.andThen_ok]
    exact h1
  rename_i h22
  rw[h22]at hag
  obtain⟨hq,hr⟩:=ZM hr
  obtain⟨rfl,rfl⟩:=Zp hr
  simp only[Bool.and_eq_true,decide_eq_true_eq,beq_iff_eq]at hq
  obtain⟨⟨⟨h0,h1⟩,hlt⟩,h2⟩:=hq
  replace hu:=ZR hu
  replace hv:=ZR hv
  cases hv
  cases hu with
  | agg cs _ hsz ho h=>
   have hj:j.toNat<cs.size:=by omega
   refine⟨cs[j.toNat],w,?_,Zh hg (.pv _ _ ?_)⟩
   ·have hz:(Go.sizeOf e).run P w = .ok i.size w:=by simp[Go.sizeOf,typeInfo,hi]
    simp only[Instr.index,asIntOf,Sem.run_bind,Sem.run_pure,Result.andThen_ok,run_underlying ht]
    rw[if_pos ⟨h0,by omega⟩]
    simp only[Sem.run_bind,hz,Result.andThen_ok,h2,Nat.mul_one]
    exact V9 hu' hag (Array.getElem?_eq_getElem hj)
   ·exact h j.toNat _ _ (Array.getElem?_eq_getElem hj) (by simp[List.getD,h1])
 ·exact(Zg hr).elim
end
end Go.Pl
namespace Go.Pl
open Go.RowKit
def Fu(xs:Array Operand):Option (List IOp):=Xg ZV xs.toList
def JZ(x:Option Operand):Option (Option IOp):=
 match x with
 | none=>some none
 | some x=>(ZV x).map some
def u8T(P:Program)(e:TypeId):Bool:=match P.underlying e with|some (.int .u8)=>true|_=>false
theorem OW{P:Program}{e:TypeId}(h:u8T P e=true):P.underlying e=some (.int .u8):=by
 unfold u8T at h
 split at h
 ·assumption
 ·cases h
def c2p(P:Program)(k:TypeId):Option Bool:=
 match P.underlying k with
 | some .string=>some true
 | some (.int _)=>some false
 | _=>none
def places(P:Program)(fs:Array Field):Option (List (Nat×Nat)):=Xg (fun(f:Field)=>(P.info? f.type).map fun i=>(f.offset,i.size)) fs.toList
def c8c(P:Program)(t:TypeId):Sh:=
 match P.underlying t with
 | some (.int k)=>.int k
 | some .string=>.str
 | some .bool=>.bool
 | some (.slice e)=>match P.info? e with|some i=>.sl i.size|none=>.any
 | _=>.any
def c7k(P:Program)(t:TypeId):List Sh:=
 match Yu P t with
 | true=>match P.cellTypes P.depth t with|some ts=>ts.map (c8c P)|none=>[]
 | false=>[c8c P t]
def J5(P:Program)(c:Call):Option POp:=
 match c.callee with
 | .value f=>(ZV f).bind fun f=>(Fu c.args).map fun xs=>.call f xs
 | .builtin .len=>
  match c.args.toList,c.argTypes.toList with
  | [x],[t]=>(ZV x).bind fun x=>(K3 P t).map fun k=>.len k x
  | _,_=>none
 | .builtin .max=>
  match c.args.toList with
  | [x,y]=>(ZV x).bind fun x=>(ZV y).map fun y=>.mm true x y
  | _=>none
 | .builtin .min=>
  match c.args.toList with
  | [x,y]=>(ZV x).bind fun x=>(ZV y).map fun y=>.mm false x y
  | _=>none
 | .builtin .append=>
  match c.args.toList,c.argTypes.toList with
  | [x,y],[t,t']=>
   if t=t' then
    match P.underlying t with
    | some (.slice e)=>(P.info? e).bind fun i=>i.zero.bind fun z=>(Vn z).bind fun p=>(ZV x).bind fun x=>(ZV y).bind fun y=>
     if p.cells.length=i.size∧0<i.size then some (.append e i.size i.bytes x y)else none
    | _=>none
   else match P.underlying t,P.underlying t' with
    | some (.slice e),some (.int .i64)=>(P.info? e).bind fun i=>i.zero.bind fun z=>(Vn z).bind fun p=>(ZV x).bind fun x=>(ZV y).bind fun y=>
     if p.cells.length=i.size∧0<i.size then some (.appz e i.size i.bytes p x y)else none
    | some (.slice e),some .string=>(P.info? e).bind fun i=>i.zero.bind fun z=>(Vn z).bind fun p=>(ZV x).bind fun x=>(ZV y).bind fun y=>
     if p.cells.length=i.size∧i.size=1 then some (.apps e i.size i.bytes x y)else none
    | _,_=>none
  | _,_=>none
 | _=>none
def UB(P:Program)(o:Op):Option POp:=
 match o with
 | .move x | .assign x=>(ZV x).map .mv
 | .pick c a b=>(ZV c).bind fun c=>(ZV a).bind fun a=>(ZV b).map fun b=>.pick c a b
 | .box t x=>(P.info? t).bind fun i=>(ZV x).map fun x=>.box i.size x
 | .alloc t=>(P.info? t).bind fun i=>i.zero.bind fun z=>(Vn z).map .alloc
 | .build t ps=>
  (P.info? t).bind fun i=>i.zero.bind fun z=>(Vn z).bind fun p=>
   match P.underlying t with
   | some (.struct fs)=>(places P fs).bind fun pl=>(Xg (fun(q:Nat×Operand)=>(pl[q.1]?).bind fun(o,n)=>(ZV q.2).map fun x=>(o,n,x)) ps.toList).map fun qs=>.build p.cells qs
   | some (.array _ e)=>(P.info? e).bind fun ie=>(Xg (fun(q:Nat×Operand)=>(ZV q.2).map fun x=>(q.1*ie.size,ie.size,x)) ps.toList).map fun qs=>.build p.cells qs
   | _=>none
 | .buildSlice t n ps=>
  match P.underlying t with
  | some (.slice e)=>(P.info? e).bind fun i=>i.zero.bind fun z=>(Vn z).bind fun p=>
   if n*i.size<=1048576∧n<=1048576 then(Xg (fun(q:Nat×Operand)=>(ZV q.2).map fun x=>(q.1,x)) ps.toList).map fun qs=>.bslice e i.size n p qs else none
  | _=>none
 | .load t x=>if (P.underlying t).isSome then(P.info? t).bind fun i=>if (c7k P t).length=i.size then(ZV x).map fun x=>.load (Yu P t) (c7k P t) x else none else none
 | .store t x v=>(P.info? t).bind fun i=>(ZV x).bind fun x=>(ZV v).map fun v=>.store i.size x v
 | .nilCheck x=>(ZV x).map .nilchk
 | .binOp op t x y _=>(Mm P op t y).bind fun kd=>(ZV x).bind fun x=>(ZV y).map fun y=>.bin kd op x y
 | .unOp op _ x=>(ZV x).map (.un op)
 | .convert src dst x=>
  if (P.underlying src).isSome then
   match P.underlying dst with
   | some (.int k)=>(ZV x).map (.conv k)
   | some .string=>match P.underlying src with
    | some (.slice e)=>if u8T P e=true then(ZV x).map .bstr else none
    | _=>(ZV x).map .strid
   | some (.slice e)=>if u8T P e=true then(if src=dst then(ZV x).map .sslice else(ZV x).map .sbytes)else none
   | _=>none
  else none
 | .makeFunc (.func f) xs ys=>(Fu xs).bind fun xs=>(Fu ys).map fun ys=>.mkfn f xs ys
 | .makeMap _ none=>some .mkmap
 | .makeSlice t l c=>
  match P.underlying t with
  | some (.slice e)=>(P.info? e).bind fun i=>i.zero.bind fun z=>(Vn z).bind fun p=>(ZV l).bind fun l=>(ZV c).bind fun c=>if p.cells.length=i.size then some (.mksl e i.size i.bytes p l c)else none
  | _=>none
 | .slice t x lo hi mx=>
  match P.underlying t with
  | some .string=>if mx.isNone then(ZV x).bind fun x=>(JZ lo).bind fun lo=>(JZ hi).map fun hi=>.strslc x lo hi else none
  | some (.slice e)=>(P.info? e).bind fun i=>(ZV x).bind fun x=>(JZ lo).bind fun lo=>(JZ hi).bind fun hi=>(JZ mx).map fun mx=>.slc i.size x lo hi mx
  | _=>none
 | .fieldAddr s x n=>
  match P.underlying s with
  | some (.struct fs)=>(fs[n]?).bind fun f=>(P.info? f.type).bind fun i=>if (i.size==0)=false then(ZV x).map (.faddr f.offset)else none
  | _=>none
 | .field s x n=>
  match P.underlying s with
  | some (.struct fs)=>(fs[n]?).bind fun f=>(P.info? f.type).bind fun i=>if (P.underlying f.type).isSome then(ZV x).map (.field (Yu P f.type) f.offset i.size)else none
  | _=>none
 | .indexAddr t x i=>
  match P.underlying t with
  | some (.slice e)=>(P.info? e).bind fun ie=>(ZV x).bind fun x=>(ZV i).map fun i=>.iaddr ie.size x i
  | some (.array n e)=>match i with
   | .const (.int _ z)=>(P.info? e).bind fun ie=>if 0<=z∧z<n then(ZV x).map (.faddr (z.toNat*ie.size))else none
   | i=>(P.info? e).bind fun ie=>(ZV x).bind fun x=>(ZV i).map fun i=>.iaddrA n ie.size x i
  | _=>none
 | .index t x i=>
  match P.underlying t with
  | some .string=>(ZV x).bind fun x=>(ZV i).map fun i=>.index x i
  | some (.array n e)=>(P.info? e).bind fun ie=>if (P.underlying e).isSome=true∧Yu P e=decide (2<=ie.size)then(ZV x).bind fun x=>(ZV i).map fun i=>.indexA n ie.size x i else none
  | _=>none
 | .lookup t m k ok=>
  match P.underlying t with
  | some (.map kt et)=>(c2p P kt).bind fun st=>(P.info? et).bind fun i=>i.zero.bind fun z=>(Vn z).bind fun p=>(ZV m).bind fun m=>(ZV k).map fun k=>.lookup st (c8c P et) p ok m k
  | _=>none
 | .mapUpdate t m k v=>
  match P.underlying t with
  | some (.map kt _)=>(c2p P kt).bind fun st=>(ZV m).bind fun m=>(ZV k).bind fun k=>(ZV v).map fun v=>.mapupd st m k v
  | _=>none
 | .extract x i=>(ZV x).map (.extract · i)
 | .call c=>J5 P c
 | _=>none
theorem a0s{P:Program}{k:TypeId}{st:Bool}(h:c2p P k=some st): ∃ d,P.underlying k=some d∧UM d st:=by
 unfold c2p at h
 split at h
 ·cases h;exact⟨_,‹_›,by simp[UM]⟩
 ·cases h;exact⟨_,‹_›,by simp[UM]⟩
 ·cases h
def POp.isCall:POp->Bool
 | .call _ _=>true
 | _=>false
section
variable {P:Program} {c:Ctx} {μ:Mu} {Φ:Zv} {σ σ':Zu} {w:World} {a:Act} {env:List AV} {L:Nat} {x:AV}
theorem Dx{s:Sem Unit}(h : ∃ w',s.run P w = .ok () w'∧ZN c μ Φ σ' x Go.undef w'):Wp P (do s;pure .skip) w (ZN c μ Φ σ' x):=by
 obtain⟨w',h1,h2⟩:=h
 simp[Wp,h1,h2]
theorem BK{xs:Array Operand}{ys:List IOp}(he:YE μ Φ a.tmps env)(h:Fu xs=some ys):RL μ Φ (xs.map a.eval).toList (ys.map (ev env)):=by
 rw[Array.toList_map]
 exact d1y h (fun o p ho=>ZF he ho)
theorem Av{o:Option Operand}{o':Option IOp}(he:YE μ Φ a.tmps env)(h:JZ o=some o')(d n:Nat)(hn:Sl env d o'=some (true,n)):BR d (o.map a.eval) n:=by
 refine c8e he (o:=o) (o':=o') ?_ hn
 cases o <;> exact h
theorem b7p{cl:Call}{p:POp}(hp:J5 P cl=some p)(hc:p.isCall=false)(hg:Good c μ Φ σ w)(he:YE μ Φ a.tmps env)(hr:(YF L env p).run σ=some (x,σ'))(ty:TypeId):
  Wp P (do let d <- resolve a.eval cl ty;invoke d.target d.args) w (ZN c μ Φ σ' x):=by
 obtain⟨callee,args,argTypes⟩:=cl
 unfold J5 at hp
 simp only at hp
 split at hp
 ·simp only[Option.bind_eq_some_iff,Option.map_eq_some_iff]at hp
  obtain⟨f,hf,xs,hxs,rfl⟩:=hp
  simp[POp.isCall]at hc
 ·split at hp
  ·rename_i y t h1 h2
   simp only[Option.bind_eq_some_iff,Option.map_eq_some_iff]at hp
   obtain⟨y',hy',k,hk,rfl⟩:=hp
   have e1:args = #[y]:=by simpa using congrArg List.toArray h1
   have e2:argTypes = #[t]:=by simpa using congrArg List.toArray h2
   subst e1 e2
   obtain⟨v,w',r1,r2⟩:=c9y (ty:=ty) hk hg (ZF he hy') hr
   simp[Wp,resolve,invoke,builtin,r1,r2]
  ·cases hp
 ·split at hp
  ·rename_i y z h1
   simp only[Option.bind_eq_some_iff,Option.map_eq_some_iff]at hp
   obtain⟨y',hy',z',hz',rfl⟩:=hp
   have e1:args = #[y,z]:=by simpa using congrArg List.toArray h1
   subst e1
   obtain⟨v,w',r1,r2⟩:=c7f (P:=P) (ts:=argTypes) (ty:=ty) hg (ZF he hy') (ZF he hz') hr
   simp only[if_true]at r1
   simp[Wp,resolve,invoke,builtin,r1,r2]
  ·cases hp
 ·split at hp
  ·rename_i y z h1
   simp only[Option.bind_eq_some_iff,Option.map_eq_some_iff]at hp
   obtain⟨y',hy',z',hz',rfl⟩:=hp
   have e1:args = #[y,z]:=by simpa using congrArg List.toArray h1
   subst e1
   obtain⟨v,w',r1,r2⟩:=c7f (P:=P) (ts:=argTypes) (ty:=ty) hg (ZF he hy') (ZF he hz') hr
   simp only[if_false,Bool.false_eq_true]at r1
   simp[Wp,resolve,invoke,builtin,r1,r2]
  ·cases hp
 ·split at hp
  ·rename_i y z t t' h1 h2
   split at hp
   ·rename_i htt
    subst htt
    split at hp
    ·rename_i e ht
     simp only[Option.bind_eq_some_iff]at hp
     obtain⟨i,hi,zv,hz,pz,hpz,y',hy',z',hz',hp⟩:=hp
     split at hp
     ·rename_i hcs
      cases hp
      have e1:args = #[y,z]:=by simpa using congrArg List.toArray h1
      have e2:argTypes = #[t,t]:=by simpa using congrArg List.toArray h2
      subst e1 e2
      have hy:=ZF he hy'
      have hzz:=ZF he hz'
      have key:VS P (Builtin.append_ #[t,t] ty #[a.eval y,a.eval z]) w (ZN c μ Φ σ' x):=by
       simp only[YF]at hr
       split at hr
       ·rename_i sz' tt ys hZ
        rw[hZ]at hzz
        replace hzz:=ZR hzz
        have hqr:=ZM hr
        clear hr
        obtain⟨hq,hr⟩:=hqr
        have hor:ys=[]∨sz'=i.size:=by
         rcases Bool.or_eq_true _ _ |>.mp hq with h|h
         ·exact .inl (by simpa using h)
         ·exact .inr (beq_iff_eq.mp h)
        ·refine Tz ht hi hz hpz hcs.1 hcs.2 hg hy ?_ hr
         by_cases h0:ys=[]
         ·subst h0
          generalize a.eval z=q at hzz
          cases hzz with
          | sl0 b cp _ _ _=>exact⟨b,cp,rfl,.inl rfl⟩
          | sl b off cs cp _ _ _ u=>exact⟨_,cp,rfl,.inl rfl⟩
         ·obtain⟨b,off,cp,cs,us,z1,z2,z3,z4,z5,z6,z7,z8⟩:=hzz.sl_cells hg.phi h0
          have hs:sz'=i.size:=hor.resolve_left h0
          subst hs
          exact⟨_,cp,z1,.inr ⟨b,off,us,rfl,z6,z7,z8,z5⟩⟩
       ·rename_i l n lo hi' hZ
        rw[hZ]at hzz
        have hqr:=YP hr
        clear hr
        obtain⟨ob,hob,hr⟩:=hqr
        split at hr
        ·rename_i fz ty' sz' ys
         split at hr
         ·rename_i hor
          subst hor
          have hqr:=ZM hr
          clear hr
          obtain⟨hn,hr⟩:=hqr
          have hn:=beq_iff_eq.mp hn
          refine Tz ht hi hz hpz hcs.1 hcs.2 hg hy ?_ hr
          generalize a.eval z=q at hzz
          cases hzz with
          | row _ _ _ _ B C S q' hm k2 k3 k4 ha=>
           obtain⟨rfl,us,m1,m2,m3,m4,m5,m6,m7⟩:=UK hg hob hn hm
           have hlen:((ys.take hi').drop lo).length=hi' - lo:=by simp;omega
           rw[<- hlen]
           refine⟨q',_,rfl,?_⟩
           by_cases hlh:lo<hi'
           ·have hq:=ha (.inl hlh)
            subst hq
            refine .inr ⟨B,lo*i.size,((us.toList.take (ys.length*i.size)).drop (lo*i.size)).take ((hi' - lo)*i.size),rfl,?_,?_,?_,?_⟩
            ·obtain⟨_,m1,_⟩:=m1;have:=ZJ m1 (lo*i.size) ((hi' - lo)*i.size)
             have e:((us.toList.take (ys.length*i.size)).drop (lo*i.size)).take ((hi' - lo)*i.size)=(us.toList.drop (lo*i.size)).take ((hi' - lo)*i.size):=by
              rw[List.drop_take,List.take_take,Nat.min_eq_left]
              rw[<- Nat.sub_mul]
              exact Nat.mul_le_mul_right _ (by omega)
             rw[e]
             exact this
            ·have:=(m6.drop (lo*i.size)).take ((hi' - lo)*i.size)
             rw[UH m5,Ki (fun x hx=>m5 x (List.mem_of_mem_drop hx))]at this
             have e2:(ys.take hi').drop lo=(ys.drop lo).take (hi' - lo):=by rw[List.drop_take]
             rw[e2]
             exact this
            ·exact(m7.drop _).take _
            ·intro y hy
             exact m5 y (List.mem_of_mem_take (List.mem_of_mem_drop hy))
           ·left
            have:lo=hi':=by omega
            subst this
            simp
         ·exact(Zg hr).elim
        ·exact(Zg hr).elim
       ·exact(Zg hr).elim
      obtain⟨v,w',r1,r2⟩:=key
      simp[Wp,resolve,invoke,builtin,r1,r2]
     ·cases hp
    ·cases hp
   ·split at hp
    ·rename_i e ht ht'
     simp only[Option.bind_eq_some_iff]at hp
     obtain⟨i,hi,zv,hz,pz,hpz,y',hy',z',hz',hp⟩:=hp
     split at hp
     ·rename_i hcs
      cases hp
      have e1:args = #[y,z]:=by simpa using congrArg List.toArray h1
      have e2:argTypes = #[t,t']:=by simpa using congrArg List.toArray h2
      subst e1 e2
      have key:VS P (Builtin.append_ #[t,t'] ty #[a.eval y,a.eval z]) w (ZN c μ Φ σ' x):=
       c2i ht ht' hi hz hpz hcs.1 hcs.2 hg (ZF he hy') (ZF he hz') hr
      obtain⟨v,w',r1,r2⟩:=key
      simp[Wp,resolve,invoke,builtin,r1,r2]
     ·cases hp
    ·rename_i e ht ht'
     simp only[Option.bind_eq_some_iff]at hp
     obtain⟨i,hi,zv,hz,pz,hpz,y',hy',z',hz',hp⟩:=hp
     split at hp
     ·rename_i hcs
      cases hp
      have e1:args = #[y,z]:=by simpa using congrArg List.toArray h1
      have e2:argTypes = #[t,t']:=by simpa using congrArg List.toArray h2
      subst e1 e2
      have key:VS P (Builtin.append_ #[t,t'] ty #[a.eval y,a.eval z]) w (ZN c μ Φ σ' x):=
       c1h ht ht' hi hz hpz hcs.1 hcs.2 hg (ZF he hy') (ZF he hz') hr
      obtain⟨v,w',r1,r2⟩:=key
      simp[Wp,resolve,invoke,builtin,r1,r2]
     ·cases hp
    ·cases hp
  ·cases hp
 ·cases hp
theorem c8x{o:Oper}{p:POp}(hp:UB P o.op=some p)(hc:p.isCall=false)(hg:Good c μ Φ σ w)(he:YE μ Φ a.tmps env)(hr:(YF L env p).run σ=some (x,σ')):
  Wp P (execOp a.eval o) w (ZN c μ Φ σ' x):=by
 obtain⟨dst,op,type,pos,after,guard⟩:=o
 simp only at hp
 unfold UB at hp
 split at hp
 all_goals try simp only[Option.bind_eq_some_iff,Option.map_eq_some_iff]at hp
 ·obtain⟨y,hy,rfl⟩:=hp
  simp only[YF]at hr
  obtain⟨rfl,rfl⟩:=Zp hr
  exact Zh hg (ZF he hy)
 ·obtain⟨y,hy,rfl⟩:=hp
  simp only[YF]at hr
  obtain⟨rfl,rfl⟩:=Zp hr
  exact Zh hg (ZF he hy)
 ·obtain⟨y1,h1,y2,h2,y3,h3,rfl⟩:=hp
  obtain⟨v,w',r1,r2⟩:=c3s (P:=P) hg (ZF he h1) (ZF he h2) (ZF he h3) hr
  simp only[Sem.run_bind]at r1
  simp only[Wp,execOp,Sem.run_bind]
  cases hq:(asBool (a.eval _)).run P w with
  | ok b w1=>
   simp only[hq,Result.andThen_ok,Sem.run_pure]at r1 ⊢
   cases r1
   exact r2
  | halt h w1=>simp[hq]at r1
 ·-- box
  obtain⟨i,hi,y,hy,rfl⟩:=hp
  exact(d2c (P:=P) hg (ZF he hy) hr).gives
 ·-- alloc
  obtain⟨i,hi,z,hz,q,hq,rfl⟩:=hp
  exact(a9i (P:=P) hi hz hq hg hr).gives
 ·-- build
  obtain⟨i,hi,z,hz,q,hq,hp⟩:=hp
  split at hp
  ·rename_i fs ht
   simp only[Option.bind_eq_some_iff,Option.map_eq_some_iff]at hp
   obtain⟨pl,hpl,qs,hqs,rfl⟩:=hp
   obtain⟨m1,m2⟩:=Xo hqs
   refine(b1e (P:=P) ht hi hz hq hpl hg (by simpa using m1) ?_ hr).gives
   intro j pa qa ha hb
   rw[Array.getElem?_map,Option.map_eq_some_iff]at ha
   obtain⟨⟨n,o⟩,ho,rfl⟩:=ha
   have:=m2 j (n,o) qa (by simpa using ho) hb
   simp only[Option.bind_eq_some_iff,Option.map_eq_some_iff]at this
   obtain⟨⟨o1,n1⟩,k1,y,k2,rfl⟩:=this
   exact⟨k1,ZF he k2⟩
  ·rename_i len e ht
   simp only[Option.bind_eq_some_iff,Option.map_eq_some_iff]at hp
   obtain⟨ie,hie,qs,hqs,rfl⟩:=hp
   obtain⟨m1,m2⟩:=Xo hqs
   refine(a5d (P:=P) ht hi hie hz hq hg (by simpa using m1) ?_ hr).gives
   intro j pa qa ha hb
   rw[Array.getElem?_map,Option.map_eq_some_iff]at ha
   obtain⟨⟨n,o⟩,ho,rfl⟩:=ha
   have:=m2 j (n,o) qa (by simpa using ho) hb
   simp only[Option.map_eq_some_iff]at this
   obtain⟨y,k2,rfl⟩:=this
   exact⟨rfl,ZF he k2⟩
  ·cases hp
 ·-- buildSlice
  split at hp
  ·rename_i e ht
   simp only[Option.bind_eq_some_iff]at hp
   obtain⟨i,hi,z,hz,q,hq,hp⟩:=hp
   split at hp
   ·rename_i hsm
    simp only[Option.map_eq_some_iff]at hp
    obtain⟨qs,hqs,rfl⟩:=hp
    obtain⟨m1,m2⟩:=Xo hqs
    refine(vs_bslice (P:=P) ht hi hz hq hsm.1 hsm.2 hg (by simpa using m1) ?_ hr).gives
    intro j pa qa ha hb
    rw[Array.getElem?_map,Option.map_eq_some_iff]at ha
    obtain⟨⟨n,o⟩,ho,rfl⟩:=ha
    have:=m2 j (n,o) qa (by simpa using ho) hb
    simp only[Option.map_eq_some_iff]at this
    obtain⟨y,k2,rfl⟩:=this
    exact⟨rfl,ZF he k2⟩
   ·cases hp
  ·cases hp
 ·-- load
  split at hp
  ·rename_i hu
   simp only[Option.bind_eq_some_iff]at hp
   obtain⟨i,hi,hp⟩:=hp
   split at hp
   ·rename_i hsh
    simp only[Option.map_eq_some_iff]at hp
    obtain⟨y,hy,rfl⟩:=hp
    exact(c0s (P:=P) hu hi hsh hg (ZF he hy) hr).gives
   ·cases hp
  ·cases hp
 ·-- store
  obtain⟨i,hi,y,hy,z,hz,rfl⟩:=hp
  exact Dx (a9a (P:=P) hi hg (ZF he hy) (ZF he hz) hr)
 ·-- nilCheck
  obtain⟨y,hy,rfl⟩:=hp
  exact a4n (P:=P) hg (ZF he hy) hr _ a.eval _ rfl rfl
 ·-- binOp
  obtain⟨kd,hk,y,hy,z,hz,rfl⟩:=hp
  exact(d0x (P:=P) hk hg (ZF he hy) (ZF he hz) hr).gives
 ·-- unOp
  obtain⟨y,hy,rfl⟩:=hp
  exact(d3y (P:=P) hg (ZF he hy) hr).gives
 ·-- convert
  split at hp
  ·rename_i hs
   split at hp
   ·rename_i k hd
    simp only[Option.map_eq_some_iff]at hp
    obtain⟨y,hy,rfl⟩:=hp
    exact(c4x (P:=P) hs hd hg (ZF he hy) hr).gives
   ·rename_i hd
    split at hp
    ·rename_i e hsl
     split at hp
     ·rename_i hu8
      simp only[Option.map_eq_some_iff]at hp
      obtain⟨y,hy,rfl⟩:=hp
      exact(c5g (P:=P) hsl hd (OW hu8) hg (ZF he hy) hr).gives
     ·cases hp
    ·simp only[Option.map_eq_some_iff]at hp
     obtain⟨y,hy,rfl⟩:=hp
     exact(b3r (P:=P) hs hd hg (ZF he hy) hr).gives
   ·rename_i e hd
    split at hp
    ·rename_i hu8
     split at hp
     ·rename_i hsd
      subst hsd
      simp only[Option.map_eq_some_iff]at hp
      obtain⟨y,hy,rfl⟩:=hp
      exact(a7n (P:=P) hd (OW hu8) hg (ZF he hy) hr).gives
     ·simp only[Option.map_eq_some_iff]at hp
      obtain⟨y,hy,rfl⟩:=hp
      exact(a4o (P:=P) hs hd (OW hu8) hg (ZF he hy) hr).gives
    ·cases hp
   ·cases hp
  ·cases hp
 ·-- makeFunc
  obtain⟨xs,hxs,ys,hys,rfl⟩:=hp
  exact(c1o (P:=P) hg (BK he hxs) (BK he hys) hr).gives
 ·-- makeMap
  cases hp
  exact(b5e (P:=P) hg hr).gives
 ·-- makeSlice
  split at hp
  ·rename_i e ht
   simp only[Option.bind_eq_some_iff]at hp
   obtain⟨i,hi,z,hz,q,hq,y,hy,u,hu,hp⟩:=hp
   split at hp
   ·rename_i hs
    cases hp
    exact(c0l (P:=P) ht hi hz hq hs hg (ZF he hy) (ZF he hu) hr).gives
   ·cases hp
  ·cases hp
 ·-- slice
  rename_i t o lo hi mx
  split at hp
  ·rename_i ht
   split at hp
   ·rename_i hmx
    simp only[Option.bind_eq_some_iff,Option.map_eq_some_iff]at hp
    obtain⟨y,hy,lo',hlo,hi',hhi,rfl⟩:=hp
    have:mx=none:=by simpa using hmx
    subst this
    exact(a4m (P:=P) ht (fun n hn=>Av he hlo 0 n hn) (fun d n hn=>Av he hhi d n hn) hg (ZF he hy) hr).gives
   ·cases hp
  ·rename_i e ht
   simp only[Option.bind_eq_some_iff,Option.map_eq_some_iff]at hp
   obtain⟨i,hi0,y,hy,lo',hlo,hi',hhi,mx',hmx,rfl⟩:=hp
   refine(d3i (P:=P) ht hi0 (fun n hn=>Av he hlo 0 n hn) (fun d n hn=>Av he hhi d n hn) ?_ ?_ ?_ hg (ZF he hy) hr).gives
   ·rintro rfl
    cases mx with
    | none=>rfl
    | some z=>simp[JZ]at hmx
   ·intro h
    cases hi with
    | none=>simp[JZ]at hhi;exact absurd hhi.symm h
    | some z=>simp
   ·rintro m rfl
    cases mx with
    | none=>simp[JZ]at hmx
    | some z=>exact⟨a.eval z,rfl,fun d n hn=>Av he (o:=some z) hmx d n hn⟩
  ·cases hp
 ·-- fieldAddr
  split at hp
  ·rename_i fs ht
   simp only[Option.bind_eq_some_iff]at hp
   obtain⟨f,hf,i,hi,hp⟩:=hp
   split at hp
   ·rename_i hz
    simp only[Option.map_eq_some_iff]at hp
    obtain⟨y,hy,rfl⟩:=hp
    exact(a8k (P:=P) ht hf hi hz hg (ZF he hy) hr).gives
   ·cases hp
  ·cases hp
 ·-- field
  split at hp
  ·rename_i fs ht
   simp only[Option.bind_eq_some_iff]at hp
   obtain⟨f,hf,i,hi,hp⟩:=hp
   split at hp
   ·rename_i hu
    simp only[Option.map_eq_some_iff]at hp
    obtain⟨y,hy,rfl⟩:=hp
    exact(b7t (P:=P) ht hf hu hi hg (ZF he hy) hr).gives
   ·cases hp
  ·cases hp
 ·-- indexAddr
  split at hp
  ·rename_i e ht
   simp only[Option.bind_eq_some_iff,Option.map_eq_some_iff]at hp
   obtain⟨i,hi,y,hy,z,hz,rfl⟩:=hp
   exact(a9q (P:=P) ht hi hg (ZF he hy) (ZF he hz) hr).gives
  ·rename_i n e ht
   split at hp
   ·rename_i k z
    simp only[Option.bind_eq_some_iff]at hp
    obtain⟨ie,hi,hp⟩:=hp
    split at hp
    ·rename_i hz
     simp only[Option.map_eq_some_iff]at hp
     obtain⟨y,hy,rfl⟩:=hp
     exact(b6s (P:=P) (k:=k) ht hi hz hg (ZF he hy) hr).gives
    ·cases hp
   ·simp only[Option.bind_eq_some_iff,Option.map_eq_some_iff]at hp
    obtain⟨ie,hi,y,hy,z,hz,rfl⟩:=hp
    exact(a7u (P:=P) ht hi hg (ZF he hy) (ZF he hz) hr).gives
  ·cases hp
 ·-- index
  split at hp
  ·rename_i ht
   simp only[Option.bind_eq_some_iff,Option.map_eq_some_iff]at hp
   obtain⟨y,hy,z,hz,rfl⟩:=hp
   exact(a9o (P:=P) ht hg (ZF he hy) (ZF he hz) hr).gives
  ·rename_i n e ht
   simp only[Option.bind_eq_some_iff]at hp
   obtain⟨ie,hi,hp⟩:=hp
   split at hp
   ·rename_i hcc
    simp only[Option.bind_eq_some_iff,Option.map_eq_some_iff]at hp
    obtain⟨y,hy,z,hz,rfl⟩:=hp
    exact(a6k (P:=P) ht hi hcc.1 hcc.2 hg (ZF he hy) (ZF he hz) hr).gives
   ·cases hp
  ·cases hp
 ·-- lookup
  split at hp
  ·rename_i kt et ht
   simp only[Option.bind_eq_some_iff,Option.map_eq_some_iff]at hp
   obtain⟨st,hst,i,hi,z,hz,q,hq,y,hy,u,hu,rfl⟩:=hp
   obtain⟨d,hd,hk⟩:=a0s hst
   exact(a4y (P:=P) ht hd hk hi hz hq hg (ZF he hy) (ZF he hu) hr).gives
  ·cases hp
 ·-- mapUpdate
  split at hp
  ·rename_i kt et ht
   simp only[Option.bind_eq_some_iff,Option.map_eq_some_iff]at hp
   obtain⟨st,hst,y,hy,u,hu,z,hz,rfl⟩:=hp
   obtain⟨d,hd,hk⟩:=a0s hst
   exact Dx (a5u (P:=P) ht hd hk hg (ZF he hy) (ZF he hu) (ZF he hz) hr)
  ·cases hp
 ·-- extract
  obtain⟨y,hy,rfl⟩:=hp
  exact(OJ (P:=P) hg (ZF he hy) hr).gives
 ·-- call
  exact b7p hp hc hg he hr type
 ·cases hp
end
end Go.Pl
namespace Go.Pl
open Go.RowKit
def BU:List Nat->Bool
 | []=>true
 | x::xs=> !xs.contains x&&BU xs
theorem GH{ls:List Nat}{l i:Nat}(h:fwd ls l=some i):ls[i]? = some l:=by
 unfold fwd at h
 rw[List.idxOf?,List.findIdx?_eq_some_iff_getElem]at h
 obtain⟨hi,h1,_⟩:=h
 rw[List.getElem?_eq_getElem hi]
 simp at h1
 rw[h1]
theorem JQ{ρ:Nat->Option Nat}: ∀ {xs ys:List AV},GZ ρ xs=some ys->xs.length=ys.length∧ ∀ (j:Nat) x y,xs[j]? = some x->ys[j]? = some y->x.ren ρ=some y:=by
 intro xs
 induction xs with
 | nil=>intro ys h;simp[GZ]at h;subst h;simp
 | cons x xs ih=>
  intro ys h
  simp only[GZ,Option.bind_eq_some_iff,Option.map_eq_some_iff]at h
  obtain⟨y,hy,ys',hys,rfl⟩:=h
  obtain⟨h1,h2⟩:=ih hys
  refine⟨by simp[h1],?_⟩
  intro j a b ha hb
  cases j with
  | zero=>simp at ha hb;subst ha hb;exact hy
  | succ j=>simp at ha hb;exact h2 j a b ha hb
theorem c6m{μ μ':Mu}{Φ:Zv}{ρ:Nat->Option Nat}(hρ : ∀ l i,ρ l=some i-> ∀ n z,μ l n=some z->μ' i n=some z){v:Value}{x:AV}(h:R μ Φ v x): ∀ {y:AV},x.ren ρ=some y->R μ' Φ v y:=by
 induction h with
 | pv v p h=>intro y hy;simp[AV.ren]at hy;subst hy;exact .pv v p h
 | junk v=>intro y hy;simp[AV.ren]at hy;subst hy;exact .junk v
 | undef=>intro y hy;simp[AV.ren]at hy;subst hy;exact .undef
 | agg cs xs hn ho h ih=>
  intro y hy
  simp only[AV.ren,Option.map_eq_some_iff]at hy
  obtain⟨ys,hys,rfl⟩:=hy
  obtain⟨h1,h2⟩:=JQ hys
  refine .agg cs ys (by omega) ho (fun j v y hv hy=> ?_)
  have hj:j<xs.length:=by have:=(List.getElem?_eq_some_iff.1 hy).1;omega
  exact ih j v xs[j] hv (List.getElem?_eq_getElem hj) (h2 j _ _ (List.getElem?_eq_getElem hj) hy)
 | tup cs xs hn h ih=>
  intro y hy
  simp only[AV.ren,Option.map_eq_some_iff]at hy
  obtain⟨ys,hys,rfl⟩:=hy
  obtain⟨h1,h2⟩:=JQ hys
  refine .tup cs ys (by omega) (fun j v y hv hy=> ?_)
  have hj:j<xs.length:=by have:=(List.getElem?_eq_some_iff.1 hy).1;omega
  exact ih j v xs[j] hv (List.getElem?_eq_getElem hj) (h2 j _ _ (List.getElem?_eq_getElem hj) hy)
 | ptr l o B C S h=>
  intro y hy
  simp only[AV.ren,Option.map_eq_some_iff]at hy
  obtain⟨i,hi,rfl⟩:=hy
  exact .ptr i o B C S (hρ l i hi _ _ h)
 | row l n lo hi B C S a h h1 h2 h3 ha=>
  intro y hy
  simp only[AV.ren,Option.map_eq_some_iff]at hy
  obtain⟨i,hi,rfl⟩:=hy
  exact .row i n lo _ B C S a (hρ l i hi _ _ h) h1 h2 h3 ha
 | eptr l n i o B C S h=>
  intro y hy
  simp only[AV.ren,Option.map_eq_some_iff]at hy
  obtain⟨k,hk,rfl⟩:=hy
  exact .eptr k n i o B C S (hρ l k hk _ _ h)
 | map l B C S h=>
  intro y hy
  simp only[AV.ren,Option.map_eq_some_iff]at hy
  obtain⟨i,hi,rfl⟩:=hy
  exact .map i B C S (hρ l i hi _ _ h)
 | fn f cs ds xs ys hn hm h k ih1 ih2=>
  intro y hy
  simp only[AV.ren,Option.bind_eq_some_iff,Option.map_eq_some_iff]at hy
  obtain⟨xs',hxs,ys',hys,rfl⟩:=hy
  obtain⟨h1,h2⟩:=JQ hxs
  obtain⟨k1,k2⟩:=JQ hys
  refine .fn f cs ds xs' ys' (by omega) (by omega) (fun j v y hv hy=> ?_) (fun j v y hv hy=> ?_)
  ·have hj:j<xs.length:=by have:=(List.getElem?_eq_some_iff.1 hy).1;omega
   exact ih1 j v xs[j] hv (List.getElem?_eq_getElem hj) (h2 j _ _ (List.getElem?_eq_getElem hj) hy)
  ·have hj:j<ys.length:=by have:=(List.getElem?_eq_some_iff.1 hy).1;omega
   exact ih2 j v ys[j] hv (List.getElem?_eq_getElem hj) (k2 j _ _ (List.getElem?_eq_getElem hj) hy)
 | yld l=>
  intro y hy
  simp only[AV.ren,Option.some.injEq]at hy
  subst hy
  exact .yld l
theorem Ea{μ μ':Mu}{Φ:Zv}{ρ:Nat->Option Nat}(hρ : ∀ l i,ρ l=some i-> ∀ n z,μ l n=some z->μ' i n=some z){vs:List Value}{xs ys:List AV}(h:RL μ Φ vs xs)(hy:GZ ρ xs=some ys):RL μ' Φ vs ys:=by
 obtain⟨h1,h2⟩:=JQ hy
 refine⟨by rw[h.1,h1],fun j v y hv hy=> ?_⟩
 have hj:j<xs.length:=by have:=(List.getElem?_eq_some_iff.1 hy).1;omega
 exact c6m hρ (h.2 j v xs[j] hv (List.getElem?_eq_getElem hj)) (h2 j _ _ (List.getElem?_eq_getElem hj) hy)
theorem YQ{μ μ':Mu}{Φ:Zv}{w:World}{ρ:Nat->Option Nat}(hρ : ∀ l i,ρ l=some i-> ∀ n z,μ l n=some z->μ' i n=some z){l i:Nat}(hli : ∀ n,μ' i n=μ l n){o o':AObj}(h:UR μ Φ w l o)(ho:o.ren ρ=some o'):
  UR μ' Φ w i o'∧blk μ' i o'=blk μ l o:=by
 cases o with
 | box xs=>
  simp only[AObj.ren,Option.map_eq_some_iff]at ho
  obtain⟨ys,hys,rfl⟩:=ho
  obtain⟨B,C,S,T,cs,h1,h2,h3,h4,h5⟩:=h
  exact⟨⟨B,C,S,T,cs,by rw[hli];exact h1,h2,Ea hρ h3 hys,h4,h5⟩,by simp[blk,hli]⟩
 | row fz ty sz xs=>
  simp only[AObj.ren,Option.some.injEq]at ho
  subst ho
  obtain⟨B,C,cs,h1,h2,h3⟩:=h
  exact⟨⟨B,C,cs,by rw[hli];exact h1,fun n hn=>by rw[hli];exact h2 n hn,h3⟩,by simp[blk,hli]⟩
 | map es=>
  simp only[AObj.ren,Option.some.injEq]at ho
  subst ho
  obtain⟨B,C,S,m,k,h1,h2⟩:=h
  exact⟨⟨B,C,S,m,k,by rw[hli];exact h1,h2⟩,by simp[blk,hli]⟩
theorem a7t: ∀ {l:List Nat},BU l=true-> ∀ (i j:Nat) x,l[i]? = some x->l[j]? = some x->i=j:=by
 intro l
 induction l with
 | nil=>intro _ i j x h;simp at h
 | cons a l ih=>
  intro h i j x hi hj
  simp only[BU,Bool.and_eq_true,Bool.not_eq_true']at h
  have hna:a ∉ l:=by simpa using h.1
  cases i with
  | zero=>
   cases j with
   | zero=>rfl
   | succ j=>
    simp at hi hj
    subst hi
    exact absurd (List.mem_of_getElem? hj) hna
  | succ i=>
   cases j with
   | zero=>
    simp at hi hj
    subst hj
    exact absurd (List.mem_of_getElem? hi) hna
   | succ j=>
    simp at hi hj
    rw[ih h.2 i j x hi hj]
def Mu.ren(μ:Mu)(ls:List Nat):Mu:=fun i n=>match ls[i]? with|some l=>μ l n|none=>none
theorem a0d{α:Type}{σ:Zu}{k:List (Nat×AObj)->HM α}{r:α×Zu}: ∀ (n:Nat) {ls:List Nat} {acc:List (Nat×AObj)},(Gs n ls acc k).run σ=some r->(∀ p∈acc,σ[p.1]? = some (.obj p.2))->(acc.map (·.1)).Nodup ->
  ∃ acc',(∀ p∈acc',σ[p.1]? = some (.obj p.2))∧(acc'.map (·.1)).Nodup∧(k acc').run σ=some r:=by
 intro n
 induction n with
 | zero=>intro ls acc h _ _;simp[Gs,HM.run]at h
 | succ n ih=>
  intro ls acc h h1 h2
  cases ls with
  | nil=>exact⟨acc,h1,h2,h⟩
  | cons l ls=>
   unfold Gs at h
   split at h
   ·exact ih h h1 h2
   ·rename_i hl
    obtain⟨x,σ'⟩:=r
    obtain⟨o,ho,h3⟩:=YP h
    refine ih h3 ?_ ?_
    ·intro p hp
     rw[List.mem_append]at hp
     rcases hp with hp|hp
     ·exact h1 p hp
     ·simp at hp;subst hp;exact ho
    ·rw[List.map_append,List.nodup_append]
     refine⟨h2,by simp,?_⟩
     intro a ha b hb
     simp at hb
     subst hb
     rintro rfl
     exact hl (by simpa using ha)
theorem Oy{α:Type}{k:HM α}{r:α×Zu}: ∀ {ps:List (Nat×AObj)} {σ:Zu},(Pg ps k).run σ=some r->(ps.map (·.1)).Nodup ->
  ∃ σ1,k.run σ1=some r∧(∀ p∈ps,σ1[p.1]? = some (.obj p.2))∧ ∀ l,l ∉ ps.map (·.1)->σ1[l]? = σ[l]? :=by
 intro ps
 induction ps with
 | nil=>intro σ h _;exact⟨σ,h,by simp,fun _ _=>rfl⟩
 | cons p ps ih=>
  intro σ h hn
  obtain⟨l,o⟩:=p
  obtain⟨x,σ'⟩:=r
  simp only[Pg]at h
  obtain⟨⟨o',ho'⟩,h1⟩:=Un h
  simp only[List.map_cons,List.nodup_cons]at hn
  obtain⟨σ1,k1,k2,k3⟩:=ih h1 hn.2
  refine⟨σ1,k1,?_,?_⟩
  ·intro p hp
   rcases List.mem_cons.1 hp with rfl|hp
   ·rw[k3 _ hn.1]
    exact ZB ho'
   ·exact k2 p hp
  ·intro l' hl'
   simp only[List.map_cons,List.mem_cons,not_or]at hl'
   rw[k3 l' hl'.2,Zx hl'.1]
theorem Ef{α:Type}{k:HM α}{r:α×Zu}: ∀ {os:List AObj} {L:Nat} {σ:Zu},(Nn L os k).run σ=some r ->
  ∃ σ1,k.run σ1=some r∧(∀ (j:Nat) o,os[j]? = some o->σ[L+j]? = some .fresh∧σ1[L+j]? = some (.obj o))∧ ∀ l,(l<L∨L+os.length<=l)->σ1[l]? = σ[l]? :=by
 intro os
 induction os with
 | nil=>intro L σ h;exact⟨σ,h,by simp,fun _ _=>rfl⟩
 | cons o os ih=>
  intro L σ h
  obtain⟨x,σ'⟩:=r
  simp only[Nn]at h
  obtain⟨h0,h1⟩:=Qa h
  obtain⟨σ1,k1,k2,k3⟩:=ih h1
  refine⟨σ1,k1,?_,?_⟩
  ·intro j o2 hj
   cases j with
   | zero=>
    simp at hj
    subst hj
    refine⟨h0,?_⟩
    rw[Nat.add_zero,k3 L (.inl (by omega))]
    exact ZB h0
   | succ j=>
    simp at hj
    obtain⟨a,b⟩:=k2 j o2 hj
    have e:L+1+j=L+(j+1):=by omega
    rw[e]at a b
    refine⟨?_,b⟩
    rwa [Zx (by omega)]at a
  ·intro l hl
   rw[k3 l (by simp at hl;omega),Zx (by simp at hl;omega)]
theorem UY{ρ:Nat->Option Nat}: ∀ {xs ys:List AObj},QY ρ xs=some ys->xs.length=ys.length∧ ∀ (j:Nat) x y,xs[j]? = some x->ys[j]? = some y->x.ren ρ=some y:=by
 intro xs
 induction xs with
 | nil=>intro ys h;simp[QY]at h;subst h;simp
 | cons x xs ih=>
  intro ys h
  simp only[QY,Option.bind_eq_some_iff,Option.map_eq_some_iff]at h
  obtain⟨y,hy,ys',hys,rfl⟩:=h
  obtain⟨h1,h2⟩:=ih hys
  refine⟨by simp[h1],?_⟩
  intro j a b ha hb
  cases j with
  | zero=>simp at ha hb;subst ha hb;exact hy
  | succ j=>simp at ha hb;exact h2 j a b ha hb
def Mu.back(μ μ2:Mu)(ls:List Nat)(L k:Nat):Mu:=fun l n=>
 if L<=l∧l<L+k then μ2 (ls.length+(l - L)) n
 else match ls.idxOf? l with|some i=>μ2 i n|none=>μ l n
end Go.Pl
namespace Go.Pl
open Go.RowKit
def Y4(P:Program)(f:Nat)(pre:List PV->Bool)(val:List PV->PV):Prop:=
 ∀ ps,pre ps=true-> ∀ Φ w (vs:Array Value),GlobOK Φ->Ye Φ w->Xy Φ vs.toList ps ->
  Calls P f vs w fun e w'=> ∃ v Φ',e = .returned v∧Zv.le Φ Φ'∧Ye Φ' w'∧RP Φ' v (val ps)∧Below w.heap.size w w'∧ ∀ b cs,Φ' b=some cs->Φ b=some cs∨w.heap.size<=b
def ZU(μ:Mu)(Φ:Zv)(σ:Zu)(w:World):Ctx:=⟨w,fun b=> ∃ l o,σ[l]? = some (.obj o)∧blk μ l o=b,Φ,μ⟩
def Yv(os:List AObj):Zu:=os.map .obj
def Z0(P:Program)(f:Nat)(pre:List AV->List AObj->Bool)(val:List AV->List AObj->AV×List AObj×List AObj):Prop:=
 ∀ args os x os' ext,pre args os=true->val args os=(x,os',ext)->os'.length=os.length∧ ∀ μ Φ w (vs:Array Value),Good (ZU μ Φ (Yv os) w) μ Φ (Yv os) w->RL μ Φ vs.toList args ->
  Calls P f vs w fun e w'=> ∃ v μ' Φ',e = .returned v∧Good (ZU μ Φ (Yv os) w) μ' Φ' (Yv (os'++ext)) w'∧R μ' Φ' v x
def a3w(P:Program)(f:Nat):Den->Prop
 | .pure pre val=>Y4 P f pre val
 | .own pre val=>Z0 P f pre val
def ZX(P:Program)(T:ZA):Prop:= ∀ f D,T f=some D->(∃ fn,P.funcs[f]? = some fn∧fn.body.isSome=true∧(fn.name == "runtime.NumGoroutine")=false)∧a3w P f D
section
variable {P:Program} {c:Ctx} {μ:Mu} {Φ:Zv} {σ σ':Zu} {w:World} {a:Act} {env:List AV} {L:Nat} {x:AV}
theorem XJ{f:FuncId}{fn:Func}{args:Array Value}(hf:P.funcs[f]? = some fn)(hb:fn.body.isSome=true)(hn:(fn.name == "runtime.NumGoroutine")=false):(callFunc f args).run P w = .ok (.enter f args) w:=by
 have hb':fn.body.isNone=false:=by cases h:fn.body <;> simp_all
 unfold callFunc
 simp only[Sem.run_bind,run_program,Result.andThen_ok,hf,hn,hb',if_false,Bool.false_eq_true]
 rfl
theorem b3q{f:Nat}{pre:List PV->Bool}{val:List PV->PV}(hF:Y4 P f pre val){vs:Array Value}{args:List AV}(hg:Good c μ Φ σ w)(hv:RL μ Φ vs.toList args)
  (hr:((KR args).bind fun ps=>HM.req (pre ps) (.ret (.pv (val ps)))).run σ=some (x,σ')):Calls P f vs w fun e w'=> ∃ v,e = .returned v∧ZN c μ Φ σ' x v w':=by
 rw[HM.run_bind,Option.bind_eq_some_iff]at hr
 obtain⟨⟨ps,σ1⟩,h1,h2⟩:=hr
 obtain⟨h3,h4⟩:=ZM h2
 obtain⟨rfl,rfl⟩:=Zp h4
 obtain⟨Φ1,f1,f2,f3⟩:=Qu args h1 hg hv
 refine(hF ps h3 Φ1 w vs (f2.laid.mono f2.Φle) f2.phi f3).mono ?_
 rintro e w' ⟨v,Φ2,rfl,k1,k2,k3,k4,k5⟩
 exact⟨v,rfl,μ,Φ2,Mu.le.refl _,f1.trans k1,f2.below k4 k1 k2 k5,.pv _ _ k3⟩
theorem Good.μ_fresh(h:Good c μ Φ σ w){l n:Nat}{z:Nat×Nat×Nat}(hz:μ l n=some z): ∃ s,σ[l]? = some s∧s ≠ .fresh:=by
 cases hs:σ[l]? with
 | none=>rw[h.fresh l n (.inl hs)]at hz;cases hz
 | some s=>
  refine⟨s,rfl,?_⟩
  rintro rfl
  rw[h.fresh l n (.inr hs)]at hz
  cases hz
theorem b7i{ls:List Nat}{os:List AObj}{os2 ext os2' ext':List AObj}{σ1 σ2:Zu}{μ2:Mu}{Φ2:Zv}{w':World}(hg:Good c μ Φ σ w)(hnd:ls.Nodup)
  (hls : ∀ (i l:Nat) o,ls[i]? = some l->os[i]? = some o->σ[l]? = some (.obj o)) (hlen:os.length=ls.length) {os':List AObj} (hren:QY (fwd ls) os=some os')
  (hG:Good (ZU (μ.ren ls) Φ (Yv os') w) μ2 Φ2 (Yv (os2++ext)) w') (h2:os2.length=ls.length) (r1:QY (bwd ls L) os2=some os2') (r2:QY (bwd ls L) ext=some ext')
  (a1 : ∀ (i l:Nat) o,ls[i]? = some l->os2'[i]? = some o->σ1[l]? = some (.obj o)) (a2 : ∀ l,l ∉ ls->σ1[l]? = σ[l]?)
  (b1 : ∀ (j:Nat) o,ext'[j]? = some o->σ1[L+j]? = some .fresh∧σ2[L+j]? = some (.obj o)) (b2 : ∀ l,(l<L∨L+ext'.length<=l)->σ2[l]? = σ1[l]?) :
  Mu.le μ (μ.back μ2 ls L ext.length)∧Good c (μ.back μ2 ls L ext.length) Φ2 σ2 w'∧ ∀ (i l:Nat),bwd ls L i=some l-> ∀ n z,μ2 i n=some z->μ.back μ2 ls L ext.length l n=some z:=by
 obtain⟨e1,q1⟩:=UY r1
 obtain⟨e2,q2⟩:=UY r2
 obtain⟨e3,q3⟩:=UY hren
 have hidx : ∀ (i l:Nat),ls[i]? = some l->ls.idxOf? l=some i:=by
  intro i l hl
  have hi:i<ls.length:=(List.getElem?_eq_some_iff.1 hl).1
  have hm:l∈ls:=List.mem_of_getElem? hl
  cases hx:ls.idxOf? l with
  | none=>rw[List.idxOf?_eq_none_iff]at hx;exact absurd hm hx
  | some j=>
   have hj:=GH (ls:=ls) (l:=l) (i:=j) hx
   have hj':j<ls.length:=(List.getElem?_eq_some_iff.1 hj).1
   rw[List.getElem?_eq_getElem hi]at hl
   rw[List.getElem?_eq_getElem hj']at hj
   have:ls[i]=ls[j]:=by rw[Option.some.injEq]at hl hj;rw[hl,hj]
   rw[(List.getElem_inj hnd).1 this]
 have hnone : ∀ (l:Nat),l ∉ ls->ls.idxOf? l=none:=fun l hl=>by rw[List.idxOf?_eq_none_iff];exact hl
 -- the new places are not among the old ones
 have hL : ∀ (j:Nat),j<ext.length->L+j ∉ ls∧σ[L+j]? = some .fresh:=by
  intro j hj
  obtain⟨f1,_⟩:=b1 j ext'[j] (List.getElem?_eq_getElem (by omega))
  have hn:L+j ∉ ls:=by
   intro hm
   obtain⟨i,hi,e⟩:=List.getElem_of_mem hm
   have:=a1 i (L+j) os2'[i] (by rw[List.getElem?_eq_getElem hi,e]) (List.getElem?_eq_getElem (by omega))
   rw[f1]at this
   cases this
  exact⟨hn,by rw[<- a2 _ hn];exact f1⟩
 have hin : ∀ (i l:Nat),ls[i]? = some l-> ¬ (L<=l∧l<L+ext.length):=by
  intro i l hl ⟨h3,h4⟩
  have:=(hL (l - L) (by omega)).1
  rw[show L+(l - L)=l by omega]at this
  exact this (List.mem_of_getElem? hl)
 have bk1 : ∀ (i l n:Nat),ls[i]? = some l->μ.back μ2 ls L ext.length l n=μ2 i n:=by
  intro i l n hl
  simp only[Mu.back,if_neg (hin i l hl),hidx i l hl]
 have bk2 : ∀ (j n:Nat),j<ext.length->μ.back μ2 ls L ext.length (L+j) n=μ2 (ls.length+j) n:=by
  intro j n hj
  simp only[Mu.back]
  rw[if_pos ⟨by omega,by omega⟩,show ls.length+(L+j - L)=ls.length+j by omega]
 have bk3 : ∀ (l n:Nat),l ∉ ls-> ¬ (L<=l∧l<L+ext.length)->μ.back μ2 ls L ext.length l n=μ l n:=by
  intro l n hl hr
  simp only[Mu.back,if_neg hr,hnone l hl]
 have hρ : ∀ (i l:Nat),bwd ls L i=some l-> ∀ n z,μ2 i n=some z->μ.back μ2 ls L ext.length l n=some z:=by
  intro i l hl n z hz
  unfold bwd at hl
  split at hl
  ·rw[bk1 i l n hl];exact hz
  ·rename_i hi
   simp only[Option.some.injEq]at hl
   subst hl
   obtain⟨s,hs,_⟩:=hG.μ_fresh hz
   have:i<(Yv (os2++ext)).length:=(List.getElem?_eq_some_iff.1 hs).1
   simp[Yv]at this
   rw[bk2 (i - ls.length) n (by omega),show ls.length+(i - ls.length)=i by omega]
   exact hz
 have hle:Mu.le μ (μ.back μ2 ls L ext.length):=by
  intro l n z hz
  by_cases hm:l∈ls
  ·obtain⟨i,hi,e⟩:=List.getElem_of_mem hm
   have hl:ls[i]? = some l:=by rw[List.getElem?_eq_getElem hi,e]
   rw[bk1 i l n hl]
   refine hG.μle i n z ?_
   simp[ZU,Mu.ren,hl,hz]
  ·by_cases hr:L<=l∧l<L+ext.length
   ·have:=(hL (l - L) (by omega)).2
    rw[show L+(l - L)=l by omega]at this
    rw[hg.fresh l n (.inr this)]at hz
    cases hz
   ·rw[bk3 l n hm hr];exact hz
 -- which objects there are
 have kinds : ∀ (l:Nat) (o:AObj),σ2[l]? = some (.obj o)->(∃ (i:Nat) (p:AObj),(os2++ext)[i]? = some p∧bwd ls L i=some l∧p.ren (bwd ls L)=some o∧(∀ n,μ.back μ2 ls L ext.length l n=μ2 i n))∨(l ∉ ls∧ ¬ (L<=l∧l<L+ext.length)∧σ[l]? = some (.obj o)):=by
  intro l o hl
  by_cases hr:L<=l∧l<L+ext.length
  ·left
   obtain⟨_,f2⟩:=b1 (l - L) ext'[l - L] (List.getElem?_eq_getElem (by omega))
   rw[show L+(l - L)=l by omega,hl]at f2
   cases f2
   refine⟨ls.length+(l - L),ext[l - L],?_,?_,?_,?_⟩
   ·rw[List.getElem?_append_right (by omega),show ls.length+(l - L) - os2.length=l - L by omega]
    exact List.getElem?_eq_getElem (by omega)
   ·simp only[bwd]
    rw[if_neg (by omega)]
    congr 1
    omega
   ·exact q2 (l - L) _ _ (List.getElem?_eq_getElem (by omega)) (List.getElem?_eq_getElem (by omega))
   ·intro n
    have:=bk2 (l - L) n (by omega)
    rwa [show L+(l - L)=l by omega]at this
  ·rw[b2 l (by omega)]at hl
   by_cases hm:l∈ls
   ·left
    obtain⟨i,hi,e⟩:=List.getElem_of_mem hm
    have hls':ls[i]? = some l:=by rw[List.getElem?_eq_getElem hi,e]
    have:=a1 i l os2'[i] hls' (List.getElem?_eq_getElem (by omega))
    rw[hl]at this
    cases this
    refine⟨i,os2[i],?_,?_,q1 i _ _ (List.getElem?_eq_getElem (by omega)) (List.getElem?_eq_getElem (by omega)),fun n=>bk1 i l n hls'⟩
    ·rw[List.getElem?_append_left (by omega)]
     exact List.getElem?_eq_getElem (by omega)
    ·simp only[bwd]
     rw[if_pos hi]
     exact hls'
   ·right
    rw[a2 l hm]at hl
    exact⟨hm,hr,hl⟩
 have gat : ∀ (i:Nat) (p:AObj),(os2++ext)[i]? = some p->(Yv (os2++ext))[i]? = some (.obj p):=by
  intro i p h
  simp only[Yv,List.getElem?_map,h,Option.map_some]
 -- whose blocks the callee may turn
 have hown : ∀ b,(ZU (μ.ren ls) Φ (Yv os') w).own b-> ∃ (l:Nat) (o:AObj),l∈ls∧σ[l]? = some (.obj o)∧blk μ l o=b:=by
  rintro b ⟨i,o',ho',hb⟩
  simp only[Yv,List.getElem?_map,Option.map_eq_some_iff]at ho'
  obtain⟨o1,ho1,e⟩:=ho'
  cases e
  have hi:i<os'.length:=(List.getElem?_eq_some_iff.1 ho1).1
  have hl:ls[i]? = some ls[i]:=List.getElem?_eq_getElem (by omega)
  have ho:os[i]? = some os[i]:=List.getElem?_eq_getElem (by omega)
  have hσ:=hls i _ _ hl ho
  refine⟨ls[i],os[i],List.getElem_mem _,hσ,?_⟩
  rw[<- hb]
  exact(YQ (μ':=μ.ren ls) (i:=i) (ρ:=fwd ls) (fun l i hi n z hz=>by simp[Mu.ren,GH hi,hz]) (fun n=>by simp[Mu.ren,hl]) (hg.obj _ _ hσ) (q3 i _ _ ho ho1)).2.symm
 have hside : ∀ (i:Nat) (p:AObj),(os2++ext)[i]? = some p->w.heap.size<=blk μ2 i p ∨ ∃ (l:Nat) (o:AObj),l∈ls∧σ[l]? = some (.obj o)∧blk μ l o=blk μ2 i p:=by
  intro i p h
  rcases hG.own i p (gat i p h)with k|k
  ·exact .inl k
  ·exact .inr (hown _ k)
 refine⟨hle,⟨hG.phi,?_,?_,?_,?_,hG.os.trans hg.os,hG.tape.trans hg.tape,hG.output.trans hg.output,Nat.le_trans hg.size hG.size,?_,hg.Φle.trans hG.Φle,hg.μle.trans hle,?_,hg.laid⟩,hρ⟩
 ·intro l o hl
  rcases kinds l o hl with ⟨i,p,h3,h4,h5,h6⟩|⟨h3,h4,h5⟩
  ·exact(YQ hρ h6 (hG.obj i p (gat i p h3)) h5).1
  ·have hox:=hg.obj l o h5
   have hno : ¬ (ZU (μ.ren ls) Φ (Yv os') w).own (blk μ l o):=by
    intro k
    obtain⟨l',o',k1,k2,k3⟩:=hown _ k
    exact hg.apart l' l o' o (fun e=>h3 (e▸k1)) k2 h5 k3
   refine(hox.keep hle (fun n=>bk3 l n h3 h4) hG.Φle ?_ (hG.frame _ hox.blk_lt hno)).1
   cases hp:Φ2 (blk μ l o)with
   | none=>
    cases hq:Φ (blk μ l o)with
    | none=>rfl
    | some cs=>rw[hG.Φle _ _ hq]at hp;cases hp
   | some cs=>
    rcases hG.dom _ _ hp with hd|hd|hd
    ·exact hd.symm
    ·have:=hox.blk_lt
     have hd':w.heap.size<=blk μ l o:=hd
     omega
    ·exact absurd hd hno
 ·intro l l' o o' hne hl hl'
  have cross : ∀ (l:Nat) (o:AObj),l ∉ ls->σ[l]? = some (.obj o)-> ∀ (i:Nat) (p:AObj),(os2++ext)[i]? = some p->blk μ l o≠blk μ2 i p:=by
   intro l o h3 h4 i p h5 e
   rcases hside i p h5 with k|⟨l1,o1,k1,k2,k3⟩
   ·have:=(hg.obj l o h4).blk_lt
    omega
   ·exact hg.apart l1 l o1 o (fun e=>h3 (e▸k1)) k2 h4 (k3.trans e.symm)
  have same : ∀ (l:Nat) (o:AObj),l ∉ ls-> ¬ (L<=l∧l<L+ext.length)->blk (μ.back μ2 ls L ext.length) l o=blk μ l o:=by
   intro l o h3 h4
   simp only[blk,bk3 l _ h3 h4]
  rcases kinds l o hl with ⟨i,p,h3,h4,h5,h6⟩|⟨h3,h4,h5⟩
  ·rw[(YQ hρ h6 (hG.obj i p (gat i p h3)) h5).2]
   rcases kinds l' o' hl' with ⟨i',p',k3,k4,k5,k6⟩|⟨k3,k4,k5⟩
   ·rw[(YQ hρ k6 (hG.obj i' p' (gat i' p' k3)) k5).2]
    refine hG.apart i i' p p' ?_ (gat i p h3) (gat i' p' k3)
    rintro rfl
    rw[h4]at k4
    cases k4
    exact hne rfl
   ·rw[same l' o' k3 k4]
    exact fun e=>cross l' o' k3 k5 i p h3 e.symm
  ·rw[same l o h3 h4]
   rcases kinds l' o' hl' with ⟨i',p',k3,k4,k5,k6⟩|⟨k3,k4,k5⟩
   ·rw[(YQ hρ k6 (hG.obj i' p' (gat i' p' k3)) k5).2]
    exact cross l o h3 h5 i' p' k3
   ·rw[same l' o' k3 k4]
    exact hg.apart l l' o o' hne h5 k5
 ·intro l n hor
  have hm:l ∉ ls:=by
   intro hm
   obtain⟨i,hi,e⟩:=List.getElem_of_mem hm
   have hl:ls[i]? = some l:=by rw[List.getElem?_eq_getElem hi,e]
   have hnr:=hin i l hl
   have:=a1 i l os2'[i] hl (List.getElem?_eq_getElem (by omega))
   rw[<- b2 l (by omega)]at this
   rcases hor with k|k <;> rw[k]at this <;> cases this
  have hnr : ¬ (L<=l∧l<L+ext.length):=by
   intro hr
   obtain⟨_,f2⟩:=b1 (l - L) ext'[l - L] (List.getElem?_eq_getElem (by omega))
   rw[show L+(l - L)=l by omega]at f2
   rcases hor with k|k <;> rw[k]at f2 <;> cases f2
  rw[bk3 l n hm hnr]
  rw[b2 l (by omega),a2 l hm]at hor
  exact hg.fresh l n hor
 ·intro l o hl
  rcases kinds l o hl with ⟨i,p,h3,h4,h5,h6⟩|⟨h3,h4,h5⟩
  ·rw[(YQ hρ h6 (hG.obj i p (gat i p h3)) h5).2]
   rcases hside i p h3 with k|⟨l1,o1,k1,k2,k3⟩
   ·exact .inl (Nat.le_trans hg.size k)
   ·rw[<- k3]
    exact hg.own l1 o1 k2
  ·have:blk (μ.back μ2 ls L ext.length) l o=blk μ l o:=by simp only[blk,bk3 l _ h3 h4]
   rw[this]
   exact hg.own l o h5
 ·intro b hb hno
  rw[hG.frame b (Nat.lt_of_lt_of_le hb hg.size) ?_]
  ·exact hg.frame b hb hno
  ·intro k
   obtain⟨l1,o1,k1,k2,k3⟩:=hown _ k
   rcases hg.own l1 o1 k2 with m|m
   ·omega
   ·rw[k3]at m;exact hno m
 ·intro b cs hcs
  rcases hG.dom b cs hcs with k|k|k
  ·exact hg.dom b cs k
  ·exact .inr (.inl (Nat.le_trans hg.size k))
  ·obtain⟨l1,o1,k1,k2,k3⟩:=hown _ k
   rcases hg.own l1 o1 k2 with m|m
   ·rw[k3]at m;exact .inr (.inl m)
   ·rw[k3]at m;exact .inr (.inr m)
theorem a6q{ls:List Nat}{os os':List AObj}(hg:Good c μ Φ σ w)(hnd:ls.Nodup)(hls : ∀ (i l:Nat) o,ls[i]? = some l->os[i]? = some o->σ[l]? = some (.obj o))(hlen:os.length=ls.length)(hren:QY (fwd ls) os=some os'):
  Good (ZU (μ.ren ls) Φ (Yv os') w) (μ.ren ls) Φ (Yv os') w:=by
 obtain⟨e3,q3⟩:=UY hren
 have hρ : ∀ l i,fwd ls l=some i-> ∀ n z,μ l n=some z->μ.ren ls i n=some z:=fun l i hi n z hz=>by simp[Mu.ren,GH hi,hz]
 have hob : ∀ (i:Nat) (o':AObj),(Yv os')[i]? = some (.obj o')-> ∃ (l:Nat) (o:AObj),ls[i]? = some l∧σ[l]? = some (.obj o)∧o.ren (fwd ls)=some o':=by
  intro i o' ho'
  simp only[Yv,List.getElem?_map,Option.map_eq_some_iff]at ho'
  obtain⟨o1,ho1,e⟩:=ho'
  cases e
  have hi:i<os'.length:=(List.getElem?_eq_some_iff.1 ho1).1
  have hl:ls[i]? = some ls[i]:=List.getElem?_eq_getElem (by omega)
  have ho:os[i]? = some os[i]:=List.getElem?_eq_getElem (by omega)
  exact⟨_,_,hl,hls i _ _ hl ho,q3 i _ _ ho ho1⟩
 refine⟨hg.phi,?_,?_,?_,?_,rfl,rfl,rfl,Nat.le_refl _,fun _ _ _=>rfl,Zv.le.refl _,Mu.le.refl _,fun b cs h=>.inl h,hg.laid.mono hg.Φle⟩
 ·intro i o' ho
  obtain⟨l,o,hl,hσ,hr⟩:=hob i o' ho
  exact(YQ hρ (fun n=>by simp[Mu.ren,hl]) (hg.obj l o hσ) hr).1
 ·intro i j o1 o2 hij k1 k2
  obtain⟨l1,p1,m1,m2,m3⟩:=hob i o1 k1
  obtain⟨l2,p2,n1,n2,n3⟩:=hob j o2 k2
  rw[(YQ hρ (fun n=>by simp[Mu.ren,m1]) (hg.obj l1 p1 m2) m3).2,(YQ hρ (fun n=>by simp[Mu.ren,n1]) (hg.obj l2 p2 n2) n3).2]
  refine hg.apart l1 l2 p1 p2 ?_ m2 n2
  rintro rfl
  have hi:=(List.getElem?_eq_some_iff.1 m1).1
  have hj:=(List.getElem?_eq_some_iff.1 n1).1
  rw[List.getElem?_eq_getElem hi]at m1
  rw[List.getElem?_eq_getElem hj]at n1
  rw[Option.some.injEq]at m1 n1
  exact hij ((List.getElem_inj hnd).1 (m1.trans n1.symm))
 ·intro i n hor
  have:ls[i]? = none:=by
   have h:(Yv os')[i]? = none:=by
    rcases hor with h|h
    ·exact h
    ·simp only[Yv,List.getElem?_map,Option.map_eq_some_iff]at h
     obtain⟨q,hq,e⟩:=h
     cases e
   simp only[Yv,List.getElem?_map,Option.map_eq_none_iff,List.getElem?_eq_none_iff]at h
   rw[List.getElem?_eq_none_iff]
   omega
  simp[Mu.ren,this]
 ·intro i o' ho
  exact .inr ⟨i,o',ho,rfl⟩
theorem c5h{f:Nat}{pre:List AV->List AObj->Bool}{val:List AV->List AObj->AV×List AObj×List AObj}(hG:Z0 P f pre val){vs:Array Value}{args:List AV}(hg:Good c μ Φ σ w)(hv:RL μ Φ vs.toList args)
  (hr:(Ps L pre val args).run σ=some (x,σ')):Calls P f vs w fun e w'=> ∃ v,e = .returned v∧ZN c μ Φ σ' x v w':=by
 unfold Ps at hr
 obtain⟨acc,h1,h2,h3⟩:=a0d 64 hr (by simp) (by simp)
 clear hr
 simp only at h3
 generalize hlsd:acc.map (·.1)=ls at h2 h3
 generalize hosd:acc.map (·.2)=os at h3
 have hlen:os.length=ls.length:=by rw[<- hlsd,<- hosd];simp
 have hls : ∀ (i l:Nat) o,ls[i]? = some l->os[i]? = some o->σ[l]? = some (.obj o):=by
  intro i l o hl ho
  rw[<- hlsd,List.getElem?_map,Option.map_eq_some_iff]at hl
  rw[<- hosd,List.getElem?_map,Option.map_eq_some_iff]at ho
  obtain⟨p,hp,rfl⟩:=hl
  obtain⟨q,hq,rfl⟩:=ho
  rw[hp]at hq
  cases hq
  exact h1 p (List.mem_of_getElem? hp)
 split at h3
 ·rename_i args' objs' hargs hobjs
  obtain⟨hpre,h4⟩:=ZM h3
  generalize hval:val args' objs'=q at h4
  obtain⟨x0,os2,ext⟩:=q
  simp only at h4
  split at h4
  ·rename_i x' os2' ext' hx hos2 hext
   split at h4
   ·rename_i hl2
    obtain⟨k1,k2⟩:=hG args' objs' x0 os2 ext hpre hval
    have hg1:=a6q hg h2 hls hlen hobjs
    have hv1:RL (μ.ren ls) Φ vs.toList args':=Ea (fun l i hi n z hz=>by simp[Mu.ren,GH hi,hz]) hv hargs
    refine(k2 (μ.ren ls) Φ w vs hg1 hv1).mono ?_
    rintro e w' ⟨v,μ2,Φ2,rfl,m1,m2⟩
    have hz:(ls.zip os2').map (·.1)=ls:=by rw[List.map_fst_zip];omega
    obtain⟨σ1,n1,n2,n3⟩:=Oy h4 (by rw[hz];exact h2)
    obtain⟨σ2,o1,o2,o3⟩:=Ef n1
    obtain⟨rfl,rfl⟩:=Zp o1
    have eos:=(UY hos2).1
    have eob:=(UY hobjs).1
    obtain⟨r1,r2,r3⟩:=b7i (L:=L) hg h2 hls hlen hobjs m1 (by omega) hos2 hext
     (fun i l o hl ho=>n2 (l,o) (List.mem_of_getElem? (i:=i) (by rw[List.getElem?_zip_eq_some];exact⟨hl,ho⟩))) (fun l hl=>n3 l (by rw[hz];exact hl)) o2 o3
    exact⟨v,rfl,_,Φ2,r1,m1.Φle,r2,c6m r3 m2 hx⟩
   ·exact(Zg h4).elim
  ·exact(Zg h4).elim
 ·exact(Zg h3).elim
theorem RL.app{cs ds:Array Value}{xs ys:List AV}(h:RL μ Φ cs.toList xs)(k:RL μ Φ ds.toList ys):RL μ Φ (cs++ds).toList (xs++ys):=by
 rw[Array.toList_append]
 exact h.append k
theorem TN{T:ZA}(hT:ZX P T){g:Nat}{vs:Array Value}{args:List AV}(hg:Good c μ Φ σ w)(hv:RL μ Φ vs.toList args)(hr:(a3o T L g args).run σ=some (x,σ')):
  (∃ fn,P.funcs[g]? = some fn∧fn.body.isSome=true∧(fn.name == "runtime.NumGoroutine")=false)∧Calls P g vs w fun e w'=> ∃ v,e = .returned v∧ZN c μ Φ σ' x v w':=by
 unfold a3o at hr
 split at hr
 ·rename_i F F' hF
  exact⟨(hT g _ hF).1,b3q (hT g _ hF).2 hg hv hr⟩
 ·rename_i G G' hG
  exact⟨(hT g _ hG).1,c5h (hT g _ hG).2 hg hv hr⟩
 ·exact(Zg hr).elim
theorem a3z{T:ZA}(hT:ZX P T){o:Oper}{p:POp}(hp:UB P o.op=some p)(hg:Good c μ Φ σ w)(he:YE μ Φ a.tmps env)(hr:(Y7 T L env p).run σ=some (x,σ')):
  Wp P (execOp a.eval o) w (ZN c μ Φ σ' x):=by
 cases hc:p.isCall with
 | false=>
  refine c8x hp hc hg he ?_ (L:=L)
  cases p <;> first|exact hr|simp[POp.isCall]at hc
 | true=>
  cases p <;> simp[POp.isCall]at hc
  rename_i f xs
  obtain⟨dst,op,type,pos,after,guard⟩:=o
  simp only at hp
  -- only a call of a function value is translated so
  have hop : ∃ f' args ats,op = .call {callee:=.value f',args:=args,argTypes:=ats}∧ZV f'=some f∧Fu args=some xs:=by
   unfold UB at hp
   split at hp
   all_goals try simp only[Option.bind_eq_some_iff,Option.map_eq_some_iff,reduceCtorEq,and_false,exists_false]at hp
   all_goals first
    | (obtain⟨_,_,_,_,_,_,hp⟩:=hp;(repeat' split at hp) <;> simp[Option.bind_eq_some_iff,Option.map_eq_some_iff]at hp;done)
    | ((repeat' split at hp) <;> simp[Option.bind_eq_some_iff,Option.map_eq_some_iff]at hp;done)
    | skip
   rename_i cl
   obtain⟨callee,args,ats⟩:=cl
   unfold J5 at hp
   simp only at hp
   split at hp
   ·rename_i f'
    simp only[Option.bind_eq_some_iff,Option.map_eq_some_iff]at hp
    obtain⟨f2,hf,xs',hxs,e⟩:=hp
    cases e
    exact⟨f',args,ats,rfl,hf,hxs⟩
   all_goals ((repeat' split at hp) <;> simp[Option.bind_eq_some_iff,Option.map_eq_some_iff]at hp;done)
  obtain⟨f',args,ats,rfl,hf',hargs⟩:=hop
  have hf:=ZF he hf'
  have hxs:=BK he hargs
  simp only[Y7]at hr
  split at hr
  ·rename_i g hF
   rw[hF]at hf
   obtain⟨⟨fn,k1,k2,k3⟩,k4⟩:=TN hT hg hxs hr
   replace hf:=ZR hf
   generalize hq:a.eval f'=q at hf
   cases hf
   have e:(args.map a.eval)++ #[]=args.map a.eval:=by simp
   simp only[Wp,execOp,Sem.run_bind,resolve,hq,Deferred.ofValue,Sem.run_pure,Result.andThen_ok,invoke,Array.empty_append,e,XJ k1 k2 k3]
   exact k4
  ·rename_i g fst cap hF
   rw[hF]at hf
   generalize hq:a.eval f'=q at hf
   cases hf with
   | fn _ cs ds _ _ hn hm h k=>
    have h1:RL μ Φ cs.toList fst:=⟨by simpa using hn,fun j v x hv hx=>h j v x (by simpa using hv) hx⟩
    have h2:RL μ Φ ds.toList cap:=⟨by simpa using hm,fun j v x hv hx=>k j v x (by simpa using hv) hx⟩
    obtain⟨⟨fn,k1,k2,k3⟩,k4⟩:=TN hT hg ((h1.app hxs).app h2) hr
    simp only[Wp,execOp,Sem.run_bind,resolve,hq,Deferred.ofValue,Sem.run_pure,Result.andThen_ok,invoke,XJ k1 k2 k3]
    exact k4
  ·exact(Zg hr).elim
end
end Go.Pl
namespace Go.Pl
open Go.RowKit
def HM.runF{α:Type}:HM α->Zu->Option (α×Zu×List Nat×List Nat)
 | .ret a,σ=>some (a,σ,[],[])
 | .fail,_=>none
 | .get l k,σ=>match σ[l]? with
  | some (.obj o)=>((k o).runF σ).map fun(a,σ',R,W)=>(a,σ',l::R,W)
  | _=>none
 | .put l o k,σ=>match σ[l]? with
  | some (.obj _)=>(k.runF (σ.set l (.obj o))).map fun(a,σ',R,W)=>(a,σ',R,l::W)
  | _=>none
 | .new l o k,σ=>match σ[l]? with
  | some .fresh=>(k.runF (σ.set l (.obj o))).map fun(a,σ',R,W)=>(a,σ',R,l::W)
  | _=>none
 | .ask b k,σ=>(k b).runF σ
 | .req b k,σ=>match b with|true=>k.runF σ|false=>none
theorem HM.run_of_runF{α:Type}(m:HM α): ∀ {σ:Zu} {a:α} {σ':Zu} {R W:List Nat},m.runF σ=some (a,σ',R,W)->m.run σ=some (a,σ'):=by
 induction m with
 | ret a=>intro σ b σ' R W h;simp only[HM.runF,Option.some.injEq,Prod.mk.injEq]at h;simp[HM.run,h.1,h.2.1]
 | fail=>intro σ b σ' R W h;simp[HM.runF]at h
 | get l k ih=>
  intro σ b σ' R W h
  simp only[HM.runF]at h
  simp only[HM.run]
  split at h
  ·rename_i o ho
   rw[Option.map_eq_some_iff]at h
   obtain⟨⟨a1,σ1,R1,W1⟩,h1,h2⟩:=h
   simp only[Prod.mk.injEq]at h2
   obtain⟨rfl,rfl,_,_⟩:=h2
   try simp only[ho]
   exact ih o h1
  ·cases h
 | put l o k ih=>
  intro σ b σ' R W h
  simp only[HM.runF]at h
  simp only[HM.run]
  split at h
  ·rename_i o' ho
   rw[Option.map_eq_some_iff]at h
   obtain⟨⟨a1,σ1,R1,W1⟩,h1,h2⟩:=h
   simp only[Prod.mk.injEq]at h2
   obtain⟨rfl,rfl,_,_⟩:=h2
   try simp only[ho]
   exact ih h1
  ·cases h
 | new l o k ih=>
  intro σ b σ' R W h
  simp only[HM.runF]at h
  simp only[HM.run]
  split at h
  ·rename_i ho
   rw[Option.map_eq_some_iff]at h
   obtain⟨⟨a1,σ1,R1,W1⟩,h1,h2⟩:=h
   simp only[Prod.mk.injEq]at h2
   obtain⟨rfl,rfl,_,_⟩:=h2
   try simp only[ho]
   exact ih h1
  ·cases h
 | ask b k ih=>intro σ a σ' R W h;exact ih b h
 | req b k ih=>
  intro σ a σ' R W h
  cases b
  ·simp[HM.runF]at h
  ·exact ih h
theorem HM.local_{α:Type}(m:HM α): ∀ {σ:Zu} {a:α} {σ':Zu} {R W:List Nat},m.runF σ=some (a,σ',R,W) ->
  (∀ l,l ∉ W->σ'[l]? = σ[l]?)∧σ'.length=σ.length ∧
  ∀ τ:Zu,τ.length=σ.length->(∀ l,l∈R∨l∈W->τ[l]? = σ[l]?)-> ∃ τ',m.runF τ=some (a,τ',R,W)∧(∀ l,l∈W->τ'[l]? = σ'[l]?)∧(∀ l,l ∉ W->τ'[l]? = τ[l]?):=by
 induction m with
 | ret a=>
  intro σ b σ' R W h
  simp only[HM.runF,Option.some.injEq,Prod.mk.injEq]at h
  obtain⟨rfl,rfl,rfl,rfl⟩:=h
  exact⟨fun _ _=>rfl,rfl,fun τ _ _=>⟨τ,rfl,fun l hl=>by simp at hl,fun _ _=>rfl⟩⟩
 | fail=>intro σ b σ' R W h;simp[HM.runF]at h
 | get l k ih=>
  intro σ b σ' R W h
  simp only[HM.runF]at h
  split at h
  ·rename_i o ho
   rw[Option.map_eq_some_iff]at h
   obtain⟨⟨a1,σ1,R1,W1⟩,h1,h2⟩:=h
   simp only[Prod.mk.injEq]at h2
   obtain⟨rfl,rfl,rfl,rfl⟩:=h2
   obtain⟨k1,k2,k3⟩:=ih o h1
   refine⟨k1,k2,fun τ hτ hag=> ?_⟩
   obtain⟨τ',m1,m2,m3⟩:=k3 τ hτ (fun l' hl'=>hag l' (hl'.imp (fun h=>by simp[h]) id))
   refine⟨τ',?_,m2,m3⟩
   simp only[HM.runF]
   rw[hag l (.inl (by simp)),ho]
   simp[m1]
  ·cases h
 | put l o k ih=>
  intro σ b σ' R W h
  simp only[HM.runF]at h
  split at h
  ·rename_i o' ho
   rw[Option.map_eq_some_iff]at h
   obtain⟨⟨a1,σ1,R1,W1⟩,h1,h2⟩:=h
   simp only[Prod.mk.injEq]at h2
   obtain⟨rfl,rfl,rfl,rfl⟩:=h2
   obtain⟨k1,k2,k3⟩:=ih h1
   refine⟨fun l' hl'=> ?_,by simpa using k2,fun τ hτ hag=> ?_⟩
   ·simp only[List.mem_cons,not_or]at hl'
    rw[k1 l' hl'.2,Zx hl'.1]
   ·have hl0:=hag l (.inr (by simp))
    obtain⟨τ',m1,m2,m3⟩:=k3 (τ.set l (.obj o)) (by simpa using hτ) (fun l' hl'=>by
     by_cases e:l'=l
     ·subst e;rw[ZB (hl0.trans ho),ZB ho]
     ·rw[Zx e,Zx e]
      exact hag l' (hl'.imp id (fun h=>by simp[h])))
    refine⟨τ',?_,?_,?_⟩
    ·simp only[HM.runF]
     rw[hl0,ho]
     simp[m1]
    ·intro l' hl'
     by_cases hw:l'∈W1
     ·exact m2 l' hw
     ·simp only[List.mem_cons,hw,or_false]at hl'
      subst hl'
      rw[m3 l' hw,k1 l' hw,ZB (hl0.trans ho),ZB ho]
    ·intro l' hl'
     simp only[List.mem_cons,not_or]at hl'
     rw[m3 l' hl'.2,Zx hl'.1]
  ·cases h
 | new l o k ih=>
  intro σ b σ' R W h
  simp only[HM.runF]at h
  split at h
  ·rename_i ho
   rw[Option.map_eq_some_iff]at h
   obtain⟨⟨a1,σ1,R1,W1⟩,h1,h2⟩:=h
   simp only[Prod.mk.injEq]at h2
   obtain⟨rfl,rfl,rfl,rfl⟩:=h2
   obtain⟨k1,k2,k3⟩:=ih h1
   refine⟨fun l' hl'=> ?_,by simpa using k2,fun τ hτ hag=> ?_⟩
   ·simp only[List.mem_cons,not_or]at hl'
    rw[k1 l' hl'.2,Zx hl'.1]
   ·have hl0:=hag l (.inr (by simp))
    obtain⟨τ',m1,m2,m3⟩:=k3 (τ.set l (.obj o)) (by simpa using hτ) (fun l' hl'=>by
     by_cases e:l'=l
     ·subst e;rw[ZB (hl0.trans ho),ZB ho]
     ·rw[Zx e,Zx e]
      exact hag l' (hl'.imp id (fun h=>by simp[h])))
    refine⟨τ',?_,?_,?_⟩
    ·simp only[HM.runF]
     rw[hl0,ho]
     simp[m1]
    ·intro l' hl'
     by_cases hw:l'∈W1
     ·exact m2 l' hw
     ·simp only[List.mem_cons,hw,or_false]at hl'
      subst hl'
      rw[m3 l' hw,k1 l' hw,ZB (hl0.trans ho),ZB ho]
    ·intro l' hl'
     simp only[List.mem_cons,not_or]at hl'
     rw[m3 l' hl'.2,Zx hl'.1]
  ·cases h
 | ask b k ih=>intro σ a σ' R W h;exact ih b h
 | req b k ih=>
  intro σ a σ' R W h
  cases b
  ·simp[HM.runF]at h
  ·exact ih h
def SI(xs ys:List Nat):Bool:=xs.all fun x=> !ys.contains x
theorem JU{xs ys:List Nat}(h:SI xs ys=true){l:Nat}(h1:l∈xs)(h2:l∈ys):False:=by
 have:=List.all_eq_true.1 h l h1
 simp at this
 exact this h2
theorem HM.comm{α β:Type}{m:HM α}{n:HM β}{σ σ1 σ2:Zu}{a:α}{b:β}{R1 W1 R2 W2:List Nat}(h1:m.runF σ=some (a,σ1,R1,W1))(h2:n.runF σ1=some (b,σ2,R2,W2))
  (d1:SI W1 R2=true) (d2:SI W1 W2=true) (d3:SI R1 W2=true) : ∃ τ,n.runF σ=some (b,τ,R2,W2)∧m.runF τ=some (a,σ2,R1,W1):=by
 obtain⟨p1,p2,p3⟩:=HM.local_ m h1
 obtain⟨q1,q2,q3⟩:=HM.local_ n h2
 obtain⟨τ,t1,t2,t3⟩:=q3 σ p2.symm (fun l hl=>(p1 l (fun hw=>by
  rcases hl with hl|hl
  ·exact JU d1 hw hl
  ·exact JU d2 hw hl)).symm)
 have tl:=(HM.local_ n t1).2.1
 obtain⟨τ',u1,u2,u3⟩:=p3 τ tl (fun l hl=>t3 l (fun hw=>by
  rcases hl with hl|hl
  ·exact JU d3 hl hw
  ·exact JU d2 hl hw))
 refine⟨τ,t1,?_⟩
 have:τ'=σ2:=by
  apply List.ext_getElem?
  intro l
  by_cases hw1:l∈W1
  ·have hw2:l ∉ W2:=fun h=>JU d2 hw1 h
   rw[u2 l hw1,q1 l hw2]
  ·rw[u3 l hw1]
   by_cases hw2:l∈W2
   ·rw[t2 l hw2]
   ·rw[t3 l hw2,q1 l hw2,p1 l hw1]
 rw[<- this]
 exact u1
structure PI where
 dst:Option Nat
 op:POp
 L:Nat
 gd:Option (Nat×Bool)
def YM(env:List AV):Option (Nat×Bool)->Option Bool
 | none=>some true
 | some (s,b)=>match env[s]? with
  | some (.pv (.bool v))=>some (v==b)
  | some .undef=>some false
  | _=>none
def Z6(env:List AV)(d:Option Nat)(v:AV):List AV:=
 match d with
 | some d=>env.set d v
 | none=>env
def Xa(T:ZA)(base:Nat)(p:PI)(st:St):Option (St×List Nat×List Nat):=
 match YM st.env p.gd with
 | none=>none
 | some false=>some (⟨Z6 st.env p.dst .undef,st.heap⟩,[],[])
 | some true=>((Y7 T (base+p.L) st.env p.op).runF st.heap).map fun(v,σ,R,W)=>(⟨Z6 st.env p.dst v,σ⟩,R,W)
def IOp.slot:IOp->List Nat
 | .t n=>[n]
 | .c _=>[]
def JA(x:Option IOp):List Nat:=x.toList.flatMap IOp.slot
def POp.slots:POp->List Nat
 | .mv x | .box _ x | .load _ _ x | .nilchk x | .un _ x | .conv _ x | .faddr _ x | .field _ _ _ x | .extract x _ | .len _ x | .strid x | .sbytes x | .sslice x | .bstr x=>x.slot
 | .pick a b c | .mapupd _ a b c=>a.slot++b.slot++c.slot
 | .alloc _ | .mkmap=>[]
 | .build _ ps=>ps.flatMap fun q=>q.2.2.slot
 | .bslice _ _ _ _ ps=>ps.flatMap fun q=>q.2.slot
 | .store _ a b | .bin _ _ a b | .mm _ a b | .mksl _ _ _ _ a b | .iaddr _ a b | .index a b | .indexA _ _ a b | .iaddrA _ _ a b | .lookup _ _ _ _ a b | .append _ _ _ a b | .appz _ _ _ _ a b | .apps _ _ _ a b=>a.slot++b.slot
 | .mkfn _ xs ys=>(xs++ys).flatMap IOp.slot
 | .strslc x lo hi=>x.slot++JA lo++JA hi
 | .slc _ x lo hi mx=>x.slot++JA lo++JA hi++JA mx
 | .call f xs=>f.slot++xs.flatMap IOp.slot
def PI.looks(p:PI):List Nat:=p.op.slots++(match p.gd with|some (s,_)=>[s]|none=>[])
theorem ZT{env:List AV}{d:Option Nat}{v:AV}{x:IOp}(h : ∀ n,d=some n->n ∉ x.slot):ev (Z6 env d v) x=ev env x:=by
 cases d with
 | none=>rfl
 | some d=>
  cases x with
  | c p=>rfl
  | t n=>
   have hne:d≠n:=by
    have:=h d rfl
    simpa [IOp.slot]using this
   simp[ev,Z6,List.getD,hne]
theorem Hw{env:List AV}{d:Option Nat}{v:AV}{m:Nat}{x:Option IOp}(h : ∀ n,d=some n->n ∉ JA x):Sl (Z6 env d v) m x=Sl env m x:=by
 cases x with
 | none=>rfl
 | some x=>
  simp only[Sl]
  rw[ZT (fun n hn=>by have:=h n hn;simpa [JA]using this)]
theorem P9{env:List AV}{d:Option Nat}{v:AV}{xs:List IOp}(h : ∀ n,d=some n->n ∉ xs.flatMap IOp.slot):xs.map (ev (Z6 env d v))=xs.map (ev env):=by
 apply List.map_congr_left
 intro x hx
 exact ZT (fun n hn hs=>h n hn (List.mem_flatMap.2 ⟨x,hx,hs⟩))
theorem a3y{T:ZA}{L:Nat}{env:List AV}{d:Option Nat}{v:AV}{p:POp}(h : ∀ n,d=some n->n ∉ p.slots):Y7 T L (Z6 env d v) p=Y7 T L env p:=by
 cases p with
 | build z ps=>
  have e:(ps.map fun(x:Nat×Nat×IOp)=>(x.1,x.2.1,ev (Z6 env d v) x.2.2))=ps.map fun(x:Nat×Nat×IOp)=>(x.1,x.2.1,ev env x.2.2):=by
   apply List.map_congr_left
   intro q hq
   rw[ZT (fun n hn hs=>h n hn (List.mem_flatMap.2 ⟨q,hq,hs⟩))]
  simp only[Y7,YF]
  rw[e]
 | bslice ty sz n z ps=>
  have e:(ps.map fun(x:Nat×IOp)=>ev (Z6 env d v) x.2)=ps.map fun(x:Nat×IOp)=>ev env x.2:=by
   apply List.map_congr_left
   intro q hq
   rw[ZT (fun n hn hs=>h n hn (List.mem_flatMap.2 ⟨q,hq,hs⟩))]
  simp only[Y7,YF]
  rw[e]
 | mkfn f xs ys=>
  have h1:xs.map (ev (Z6 env d v))=xs.map (ev env):=P9 (fun n hn hs=>h n hn (by simp only[POp.slots,List.flatMap_append,List.mem_append];exact .inl hs))
  have h2:ys.map (ev (Z6 env d v))=ys.map (ev env):=P9 (fun n hn hs=>h n hn (by simp only[POp.slots,List.flatMap_append,List.mem_append];exact .inr hs))
  simp only[Y7,YF]
  cases xs with
  | nil=>
   cases ys with
   | nil=>rfl
   | cons y ys=>show HM.ret (AV.fn f _ _)=HM.ret (AV.fn f _ _);rw[h1,h2]
  | cons x xs=>show HM.ret (AV.fn f _ _)=HM.ret (AV.fn f _ _);rw[h1,h2]
 | strslc x lo hi=>
  simp only[POp.slots,List.mem_append,not_or]at h
  simp only[Y7,YF]
  rw[ZT (fun n hn=>(h n hn).1.1)]
  simp only[Hw (fun n hn=>(h n hn).1.2),Hw (fun n hn=>(h n hn).2)]
 | slc sz x lo hi mx=>
  simp only[POp.slots,List.mem_append,not_or]at h
  simp only[Y7,YF]
  rw[ZT (fun n hn=>(h n hn).1.1.1)]
  simp only[Hw (fun n hn=>(h n hn).1.1.2),Hw (fun n hn=>(h n hn).1.2)]
  cases mx with
  | none=>rfl
  | some m=>
   have : ∀ k,Sl (Z6 env d v) k (some m)=Sl env k (some m):=fun k=>Hw (fun n hn=>(h n hn).2)
   simp only[this]
 | call f xs=>
  simp only[POp.slots,List.mem_append,not_or]at h
  simp only[Y7]
  rw[ZT (fun n hn=>(h n hn).1),P9 (fun n hn=>(h n hn).2)]
 | pick a b c=>
  simp only[POp.slots,List.mem_append,not_or]at h
  simp only[Y7,YF]
  rw[ZT (fun n hn=>(h n hn).1.1),ZT (x:=b) (fun n hn=>(h n hn).1.2),ZT (x:=c) (fun n hn=>(h n hn).2)]
 | mapupd st a b c=>
  simp only[POp.slots,List.mem_append,not_or]at h
  simp only[Y7,YF]
  rw[ZT (fun n hn=>(h n hn).1.1),ZT (x:=b) (fun n hn=>(h n hn).1.2),ZT (x:=c) (fun n hn=>(h n hn).2)]
 | alloc z=>rfl
 | mkmap=>rfl
 | store n a b=>
  simp only[POp.slots,List.mem_append,not_or]at h
  simp only[Y7,YF]
  rw[ZT (x:=a) (fun n hn=>(h n hn).1),ZT (x:=b) (fun n hn=>(h n hn).2)]
 | bin kd op a b=>
  simp only[POp.slots,List.mem_append,not_or]at h
  simp only[Y7,YF]
  rw[ZT (x:=a) (fun n hn=>(h n hn).1),ZT (x:=b) (fun n hn=>(h n hn).2)]
 | mm mx a b=>
  simp only[POp.slots,List.mem_append,not_or]at h
  simp only[Y7,YF]
  rw[ZT (x:=a) (fun n hn=>(h n hn).1),ZT (x:=b) (fun n hn=>(h n hn).2)]
 | mksl ty sz by_ z a b=>
  simp only[POp.slots,List.mem_append,not_or]at h
  simp only[Y7,YF]
  rw[ZT (x:=a) (fun n hn=>(h n hn).1),ZT (x:=b) (fun n hn=>(h n hn).2)]
 | iaddr sz a b=>
  simp only[POp.slots,List.mem_append,not_or]at h
  simp only[Y7,YF]
  rw[ZT (x:=a) (fun n hn=>(h n hn).1),ZT (x:=b) (fun n hn=>(h n hn).2)]
 | index a b=>
  simp only[POp.slots,List.mem_append,not_or]at h
  simp only[Y7,YF]
  rw[ZT (x:=a) (fun n hn=>(h n hn).1),ZT (x:=b) (fun n hn=>(h n hn).2)]
 | indexA n sz a b=>
  simp only[POp.slots,List.mem_append,not_or]at h
  simp only[Y7,YF]
  rw[ZT (x:=a) (fun n hn=>(h n hn).1),ZT (x:=b) (fun n hn=>(h n hn).2)]
 | iaddrA n sz a b=>
  simp only[POp.slots,List.mem_append,not_or]at h
  simp only[Y7,YF]
  rw[ZT (x:=a) (fun n hn=>(h n hn).1),ZT (x:=b) (fun n hn=>(h n hn).2)]
 | lookup st sh z ok a b=>
  simp only[POp.slots,List.mem_append,not_or]at h
  simp only[Y7,YF]
  rw[ZT (x:=a) (fun n hn=>(h n hn).1),ZT (x:=b) (fun n hn=>(h n hn).2)]
 | apps ty sz by_ a b=>
  simp only[POp.slots,List.mem_append,not_or]at h
  simp only[Y7,YF]
  rw[ZT (x:=a) (fun n hn=>(h n hn).1),ZT (x:=b) (fun n hn=>(h n hn).2)]
 | appz ty sz by_ z a b=>
  simp only[POp.slots,List.mem_append,not_or]at h
  simp only[Y7,YF]
  rw[ZT (x:=a) (fun n hn=>(h n hn).1),ZT (x:=b) (fun n hn=>(h n hn).2)]
 | append ty sz by_ a b=>
  simp only[POp.slots,List.mem_append,not_or]at h
  simp only[Y7,YF]
  rw[ZT (x:=a) (fun n hn=>(h n hn).1),ZT (x:=b) (fun n hn=>(h n hn).2)]
 | _=>
  simp only[POp.slots]at h
  simp only[Y7,YF]
  rw[ZT h]
end Go.Pl
