/-
  Texts of mine that belong together (packed by pack.py), for every input: Glob, PlA, PlB, PlC, PlD, PlE, PlF, PlG, PlH, PlI, PlJ, PlK, PlL, PlM, PlNx, PlN, PlV, PlW, PlO, PlP, PlQ.
-/
import Derived.Below
import Derived.Laws.CopyRow
import Derived.Laws.Concat
import Derived.Laws.AppendOwn
import Derived.Laws.MakeOwn
import Derived.WalkSpells
import Derived.Laws.StructEq
import Derived.ArgAppend
import Derived.Lib.AppendStr
import Derived.Lib.ConvBytes
import Derived.Laws.BytesString
import Derived.Laws.BytesArg
import Derived.Laws.IdiomStrings
import Derived.Orders
set_option linter.unusedVariables false
set_option linter.unusedSimpArgs false
namespace Go.Pl
def Sc(cs:Array Value):Prop:= ∃ v,cs[0]? = some v∧(v = .nilIface ∨ ∃ t p,v = .iface t p)
def AX:Array Value:=((List.range 20).map fun i=>Value.int .u64 ((10 ^ i:Nat):Int)).toArray
structure GlobOK (Φ:Nat->Option (Array Value)):Prop where
 syn : ∃ cs,Φ 1=some cs∧Sc cs
 rng : ∃ cs,Φ 2=some cs∧Sc cs
 pow:Φ 3=some AX
 mx : ∃ cs m,Φ 0=some cs∧cs[0]? = some (Value.int .i64 m)
theorem GlobOK.mono{Φ Φ':Nat->Option (Array Value)}(h:GlobOK Φ)(k : ∀ b cs,Φ b=some cs->Φ' b=some cs):GlobOK Φ':=by
 obtain⟨⟨a,h1,h2⟩,⟨b,h3,e⟩,h5,d,m,h6,h7⟩:=h
 exact⟨⟨a,k _ _ h1,h2⟩,⟨b,k _ _ h3,e⟩,k _ _ h5,d,m,k _ _ h6,h7⟩
open Go.RowKit
inductive PV where
 | bool (b:Bool)|int (k:IntKind) (n:Int)|str (s:List UInt8)
 | sl (sz:Nat) (t:Bool) (xs:List PV)
 | agg (xs:List PV)|tup (xs:List PV)
 | nilp|nilmap|nilfn|nili|ifc
 | fn (f:Nat)
 | rptr (xs:List PV)
 | raw (v:Value)
 deriving Inhabited
inductive AV where
 | pv (p:PV)|junk|undef
 | agg (xs:List AV)|tup (xs:List AV)
 | ptr (l o:Nat)|row (l n lo hi:Nat)|eptr (l n i o:Nat)|map (l:Nat)
 | fn (f:Nat) (fst cap:List AV)
 | yld (l:Nat)
 deriving Inhabited
inductive AObj where
 | box (xs:List AV)
 | row (fz:Bool) (ty sz:Nat) (xs:List PV)
 | map (es:List (PV×PV))
 deriving Inhabited
inductive Slot where
 | fresh|dead|obj (o:AObj)
 deriving Inhabited
abbrev Zw:=List Slot
inductive HM (α:Type) where
 | ret (a:α)
 | fail
 | get (l:Nat) (k:AObj->HM α)
 | put (l:Nat) (o:AObj) (k:HM α)
 | new (l:Nat) (o:AObj) (k:HM α)
 | ask (b:Bool) (k:Bool->HM α)
 | req (b:Bool) (k:HM α)
def HM.bind{α β:Type}:HM α->(α->HM β)->HM β
 | .ret a,f=>f a
 | .fail,_=>.fail
 | .get l k,f=>.get l fun o=>(k o).bind f
 | .put l o k,f=>.put l o (k.bind f)
 | .new l o k,f=>.new l o (k.bind f)
 | .ask b k,f=>.ask b fun d=>(k d).bind f
 | .req b k,f=>.req b (k.bind f)
def HM.run{α:Type}:HM α->Zw->Option (α×Zw)
 | .ret a,σ=>some (a,σ)
 | .fail,_=>none
 | .get l k,σ=>match σ[l]? with|some (.obj o)=>(k o).run σ|_=>none
 | .put l o k,σ=>match σ[l]? with|some (.obj _)=>k.run (σ.set l (.obj o))|_=>none
 | .new l o k,σ=>match σ[l]? with|some .fresh=>k.run (σ.set l (.obj o))|_=>none
 | .ask b k,σ=>(k b).run σ
 | .req b k,σ=>match b with|true=>k.run σ|false=>none
def HM.ofOpt{α:Type}:Option α->HM α
 | some a=>.ret a
 | none=>.fail
theorem HM.run_bind{α β:Type}(m:HM α)(f:α->HM β): ∀ σ,(m.bind f).run σ=(m.run σ).bind fun p=>(f p.1).run p.2:=by
 induction m with
 | ret a=>intro σ;rfl
 | fail=>intro σ;rfl
 | get l k ih=>intro σ;simp only[HM.bind,HM.run];split <;> simp_all
 | put l o k ih=>intro σ;simp only[HM.bind,HM.run];split <;> simp_all
 | new l o k ih=>intro σ;simp only[HM.bind,HM.run];split <;> simp_all
 | ask b k ih=>intro σ;simp only[HM.bind,HM.run];exact ih b σ
 | req b k ih=>intro σ;cases b <;> simp_all[HM.bind,HM.run]
def PV.cells:PV->List PV
 | .agg xs=>xs
 | p=>[p]
def AV.cells:AV->List AV
 | .pv (.agg xs)=>xs.map .pv
 | .agg xs=>xs
 | x=>[x]
def flat(xs:List PV):List PV:=xs.flatMap PV.cells
abbrev ZM:=Nat->Option (Array Value)
abbrev Mu:=Nat->Nat->Option (Nat×Nat×Nat)
inductive RP (Φ:ZM):Value->PV->Prop
 | bool (b:Bool):RP Φ (.bool b) (.bool b)
 | int (k:IntKind) (n:Int):RP Φ (.int k n) (.int k n)
 | str (s:ByteArray):RP Φ (.string s) (.str s.data.toList)
 | sl0 (a:Option Addr) (c sz:Nat) (t:Bool) (h:t=true->c=0):RP Φ (.slice a 0 c) (.sl sz t [])
 | sl (b off:Nat) (cs:Array Value) (c sz:Nat) (t:Bool) (xs:List PV) (u:Nat->Value) (hb:Φ b=some cs) (hc:xs.length<=c) (ht:t=true->c=xs.length)
   (hs : ∀ x∈xs,x.cells.length=sz) (hu : ∀ (j:Nat) p,(flat xs)[j]? = some p->cs[off+j]? = some (u j)∧(u j).oneCell'=true) (hr : ∀ (j:Nat) p,(flat xs)[j]? = some p->RP Φ (u j) p) :
   RP Φ (.slice (some ⟨b,off,none⟩) xs.length c) (.sl sz t xs)
 | agg (cs:Array Value) (xs:List PV) (hn:cs.size=xs.length) (ho : ∀ v∈cs,v.oneCell'=true) (h : ∀ (j:Nat) v x,cs[j]? = some v->xs[j]? = some x->RP Φ v x):RP Φ (.agg cs) (.agg xs)
 | tup (cs:Array Value) (xs:List PV) (hn:cs.size=xs.length) (h : ∀ (j:Nat) v x,cs[j]? = some v->xs[j]? = some x->RP Φ v x):RP Φ (.tuple cs) (.tup xs)
 | nilp:RP Φ (.pointer none) .nilp
 | nilmap:RP Φ (.map none) .nilmap
 | nilfn:RP Φ .nilFunc .nilfn
 | nili:RP Φ .nilIface .nili
 | ifc (t:TypeId) (v:Value):RP Φ (.iface t v) .ifc
 | fn (f:Nat):RP Φ (.func (.func f) #[] #[]) (.fn f)
 | rptr (b off:Nat) (cs:Array Value) (xs:List PV) (u:Nat->Value) (hb:Φ b=some cs) (hu : ∀ (j:Nat) p,xs[j]? = some p->cs[off+j]? = some (u j)∧(u j).oneCell'=true) (hr : ∀ (j:Nat) p,xs[j]? = some p->RP Φ (u j) p) :
   RP Φ (.pointer (some ⟨b,off,none⟩)) (.rptr xs)
 | raw (v:Value) (h:v.oneCell'=true):RP Φ v (.raw v)
inductive R (μ:Mu) (Φ:ZM):Value->AV->Prop
 | pv (v:Value) (p:PV) (h:RP Φ v p):R μ Φ v (.pv p)
 | junk (v:Value):R μ Φ v .junk
 | undef:R μ Φ undef .undef
 | agg (cs:Array Value) (xs:List AV) (hn:cs.size=xs.length) (ho : ∀ v∈cs,v.oneCell'=true) (h : ∀ (j:Nat) v x,cs[j]? = some v->xs[j]? = some x->R μ Φ v x):R μ Φ (.agg cs) (.agg xs)
 | tup (cs:Array Value) (xs:List AV) (hn:cs.size=xs.length) (h : ∀ (j:Nat) v x,cs[j]? = some v->xs[j]? = some x->R μ Φ v x):R μ Φ (.tuple cs) (.tup xs)
 | ptr (l o B C S:Nat) (h:μ l 0=some (B,C,S)):R μ Φ (.pointer (some ⟨B,o,none⟩)) (.ptr l o)
 | row (l n lo hi B C S:Nat) (a:Option Addr) (h:μ l n=some (B,C,S)) (h1:lo<=hi) (h2:hi<=n) (h3:n<=C) (ha:lo<hi∨lo=0->a=some ⟨B,lo*S,none⟩):R μ Φ (.slice a (hi - lo) (C - lo)) (.row l n lo hi)
 | eptr (l n i o B C S:Nat) (h:μ l n=some (B,C,S)):R μ Φ (.pointer (some ⟨B,i*S+o,none⟩)) (.eptr l n i o)
 | map (l B C S:Nat) (h:μ l 0=some (B,C,S)):R μ Φ (.map (some B)) (.map l)
 | fn (f:Nat) (cs ds:Array Value) (xs ys:List AV) (hn:cs.size=xs.length) (hm:ds.size=ys.length) (h : ∀ (j:Nat) v x,cs[j]? = some v->xs[j]? = some x->R μ Φ v x) (k : ∀ (j:Nat) v x,ds[j]? = some v->ys[j]? = some x->R μ Φ v x) :
   R μ Φ (.func (.func f) cs ds) (.fn f xs ys)
 | yld (l:Nat):R μ Φ (.func (.yield l) #[] #[]) (.yld l)
def ZM.le(Φ Φ':ZM):Prop:= ∀ b cs,Φ b=some cs->Φ' b=some cs
def Mu.le(μ μ':Mu):Prop:= ∀ l n x,μ l n=some x->μ' l n=some x
theorem ZM.le.refl(Φ:ZM):Φ.le Φ:=fun _ _ h=>h
theorem ZM.le.trans{a b c:ZM}(h:a.le b)(k:b.le c):a.le c:=fun x y e=>k _ _ (h _ _ e)
theorem Mu.le.refl(μ:Mu):μ.le μ:=fun _ _ _ h=>h
theorem Mu.le.trans{a b c:Mu}(h:a.le b)(k:b.le c):a.le c:=fun x y z e=>k _ _ _ (h _ _ _ e)
theorem RP.mono{Φ Φ':ZM}(e:Φ.le Φ'){v:Value}{p:PV}(h:RP Φ v p):RP Φ' v p:=by
 induction h with
 | bool b=>exact .bool b
 | int k n=>exact .int k n
 | str s=>exact .str s
 | sl0 a c sz t h=>exact .sl0 a c sz t h
 | sl b off cs c sz t xs u hb hc ht hs hu hr ih=>exact .sl b off cs c sz t xs u (e _ _ hb) hc ht hs hu ih
 | agg cs xs hn ho h ih=>exact .agg cs xs hn ho ih
 | tup cs xs hn h ih=>exact .tup cs xs hn ih
 | nilp=>exact .nilp
 | nilmap=>exact .nilmap
 | nilfn=>exact .nilfn
 | nili=>exact .nili
 | ifc t v=>exact .ifc t v
 | fn f=>exact .fn f
 | rptr b off cs xs u hb hu hr ih=>exact .rptr b off cs xs u (e _ _ hb) hu ih
 | raw v h=>exact .raw v h
theorem R.mono{μ μ':Mu}{Φ Φ':ZM}(b:μ.le μ')(e:Φ.le Φ'){v:Value}{x:AV}(h:R μ Φ v x):R μ' Φ' v x:=by
 induction h with
 | pv v p h=>exact .pv v p (h.mono e)
 | junk v=>exact .junk v
 | undef=>exact .undef
 | agg cs xs hn ho h ih=>exact .agg cs xs hn ho ih
 | tup cs xs hn h ih=>exact .tup cs xs hn ih
 | ptr l o B C S h=>exact .ptr l o B C S (b _ _ _ h)
 | row l n lo hi B C S a h h1 h2 h3 ha=>exact .row l n lo hi B C S a (b _ _ _ h) h1 h2 h3 ha
 | eptr l n i o B C S h=>exact .eptr l n i o B C S (b _ _ _ h)
 | map l B C S h=>exact .map l B C S (b _ _ _ h)
 | fn f cs ds xs ys hn hm h k ih1 ih2=>exact .fn f cs ds xs ys hn hm ih1 ih2
 | yld l=>exact .yld l
def RL(μ:Mu)(Φ:ZM)(cs:List Value)(xs:List AV):Prop:=cs.length=xs.length∧ ∀ (j:Nat) v x,cs[j]? = some v->xs[j]? = some x->R μ Φ v x
def XW(Φ:ZM)(cs:List Value)(xs:List PV):Prop:=cs.length=xs.length∧ ∀ (j:Nat) v x,cs[j]? = some v->xs[j]? = some x->RP Φ v x
def YM(cs:List Value):Prop:= ∀ v∈cs,v.oneCell'=true
def SC(b:Array MapEntry)(a:Nat):Prop:=(∀ x∈b.toList,x.born<a)∧(b.toList.map (·.born)).Nodup
def Wm(w:World)(B:Nat)(cs:Array Value)(ty n C:Nat):Prop:= ∃ z,w.heap[B]? = some (.cells cs ty z)∧(z=(0,0)∨ty=5∧cs.size<=z.1)
theorem Wm.eq{w w':World}{B:Nat}{cs:Array Value}{ty n C:Nat}(h:Wm w B cs ty n C)(e:w'.heap[B]? = w.heap[B]?):Wm w' B cs ty n C:=by
 obtain⟨z,h1,h2⟩:=h
 exact⟨z,e.trans h1,h2⟩
theorem Wm.of{w:World}{B:Nat}{cs:Array Value}{ty n C:Nat}(h:w.heap[B]? = some (.cells cs ty (0,0))):Wm w B cs ty n C:=⟨_,h,.inl rfl⟩
theorem Wm.other{w:World}{B:Nat}{cs:Array Value}{ty n C:Nat}(h:Wm w B cs ty n C)(ht:ty≠5):w.heap[B]? = some (.cells cs ty (0,0)):=by
 obtain⟨z,h1,h2⟩:=h
 rcases h2 with rfl|⟨h3,_⟩
 ·exact h1
 ·exact absurd h3 ht
def Ur(μ:Mu)(Φ:ZM)(w:World)(l:Nat):AObj->Prop
 | .box xs=> ∃ B C S T cs,μ l 0=some (B,C,S)∧w.heap[B]? = some (.cells cs T (0,0))∧RL μ Φ cs.toList xs∧YM cs.toList∧Φ B=none
 | .row fz ty sz xs=> ∃ B C cs,μ l xs.length=some (B,C,sz)∧(∀ n,xs.length<n->μ l n=none)∧Wm w B cs ty xs.length C∧cs.size=C*sz∧xs.length<=C∧C<=maxLen∧(∀ x∈xs,x.cells.length=sz) ∧
   XW Φ (cs.toList.take (xs.length*sz)) (flat xs)∧YM (cs.toList.take (xs.length*sz))∧Φ B=(if fz then some cs else none)
 | .map es=> ∃ B C S b a,μ l 0=some (B,C,S)∧w.heap[B]? = some (.map b a)∧b.size=es.length ∧
   (∀ (j:Nat) e p,b[j]? = some e->es[j]? = some p->RP Φ e.key p.1∧RP Φ e.val p.2)∧Φ B=none∧SC b a
def blk(μ:Mu)(l:Nat)(o:AObj):Nat:=
 match μ l (match o with | .row _ _ _ xs=>xs.length|_=>0)with
 | some (B,_,_)=>B
 | none=>0
def WH(Φ:ZM)(w:World):Prop:= ∀ b cs,Φ b=some cs-> ∃ T fz,w.heap[b]? = some (.cells cs T fz)
structure Ctx where
 w0:World
 own:Nat->Prop
 Φ0:ZM
 μ0:Mu
structure Good (c:Ctx) (μ:Mu) (Φ:ZM) (σ:Zw) (w:World):Prop where
 phi:WH Φ w
 obj : ∀ l o,σ[l]? = some (.obj o)->Ur μ Φ w l o
 apart : ∀ l l' o o',l≠l'->σ[l]? = some (.obj o)->σ[l']? = some (.obj o')->blk μ l o≠blk μ l' o'
 fresh : ∀ l n,(σ[l]? = none∨σ[l]? = some .fresh)->μ l n=none
 own : ∀ l o,σ[l]? = some (.obj o)->c.w0.heap.size<=blk μ l o∨c.own (blk μ l o)
 os:w.os=c.w0.os
 tape:w.tape=c.w0.tape
 output:w.output=c.w0.output
 size:c.w0.heap.size<=w.heap.size
 frame : ∀ b,b<c.w0.heap.size-> ¬ c.own b->w.heap[b]? = c.w0.heap[b]?
 Φle:c.Φ0.le Φ
 μle:c.μ0.le μ
 dom : ∀ b cs,Φ b=some cs->c.Φ0 b=some cs∨c.w0.heap.size<=b∨c.own b
 laid:GlobOK c.Φ0
structure St where
 env:List AV
 heap:Zw
def YI(μ:Mu)(Φ:ZM)(tmps:Array Value)(env:List AV):Prop:=RL μ Φ tmps.toList env
def XL(c:Ctx)(st:St)(a:Act)(w:World):Prop:=
 ∃ μ Φ,Good c μ Φ st.heap w∧YI μ Φ a.tmps st.env∧a.defers=[]
section
inductive IOp where
 | t (n:Nat)|c (p:PV)
 deriving Inhabited
def ev(env:List AV):IOp->AV
 | .t n=>env.getD n .undef
 | .c p=>.pv p
inductive Kd where
 | num|bool|ptr|ifc|agg (ks:List Nat)
 deriving Inhabited,DecidableEq
inductive Sh where
 | int (k:IntKind)|str|bool|sl (sz:Nat)|any
 deriving Inhabited
def PV.asInt:PV->Int | .int _ n=>n|_=>0
def PV.asStr:PV->List UInt8 | .str s=>s|_=>[]
def PV.asBool:PV->Bool | .bool b=>b|_=>false
def PV.asXs:PV->List PV | .sl _ _ xs=>xs|_=>[]
def PV.asT:PV->Bool | .sl _ t _=>t|_=>false
def Sh.fit:Sh->PV->Bool
 | .int k,.int k' _=>k==k'
 | .str,.str _=>true
 | .bool,.bool _=>true
 | .sl sz,.sl sz' _ xs=>sz'==sz||xs.isEmpty
 | .any,_=>true
 | _,_=>false
def Sh.co:Sh->PV->PV
 | .int k,p=>.int k p.asInt
 | .str,p=>.str p.asStr
 | .bool,p=>.bool p.asBool
 | .sl sz,p=>.sl sz p.asT p.asXs
 | .any,p=>p
inductive POp where
 | mv (x:IOp)
 | pick (c a b:IOp)
 | box (n:Nat) (x:IOp)
 | alloc (z:PV)
 | build (z:List PV) (ps:List (Nat×Nat×IOp))
 | bslice (ty sz n:Nat) (z:PV) (ps:List (Nat×IOp))
 | load (ag:Bool) (shs:List Sh) (x:IOp)
 | store (n:Nat) (x v:IOp)
 | nilchk (x:IOp)
 | bin (kd:Kd) (op:BinOp) (x y:IOp)
 | mm (mx:Bool) (x y:IOp)
 | un (op:UnOp) (x:IOp)
 | conv (k:IntKind) (x:IOp)
 | mkfn (f:Nat) (fst cap:List IOp)
 | mkmap
 | mksl (ty sz by_:Nat) (z:PV) (l c:IOp)
 | strslc (x:IOp) (lo hi:Option IOp)
 | slc (sz:Nat) (x:IOp) (lo hi mx:Option IOp)
 | faddr (off:Nat) (x:IOp)
 | field (ag:Bool) (off n:Nat) (x:IOp)
 | iaddr (sz:Nat) (x i:IOp)
 | index (x i:IOp)
 | lookup (st:Bool) (sh:Sh) (z:PV) (ok:Bool) (m k:IOp)
 | mapupd (st:Bool) (m k v:IOp)
 | extract (x:IOp) (i:Nat)
 | len (k:Nat) (x:IOp)
 | strid (x:IOp)
 | append (ty sz by_:Nat) (x y:IOp)
 | appz (ty sz by_:Nat) (z:PV) (x y:IOp)
 | apps (ty sz by_:Nat) (x y:IOp)
 | sbytes (x:IOp)
 | sslice (x:IOp)
 | bstr (x:IOp)
 | indexA (n sz:Nat) (x i:IOp)
 | iaddrA (n sz:Nat) (x i:IOp)
 | call (f:IOp) (xs:List IOp)
 deriving Inhabited
inductive Den where
 | pure (pre:List PV->Bool) (val:List PV->PV)
 | own (pre:List AV->List AObj->Bool) (val:List AV->List AObj->AV×List AObj×List AObj)
abbrev ZC:=Nat->Option Den
mutual
def frz:AV->HM PV
 | .pv p=>.ret p
 | .row l n lo hi=>.get l fun
  | .row _ ty sz xs=>HM.req (xs.length==n) (.put l (.row true ty sz xs) (.ret (.sl sz false ((xs.take hi).drop lo))))
  | _=>.fail
 | .agg xs=>(VL xs).bind fun ps=>.ret (.agg ps)
 | .tup xs=>(VL xs).bind fun ps=>.ret (.tup ps)
 | .fn f [] []=>.ret (.fn f)
 | _=>.fail
def VL:List AV->HM (List PV)
 | []=>.ret []
 | x::xs=>(frz x).bind fun p=>(VL xs).bind fun ps=>.ret (p::ps)
end
def AV.one:AV->Bool
 | .pv (.agg _) | .pv (.tup _) | .agg _ | .tup _ | .junk | .undef=>false
 | _=>true
def PV.one:PV->Bool
 | .agg _ | .tup _=>false
 | _=>true
def AV.cellsOk:AV->Bool
 | .pv (.tup _) | .tup _ | .junk | .undef=>false
 | _=>true
def PV.cellsOk:PV->Bool
 | .tup _=>false
 | _=>true
def a5a:List AV->Option (List PV)
 | []=>some []
 | .pv p::xs=>(a5a xs).map (p:: ·)
 | _::_=>none
def a6l(xs:List AV):AV:=
 match a5a xs with
 | some ps=>.pv (.agg ps)
 | none=>.agg xs
def splice{α:Type}(cs:List α)(o:Nat)(vs:List α):List α:=cs.take o++vs++cs.drop (o+vs.length)
def DC:List AV->List (Nat×Nat×AV)->Option (List AV)
 | cs,[]=>some cs
 | cs,(o,n,v)::r=>if v.cells.length=n∧o+n<=cs.length∧v.cellsOk=true then DC (splice cs o v.cells) r else none
def e3y(op:BinOp)(x y:Int):Option Bool:=
 match op with
 | .eql=>some (x==y) | .neq=>some (x != y) | .lss=>some (x<y) | .leq=>some (x<=y) | .gtr=>some (x>y) | .geq=>some (x ≥ y)
 | _=>none
def d4w(op:BinOp)(k:IntKind)(x y:Int):Option (Bool×PV):=
 match op with
 | .add=>some (true,.int k (k.wrap (x+y)))
 | .sub=>some (true,.int k (k.wrap (x - y)))
 | .mul=>some (true,.int k (k.wrap (x*y)))
 | .quo=>some (y != 0,.int k (k.wrap (x.tdiv y)))
 | .rem=>some (y != 0,.int k (x.tmod y))
 | .and=>some (true,.int k (k.wrap (BitVec.ofInt k.bits x &&& BitVec.ofInt k.bits y).toNat))
 | .or=>some (true,.int k (k.wrap (BitVec.ofInt k.bits x ||| BitVec.ofInt k.bits y).toNat))
 | .xor=>some (true,.int k (k.wrap (BitVec.ofInt k.bits x ^^^ BitVec.ofInt k.bits y).toNat))
 | .andNot=>some (true,.int k (k.wrap (BitVec.ofInt k.bits x &&& ~~~BitVec.ofInt k.bits y).toNat))
 | op=>(e3y op x y).map fun b=>(true,.bool b)
def Ep(op:BinOp)(k:IntKind)(x y:Int):Option (Bool×PV):=
 match op with
 | .shl=>some (decide (0<=y),.int k (k.wrap (x*2 ^ (min y.toNat k.bits))))
 | .shr=>some (decide (0<=y),.int k (x.fdiv (2 ^ (min y.toNat k.bits))))
 | _=>none
def d4r(op:BinOp)(x y:List UInt8):Option (Bool×PV):=
 match op with
 | .add=>some (decide (x.length+y.length<=1099511627776),.str (x++y))
 | .eql=>some (true,.bool (x==y))
 | .neq=>some (true,.bool (!(x==y)))
 | .lss=>some (true,.bool (Op.bytesLess x y))
 | .leq=>some (true,.bool (Op.bytesLess x y||x==y))
 | .gtr=>some (true,.bool (!(Op.bytesLess x y||x==y)))
 | .geq=>some (true,.bool (!(Op.bytesLess x y)))
 | _=>none
def eqB(op:BinOp)(r:Bool):Option (Bool×PV):=
 match op with | .eql=>some (true,.bool r) | .neq=>some (true,.bool (!r))|_=>none
def a4y:BinOp->Bool
 | .shl | .shr=>true
 | _=>false
def J4:IntKind->IntKind->Bool
 | .i8,.i8 | .i16,.i16 | .i32,.i32 | .i64,.i64 | .u8,.u8 | .u16,.u16 | .u32,.u32 | .u64,.u64=>true
 | _,_=>false
def XP:PV->Bool
 | .nili=>true
 | _=>false
def Jh:PV->Bool
 | .nili | .ifc=>true
 | _=>false
def Sk:List Nat->List PV->List PV->Option Bool
 | [],[],[]=>some true
 | 0::ks,.int k a::ps,.int k' b::qs=>match J4 k k' with|true=>(Sk ks ps qs).map fun r=>a==b&&r|false=>none
 | 1::ks,.str a::ps,.str b::qs=>(Sk ks ps qs).map fun r=>a==b&&r
 | 2::ks,.bool a::ps,.bool b::qs=>(Sk ks ps qs).map fun r=>a==b&&r
 | _,_,_=>none
def e5o(kd:Kd)(op:BinOp)(x y:AV):Option (Bool×PV):=
 match kd,x,y with
 | .num,.pv (.int k a),.pv (.int k' b)=>
  match a4y op with
  | true=>Ep op k a b
  | false=>match J4 k k' with|true=>d4w op k a b|false=>none
 | .num,.pv (.str a),.pv (.str b)=>d4r op a b
 | .bool,.pv (.bool a),.pv (.bool b)=>eqB op (a==b)
 | .ptr,.pv .nilp,.pv .nilp=>eqB op true
 | .ptr,.ptr _ _,.pv .nilp=>eqB op false
 | .ptr,.pv (.rptr _),.pv .nilp=>eqB op false
 | .ifc,.pv p,.pv .nili=>(eqB op (XP p)).map fun q=>(Jh p&&q.1,q.2)
 | .agg ks,.pv (.agg ps),.pv (.agg qs)=>(Sk ks ps qs).bind fun r=>eqB op r
 | _,_,_=>none
def unB(op:UnOp)(x:PV):Option PV:=
 match op,x with
 | .not,.bool b=>some (.bool (!b))
 | .neg,.int k n=>some (.int k (k.wrap (-n)))
 | _,_=>none
def Sm(env:List AV)(d:Nat):Option IOp->Option (Bool×Nat)
 | none=>some (true,d)
 | some x=>match ev env x with
  | .pv (.int _ i)=>some (decide (0<=i),i.toNat)
  | _=>none
def PV.isKey(st:Bool):PV->Bool
 | .str _=>st
 | .int _ _=> !st
 | _=>false
def FL:PV->PV->Option Bool
 | .int k a,.int k' b=>if k=k' then some (a==b)else none
 | .str a,.str b=>some (a==b)
 | _,_=>none
def Su(k:PV):List (PV×PV)->Option (Option PV)
 | []=>some none
 | (a,v)::r=>match FL k a with
  | some true=>some (some v)
  | some false=>Su k r
  | none=>none
def JD(k:PV)(es:List (PV×PV)):Bool:=(Su k es).isSome
def Vs(k:PV)(es:List (PV×PV)):Bool:=match Su k es with|some (some _)=>true|_=>false
def XI(k z:PV)(es:List (PV×PV)):PV:=match Su k es with|some (some v)=>v|_=>z
def upd(k v:PV):List (PV×PV)->Option (List (PV×PV))
 | []=>some [(k,v)]
 | (a,u)::r=>match FL k a with
  | some true=>some ((k,v)::r)
  | some false=>(upd k v r).map ((a,u):: ·)
  | none=>none
def d1s(k v:PV)(es:List (PV×PV)):Bool:=(upd k v es).isSome
def a8b(k v:PV)(es:List (PV×PV)):List (PV×PV):=(upd k v es).getD []
def a6o:PV->Bool
 | .int .u8 n=>decide (0<=n)&&decide (n<256)
 | _=>false
def Zt(s:List UInt8):List PV:=s.map fun c=>.int .u8 c.toNat
def Vw(xs:List PV):List UInt8:=xs.map fun p=>UInt8.ofNat p.asInt.toNat
def He(ag:Bool)(n:Nat)(cs:List AV)(o:Nat):Option AV:=
 match ag with
 | true=>if o+n<=cs.length then some (a6l ((cs.drop o).take n))else none
 | false=>cs[o]?
def Gq(ps:List PV):Nat->List Sh->List PV
 | _,[]=>[]
 | o,sh::r=>sh.co (ps.getD o default)::Gq ps (o+1) r
def X6(ps:List PV):Nat->List Sh->Bool
 | _,[]=>true
 | o,sh::r=>sh.fit (ps.getD o default)&&X6 ps (o+1) r
def a3w(ag:Bool)(shs:List Sh)(ps:List PV)(o:Nat):HM AV:=
 .req (decide (o+shs.length<=ps.length)&&X6 ps o shs)
  (match ag with
  | true=>.ret (.pv (.agg (Gq ps o shs)))
  | false=>match shs with
   | [sh]=>.ret (.pv (sh.co (ps.getD o default)))
   | _=>.fail)
def PV.withCells(x:PV)(cs:List PV):PV:=
 match x with
 | .agg _=>.agg cs
 | x=>cs.headD x
mutual
def AV.refs:AV->List Nat
 | .ptr l _ | .row l _ _ _ | .eptr l _ _ _ | .map l=>[l]
 | .agg xs | .tup xs=>Uv xs
 | .fn _ xs ys=>Uv xs++Uv ys
 | _=>[]
def Uv:List AV->List Nat
 | []=>[]
 | x::xs=>x.refs++Uv xs
end
mutual
def AV.ren(ρ:Nat->Option Nat):AV->Option AV
 | .pv p=>some (.pv p) | .junk=>some .junk | .undef=>some .undef
 | .ptr l o=>(ρ l).map (.ptr · o)
 | .row l n lo hi=>(ρ l).map (.row · n lo hi)
 | .eptr l n i o=>(ρ l).map (.eptr · n i o)
 | .map l=>(ρ l).map .map
 | .agg xs=>(GZ ρ xs).map .agg
 | .tup xs=>(GZ ρ xs).map .tup
 | .fn f xs ys=>(GZ ρ xs).bind fun b=>(GZ ρ ys).map fun a=>.fn f b a
 | .yld l=>some (.yld l)
def GZ(ρ:Nat->Option Nat):List AV->Option (List AV)
 | []=>some []
 | x::xs=>(x.ren ρ).bind fun y=>(GZ ρ xs).map (y:: ·)
end
def AObj.refs:AObj->List Nat
 | .box xs=>Uv xs
 | _=>[]
def AObj.ren(ρ:Nat->Option Nat):AObj->Option AObj
 | .box xs=>(GZ ρ xs).map .box
 | o=>some o
def Qh(ρ:Nat->Option Nat):List AObj->Option (List AObj)
 | []=>some []
 | o::os=>(o.ren ρ).bind fun o'=>(Qh ρ os).map (o':: ·)
def GU{α:Type}:Nat->List Nat->List (Nat×AObj)->(List (Nat×AObj)->HM α)->HM α
 | 0,_,_,_=>.fail
 | _+1,[],acc,k=>k acc
 | n+1,l::ls,acc,k=>if (acc.map (·.1)).contains l then GU n ls acc k else .get l fun o=>GU n (ls++o.refs) (acc++[(l,o)]) k
def Aw{α:Type}:List (Nat×AObj)->HM α->HM α
 | [],k=>k
 | (l,o)::r,k=>.put l o (Aw r k)
def Bd{α:Type}:Nat->List AObj->HM α->HM α
 | _,[],k=>k
 | L,o::r,k=>.new L o (Bd (L+1) r k)
def fwd(ls:List Nat)(l:Nat):Option Nat:=ls.idxOf? l
def bwd(ls:List Nat)(L:Nat)(i:Nat):Option Nat:=if i<ls.length then ls[i]? else some (L+(i - ls.length))
def Hu(L:Nat)(pre:List AV->List AObj->Bool)(val:List AV->List AObj->AV×List AObj×List AObj)(args:List AV):HM AV:=
 GU 64 (Uv args) [] fun b=>
  let a:=b.map (·.1)
  match GZ (fwd a) args,Qh (fwd a) (b.map (·.2))with
  | some args',some Yt=>.req (pre args' Yt) (match val args' Yt with
   | (x,os,ext)=>match x.ren (bwd a L),Qh (bwd a L) os,Qh (bwd a L) ext with
    | some x',some os',some ext'=>if os'.length=a.length then Aw (a.zip os') (Bd L ext' (.ret x'))else .fail
    | _,_,_=>.fail)
  | _,_=>.fail
def a4h(T:ZC)(L:Nat)(g:Nat)(args:List AV):HM AV:=
 match T g with
 | some (.pure pre val)=>(VL args).bind fun ps=>.req (pre ps) (.ret (.pv (val ps)))
 | some (.own pre val)=>Hu L pre val args
 | none=>.fail
def Kh(L ty sz by_:Nat)(x:AV)(ys:List PV):HM AV:=
 match x with
 | .pv (.sl sz' t xs)=>.req t (.ask ys.isEmpty fun
  | true=>.ret x
  | false=>.req ((xs.isEmpty||sz'==sz)&&decide ((xs.length+ys.length)*by_<=1099511627776)&&decide (xs.length+ys.length<=1099511627776))
    (.new L (.row false ty sz (xs++ys)) (.ret (.row L (xs.length+ys.length) 0 (xs.length+ys.length)))))
 | .row l n 0 hi=>.get l fun
  | .row false ty' sz' xs=>
   if ty'=ty∧sz'=sz then
    .req (xs.length==n&&hi==n&&decide ((n+ys.length)*by_<=1099511627776)&&decide (n+ys.length<=1099511627776))
     (.put l (.row false ty sz (xs++ys)) (.ret (.row l (n+ys.length) 0 (n+ys.length))))
   else .fail
  | _=>.fail
 | _=>.fail
def YO(L:Nat)(env:List AV):POp->HM AV
 | .mv x=>.ret (ev env x)
 | .pick c a b=>match ev env c with
  | .pv (.bool d)=>.ask d fun
   | true=>.ret (ev env a)
   | false=>.ret (ev env b)
  | _=>.fail
 | .box n x=>if (ev env x).cells.length=n∧(ev env x).cellsOk=true then .new L (.box (ev env x).cells) (.ret (.ptr L 0))else .fail
 | .alloc z=>.new L (.box (AV.pv z).cells) (.ret (.ptr L 0))
 | .build z ps=>match DC (z.map .pv) (ps.map fun(o,n,x)=>(o,n,ev env x))with
  | some cs=>.ret (a6l cs)
  | none=>.fail
 | .bslice ty sz n z ps=>
  if ps.map (·.1)=List.range n then
   (VL (ps.map fun(_,x)=>ev env x)).bind fun xs=>
    .req (xs.all (fun x=>x.cells.length==sz&&x.cellsOk)) (.new L (.row false ty sz xs) (.ret (.row L n 0 n)))
  else .fail
 | .load ag shs x=>match ev env x with
  | .pv (.rptr ps)=>a3w ag shs ps 0
  | .ptr l o=>.get l fun
   | .box cs=>.ofOpt (He ag shs.length cs o)
   | _=>.fail
  | .eptr l m i o=>.get l fun
   | .row _ _ _ xs=>.req (xs.length==m&&decide (i<xs.length)) (a3w ag shs (xs.getD i default).cells o)
   | _=>.fail
  | _=>.fail
 | .store n x v=>match ev env x with
  | .ptr l o=>.get l fun
   | .box cs=>if (ev env v).cells.length=n∧o+n<=cs.length∧(ev env v).cellsOk=true then .put l (.box (splice cs o (ev env v).cells)) (.ret .undef)else .fail
   | _=>.fail
  | .eptr l m i o=>(frz (ev env v)).bind fun p=>.get l fun
   | .row false ty sz xs=>.req (xs.length==m&&decide (i<xs.length)&&p.cells.length==n&&decide (o+n<=(xs.getD i default).cells.length)&&p.cellsOk)
     (.put l (.row false ty sz (xs.set i ((xs.getD i default).withCells (splice (xs.getD i default).cells o p.cells)))) (.ret .undef))
   | _=>.fail
  | _=>.fail
 | .nilchk x=>match ev env x with
  | .ptr l o=>.ret (.ptr l o)
  | .pv (.rptr ps)=>.ret (.pv (.rptr ps))
  | .eptr l n i o=>.ret (.eptr l n i o)
  | .fn f xs ys=>.ret (.fn f xs ys)
  | .pv (.fn f)=>.ret (.pv (.fn f))
  | _=>.fail
 | .bin kd op x y=>match e5o kd op (ev env x) (ev env y)with
  | some (r,v)=>.req r (.ret (.pv v))
  | none=>.fail
 | .mm mx x y=>match ev env x,ev env y with
  | .pv (.int k a),.pv (.int k' b)=>match J4 k k' with|true=>.ret (.pv (.int k (if mx then(if b>a then b else a)else(if b<a then b else a))))|false=>.fail
  | _,_=>.fail
 | .un op x=>match ev env x with
  | .pv p=>.ofOpt ((unB op p).map .pv)
  | _=>.fail
 | .conv k x=>match ev env x with
  | .pv (.int _ n)=>.ret (.pv (.int k (k.wrap n)))
  | _=>.fail
 | .mkfn f xs ys=>match xs,ys with
  | [],[]=>.ret (.pv (.fn f))
  | xs,ys=>.ret (.fn f (xs.map (ev env)) (ys.map (ev env)))
 | .mkmap=>.new L (.map []) (.ret (.map L))
 | .mksl ty sz by_ z l c=>match ev env l,ev env c with
  | .pv (.int .i64 n),.pv (.int .i64 m)=>
   .req (decide (0<=n)&&n==m&&decide (n*by_<=1099511627776)&&decide (n<=1099511627776)) (.new L (.row false ty sz (List.replicate n.toNat z)) (.ret (.row L n.toNat 0 n.toNat)))
  | _,_=>.fail
 | .strslc x lo hi=>match ev env x with
  | .pv (.str s)=>match Sm env 0 lo,Sm env s.length hi with
   | some (r1,l),some (r2,h)=>.req (r1&&r2&&decide (l<=h)&&decide (h<=s.length)) (.ret (.pv (.str ((s.take h).drop l))))
   | _,_=>.fail
  | _=>.fail
 | .slc sz x lo hi mx=>match ev env x with
  | .pv (.sl sz' t xs)=>match Sm env 0 lo,Sm env xs.length hi with
   | some (r1,l),some (r2,h)=>match mx with
     | none=>.req (r1&&r2&&(xs.isEmpty||sz'==sz)&&decide (l<=h)&&decide (h<=xs.length)) (.ret (.pv (.sl sz' (t&&decide (h=xs.length)) ((xs.take h).drop l))))
     | some m=>match hi,Sm env xs.length (some m)with
      | some _,some (r3,m)=>.req (r1&&r2&&r3&&(xs.isEmpty||sz'==sz)&&decide (l<=h)&&decide (h<=m)&&decide (m<=xs.length)) (.ret (.pv (.sl sz' (decide (h=m)) ((xs.take h).drop l))))
      | _,_=>.fail
   | _,_=>.fail
  | .row r n lo' hi'=>match Sm env 0 lo,Sm env (hi' - lo') hi,mx with
   | some (r1,l),some (r2,h),none=>.get r fun
     | .row _ _ sz' xs=>if sz'=sz then .req (r1&&r2&&decide (l<=h)&&decide (lo'+h<=hi')&&xs.length==n) (.ret (.row r n (lo'+l) (lo'+h)))else .fail
     | _=>.fail
   | _,_,_=>.fail
  | _=>.fail
 | .faddr off x=>match ev env x with
  | .ptr l o=>.ret (.ptr l (o+off))
  | .pv (.rptr ps)=>.ret (.pv (.rptr (ps.drop off)))
  | .eptr l n i o=>.ret (.eptr l n i (o+off))
  | _=>.fail
 | .field ag off n x=>match ev env x with
  | .pv (.agg ps)=>.ofOpt (He ag n (ps.map .pv) off)
  | .agg xs=>.ofOpt (He ag n xs off)
  | _=>.fail
 | .iaddr sz x i=>match ev env x,ev env i with
  | .pv (.sl sz' _ xs),.pv (.int _ i)=>.req (decide (0<=i)&&decide (i.toNat<xs.length)&&sz'==sz) (.ret (.pv (.rptr (xs.getD i.toNat default).cells)))
  | .row l n lo hi,.pv (.int _ i)=>.get l fun
    | .row _ _ sz' xs=>if sz'=sz then .req (decide (0<=i)&&decide (lo+i.toNat<hi)&&xs.length==n) (.ret (.eptr l n (lo+i.toNat) 0))else .fail
    | _=>.fail
  | _,_=>.fail
 | .index x i=>match ev env x,ev env i with
  | .pv (.str s),.pv (.int _ i)=>.req (decide (0<=i)&&decide (i.toNat<s.length)) (.ret (.pv (.int .u8 (s.getD i.toNat 0).toNat)))
  | _,_=>.fail
 | .indexA n sz x i=>match ev env x,ev env i with
  | .pv (.agg ps),.pv (.int _ i)=>match decide (2<=sz)with
   | true=>.req (decide (0<=i)&&decide (i.toNat<n)) (.ofOpt (He true sz (ps.map .pv) (i.toNat*sz)))
   | false=>.req (decide (0<=i)&&decide (i.toNat<ps.length)&&decide (i.toNat<n)&&sz==1) (.ret (.pv (ps.getD i.toNat default)))
  | _,_=>.fail
 | .iaddrA n sz x i=>match ev env x,ev env i with
  | .ptr l o,.pv (.int _ i)=>.req (decide (0<=i)&&decide (i.toNat<n)) (.ret (.ptr l (o+i.toNat*sz)))
  | _,_=>.fail
 | .sbytes x=>match ev env x with
  | .pv (.str s)=>.ret (.pv (.sl 1 false (Zt s)))
  | _=>.fail
 | .sslice x=>match ev env x with
  | .row l n 0 hi=>.get l fun
   | .row false ty _ xs=>.req (xs.length==n&&ty==5) (.ret (.row l n 0 hi))
   | _=>.fail
  | _=>.fail
 | .bstr x=>match ev env x with
  | .pv (.sl sz _ xs)=>.req (xs.all a6o&&(xs.isEmpty||sz==1)) (.ret (.pv (.str (Vw xs))))
  | .row l n lo hi=>.get l fun
   | .row _ _ sz xs=>.req (xs.length==n&&xs.all a6o&&sz==1) (.ret (.pv (.str (Vw ((xs.take hi).drop lo)))))
   | _=>.fail
  | _=>.fail
 | .lookup st sh z ok m k=>match ev env k with
  | .pv k=>if k.isKey st then match ev env m with
    | .map l=>.get l fun
     | .map es=>.req (JD k es&&sh.fit (XI k z es)) (.ret (.pv (if ok then .tup [sh.co (XI k z es),.bool (Vs k es)]else sh.co (XI k z es))))
     | _=>.fail
    | _=>.fail
   else .fail
  | _=>.fail
 | .mapupd st m k v=>match ev env k with
  | .pv k=>if k.isKey st then match ev env m with
    | .map l=>(frz (ev env v)).bind fun v=>.get l fun
     | .map es=>.req (d1s k v es) (.put l (.map (a8b k v es)) (.ret .undef))
     | _=>.fail
    | _=>.fail
   else .fail
  | _=>.fail
 | .extract x i=>match ev env x with
  | .pv (.tup ps)=>.ofOpt ((ps[i]?).map .pv)
  | .tup xs=>.ofOpt xs[i]?
  | _=>.fail
 | .len k x=>match k,ev env x with
  | 2,.map l=>.get l fun
   | .map es=>.ret (.pv (.int .i64 es.length))
   | _=>.fail
  | 2,.pv .nilmap=>.ret (.pv (.int .i64 0))
  | 0,.pv (.str s)=>.ret (.pv (.int .i64 s.length))
  | 1,.pv (.sl _ _ xs)=>.ret (.pv (.int .i64 xs.length))
  | 1,.pv (.raw (.slice _ n _))=>.ret (.pv (.int .i64 n))
  | 1,.row _ _ lo hi=>.ret (.pv (.int .i64 (hi - lo:Nat)))
  | _,_=>.fail
 | .strid x=>match ev env x with
  | .pv (.str s)=>.ret (.pv (.str s))
  | _=>.fail
 | .append ty sz by_ x y=>match ev env y with
  | .pv (.sl sz' _ ys)=>.req (ys.isEmpty||sz'==sz) (Kh L ty sz by_ (ev env x) ys)
  | .row l n lo hi=>.get l fun
   | .row _ _ sz' ys=>if sz'=sz then .req (ys.length==n) (Kh L ty sz by_ (ev env x) ((ys.take hi).drop lo))else .fail
   | _=>.fail
  | _=>.fail
 | .apps ty sz by_ x y=>match ev env y with
  | .pv (.str s)=>match ev env x with
   | .row l m 0 hi=>Kh L ty sz by_ (.row l m 0 hi) (Zt s)
   | _=>.fail
  | _=>.fail
 | .appz ty sz by_ z x y=>match ev env y with
  | .pv (.int .i64 n)=>.req (decide (0<=n)&&decide (n<=1099511627776)) (match ev env x with
   | .row l m 0 hi=>Kh L ty sz by_ (.row l m 0 hi) (List.replicate n.toNat z)
   | _=>.fail)
  | _=>.fail
 | .call _ _=>.fail
def Xx(T:ZC)(L:Nat)(env:List AV)(p:POp):HM AV:=
 match p with
 | .call f xs=>match ev env f with
  | .pv (.fn g)=>a4h T L g (xs.map (ev env))
  | .fn g fst cap=>a4h T L g (fst++xs.map (ev env)++cap)
  | _=>.fail
 | p=>YO L env p
end
theorem RL.mono{μ μ':Mu}{Φ Φ':ZM}(g:μ.le μ')(e:Φ.le Φ'){cs:List Value}{xs:List AV}(h:RL μ Φ cs xs):RL μ' Φ' cs xs:=
 ⟨h.1,fun j v x a b=>(h.2 j v x a b).mono g e⟩
theorem XW.mono{Φ Φ':ZM}(e:Φ.le Φ'){cs:List Value}{xs:List PV}(h:XW Φ cs xs):XW Φ' cs xs:=
 ⟨h.1,fun j v x a b=>(h.2 j v x a b).mono e⟩
theorem Ur.blk_heap{μ:Mu}{Φ:ZM}{w:World}{l:Nat}{o:AObj}(h:Ur μ Φ w l o):(∃ ob,w.heap[blk μ l o]? = some ob):=by
 cases o with
 | box xs=>obtain⟨B,C,S,T,cs,h1,h2,_⟩:=h;exact⟨_,by simpa [blk,h1]using h2⟩
 | row fz ty sz xs=>obtain⟨B,C,cs,h1,_,⟨z,h2,_⟩,_⟩:=h;exact⟨_,by simpa [blk,h1]using h2⟩
 | map es=>obtain⟨B,C,S,m,k,h1,h2,_⟩:=h;exact⟨_,by simpa [blk,h1]using h2⟩
theorem Ur.blk_lt{μ:Mu}{Φ:ZM}{w:World}{l:Nat}{o:AObj}(h:Ur μ Φ w l o):blk μ l o<w.heap.size:=by
 obtain⟨ob,h⟩:=h.blk_heap
 exact(Array.getElem?_eq_some_iff.1 h).1
def AObj.live:AObj->Bool
 | .row fz _ _ _=> !fz
 | _=>true
theorem Ur.phi_none{μ:Mu}{Φ:ZM}{w:World}{l:Nat}{o:AObj}(h:Ur μ Φ w l o)(a:o.live=true):Φ (blk μ l o)=none:=by
 cases o with
 | box xs=>obtain⟨B,C,S,T,cs,h1,_,_,_,h2⟩:=h;simpa [blk,h1]using h2
 | row fz ty sz xs=>
  obtain⟨B,C,cs,h1,_,_,_,_,_,_,_,_,h2⟩:=h
  simp[AObj.live]at a
  subst a
  simpa [blk,h1]using h2
 | map es=>obtain⟨B,C,S,m,k,h1,_,_,_,h2,_⟩:=h;simpa [blk,h1]using h2
theorem Ur.keep{μ μ':Mu}{Φ Φ':ZM}{w w':World}{l:Nat}{o:AObj}(h:Ur μ Φ w l o)(F:μ.le μ')(s : ∀ n,μ' l n=μ l n)(u:Φ.le Φ')
  (hb:Φ' (blk μ l o)=Φ (blk μ l o)) (r:w'.heap[blk μ l o]? = w.heap[blk μ l o]?):Ur μ' Φ' w' l o∧blk μ' l o=blk μ l o:=by
 refine⟨?_,by unfold blk;rw[s]⟩
 cases o with
 | box xs=>
  obtain⟨B,C,S,T,cs,h1,h2,h3,g,q⟩:=h
  simp only[blk,h1]at hb r
  exact⟨B,C,S,T,cs,by rw[s];exact h1,by rw[r];exact h2,h3.mono F u,g,by rw[hb];exact q⟩
 | row fz ty sz xs=>
  obtain⟨B,C,cs,h1,h2,h3,g,q,D,z,E,A,y⟩:=h
  simp only[blk,h1]at hb r
  exact⟨B,C,cs,by rw[s];exact h1,fun n hn=>by rw[s];exact h2 n hn,h3.eq r,g,q,D,z,E.mono u,A,by rw[hb];exact y⟩
 | map es=>
  obtain⟨B,C,S,m,k,h1,h2,h3,g,q⟩:=h
  simp only[blk,h1]at hb r
  exact⟨B,C,S,m,k,by rw[s];exact h1,by rw[r];exact h2,h3,fun j e p a b=>⟨(g j e p a b).1.mono u,(g j e p a b).2.mono u⟩,by rw[hb];exact q.1,q.2⟩
theorem ZE{σ:Zw}{l l':Nat}{s:Slot}(h:l'≠l):(σ.set l s)[l']? = σ[l']? :=by
 rw[List.getElem?_set]
 simp[Ne.symm h]
theorem ZI{σ:Zw}{l:Nat}{s u:Slot}(h:σ[l]? = some u):(σ.set l s)[l]? = some s:=by
 have:=(List.getElem?_eq_some_iff.1 h).1
 rw[List.getElem?_set]
 simp[this]
theorem Good.put{c:Ctx}{μ μ':Mu}{Φ:ZM}{σ:Zw}{w w':World}{l:Nat}{o o':AObj}(h:Good c μ Φ σ w)(q:σ[l]? = some (.obj o))(y:o.live=true)
  (S:μ.le μ') (A : ∀ l',l'≠l-> ∀ n,μ' l' n=μ l' n) (O:w'.os=w.os) (r:w'.tape=w.tape) (E:w'.output=w.output) (z:w.heap.size<=w'.heap.size)
  (N : ∀ b,b<w.heap.size->b≠blk μ l o->w'.heap[b]? = w.heap[b]?) (L:Ur μ' Φ w' l o') (hb:blk μ' l o'=blk μ l o∨w.heap.size<=blk μ' l o') :
  Good c μ' Φ (σ.set l (.obj o')) w':=by
 have B:=h.obj l o q
 have a : ∀ l' x,l'≠l->σ[l']? = some (.obj x)->Ur μ' Φ w' l' x∧blk μ' l' x=blk μ l' x:=by
  intro l' x g j
  have F:=h.obj l' x j
  exact F.keep S (A l' g) (ZM.le.refl _) rfl (N _ F.blk_lt (h.apart l' l x o g j q))
 constructor
 ·intro b cs s
  have k:b≠blk μ l o:=by
   rintro rfl
   rw[B.phi_none y]at s
   cases s
  obtain⟨T,fz,Q⟩:=h.phi b cs s
  have K:=(Array.getElem?_eq_some_iff.1 Q).1
  exact⟨T,fz,by rw[N b K k];exact Q⟩
 ·intro l' x j
  by_cases g:l'=l
  ·subst g
   rw[ZI q]at j
   cases j
   exact L
  ·rw[ZE g]at j
   exact(a l' x g j).1
 ·have C : ∀ l' x,l'≠l->σ[l']? = some (.obj x)->blk μ' l' x≠blk μ' l o':=by
   intro l' x g j e
   rw[(a l' x g j).2]at e
   rcases hb with hb|hb
   ·rw[hb]at e
    exact h.apart l' l x o g j q e
   ·have:=(h.obj l' x j).blk_lt
    omega
  intro J I P M g h1 h2
  by_cases e1:J=l
  ·subst e1
   rw[ZI q]at h1
   cases h1
   rw[ZE (Ne.symm g)]at h2
   exact Ne.symm (C I M (Ne.symm g) h2)
  ·rw[ZE e1]at h1
   by_cases e2:I=l
   ·subst e2
    rw[ZI q]at h2
    cases h2
    exact C J P e1 h1
   ·rw[ZE e2]at h2
    rw[(a J P e1 h1).2,(a I M e2 h2).2]
    exact h.apart J I P M g h1 h2
 ·intro l' n u
  by_cases e1:l'=l
  ·subst e1
   rw[ZI q]at u
   rcases u with u|u <;> cases u
  ·rw[ZE e1]at u
   rw[A l' e1]
   exact h.fresh l' n u
 ·intro l' x j
  by_cases e1:l'=l
  ·subst e1
   rw[ZI q]at j
   cases j
   rcases hb with hb|hb
   ·rw[hb];exact h.own _ o q
   ·exact .inl (Nat.le_trans h.size hb)
  ·rw[ZE e1]at j
   rw[(a l' x e1 j).2]
   exact h.own l' x j
 ·exact O.trans h.os
 ·exact r.trans h.tape
 ·exact E.trans h.output
 ·exact Nat.le_trans h.size z
 ·intro b D H
  have k:b≠blk μ l o:=by
   rintro rfl
   rcases h.own l o q with h1|h1
   ·omega
   ·exact H h1
  rw[N b (Nat.lt_of_lt_of_le D h.size) k]
  exact h.frame b D H
 ·exact h.Φle
 ·exact h.μle.trans S
 ·exact h.dom
 ·exact h.laid
def Mu.add(μ:Mu)(l v:Nat)(x:Nat×Nat×Nat):Mu:=fun l' n=>if l'=l∧n=v then some x else μ l' n
theorem Mu.add_same(μ:Mu)(l v:Nat)(x:Nat×Nat×Nat):μ.add l v x l v=some x:=by simp[Mu.add]
theorem Mu.add_ne(μ:Mu)(l v:Nat)(x:Nat×Nat×Nat)(l' n:Nat)(h:l'≠l):μ.add l v x l' n=μ l' n:=by simp[Mu.add,h]
theorem Mu.add_ver(μ:Mu)(l v:Nat)(x:Nat×Nat×Nat)(n:Nat)(h:n≠v):μ.add l v x l n=μ l n:=by simp[Mu.add,h]
theorem Mu.le_add(μ:Mu)(l v:Nat)(x:Nat×Nat×Nat)(h:μ l v=none∨μ l v=some x):μ.le (μ.add l v x):=by
 intro l' n y a
 unfold Mu.add
 split
 ·rename_i e
  obtain⟨rfl,rfl⟩:=e
  rcases h with h|h <;> rw[h]at a
  ·cases a
  ·exact a
 ·exact a
theorem Wx(w:World)(o:Obj)(b:Nat)(h:b<w.heap.size):(w.alloc o).heap[b]? = w.heap[b]? :=Below.heap_alloc w o b h
theorem Vx(w:World)(o:Obj):(w.alloc o).heap[w.heap.size]? = some o:=by
 show(w.heap.push o)[w.heap.size]? = _
 simp
theorem Good.new{c:Ctx}{μ μ':Mu}{Φ:ZM}{σ:Zw}{w w':World}{l:Nat}{o:AObj}(h:Good c μ Φ σ w)(z:σ[l]? = some .fresh)
  (N:μ.le μ') (s : ∀ l',l'≠l-> ∀ n,μ' l' n=μ l' n) (J:w'.os=w.os) (k:w'.tape=w.tape) (A:w'.output=w.output) (r:w.heap.size<=w'.heap.size)
  (I : ∀ b,b<w.heap.size->w'.heap[b]? = w.heap[b]?) (ho:Ur μ' Φ w' l o) (hb:w.heap.size<=blk μ' l o) :
  Good c μ' Φ (σ.set l (.obj o)) w':=by
 have a : ∀ l' x,l'≠l->σ[l']? = some (.obj x)->Ur μ' Φ w' l' x∧blk μ' l' x=blk μ l' x:=by
  intro l' x g j
  have B:=h.obj l' x j
  exact B.keep N (s l' g) (ZM.le.refl _) rfl (I _ B.blk_lt)
 constructor
 ·intro b cs F
  obtain⟨T,fz,M⟩:=h.phi b cs F
  have E:=(Array.getElem?_eq_some_iff.1 M).1
  exact⟨T,fz,by rw[I b E];exact M⟩
 ·intro l' x j
  by_cases g:l'=l
  ·subst g
   rw[ZI z]at j
   cases j
   exact ho
  ·rw[ZE g]at j
   exact(a l' x g j).1
 ·have u : ∀ l' x,l'≠l->σ[l']? = some (.obj x)->blk μ' l' x≠blk μ' l o:=by
   intro l' x g j e
   rw[(a l' x g j).2]at e
   have:=(h.obj l' x j).blk_lt
   omega
  intro D C K H g h1 h2
  by_cases e1:D=l
  ·subst e1
   rw[ZI z]at h1
   cases h1
   rw[ZE (Ne.symm g)]at h2
   exact Ne.symm (u C H (Ne.symm g) h2)
  ·rw[ZE e1]at h1
   by_cases e2:C=l
   ·subst e2
    rw[ZI z]at h2
    cases h2
    exact u D K e1 h1
   ·rw[ZE e2]at h2
    rw[(a D K e1 h1).2,(a C H e2 h2).2]
    exact h.apart D C K H g h1 h2
 ·intro l' n q
  by_cases e1:l'=l
  ·subst e1
   rw[ZI z]at q
   rcases q with q|q <;> cases q
  ·rw[ZE e1]at q
   rw[s l' e1]
   exact h.fresh l' n q
 ·intro l' x j
  by_cases e1:l'=l
  ·subst e1
   rw[ZI z]at j
   cases j
   exact .inl (Nat.le_trans h.size hb)
  ·rw[ZE e1]at j
   rw[(a l' x e1 j).2]
   exact h.own l' x j
 ·exact J.trans h.os
 ·exact k.trans h.tape
 ·exact A.trans h.output
 ·exact Nat.le_trans h.size r
 ·intro b y L
  rw[I b (Nat.lt_of_lt_of_le y h.size)]
  exact h.frame b y L
 ·exact h.Φle
 ·exact h.μle.trans N
 ·exact h.dom
 ·exact h.laid
theorem Good.drew{c:Ctx}{μ:Mu}{Φ:ZM}{σ:Zw}{w:World}(h:Good c μ Φ σ w):Good c μ Φ σ {w with drawn:=w.drawn+1}:=
 ⟨h.phi,fun l o ho=>by
  have:=(h.obj l o ho).keep (w':={w with drawn:=w.drawn+1}) (Mu.le.refl _) (fun _=>rfl) (ZM.le.refl _) rfl rfl
  exact this.1,h.apart,h.fresh,h.own,h.os,h.tape,h.output,h.size,h.frame,h.Φle,h.μle,h.dom,h.laid⟩
def ZM.add(Φ:ZM)(b:Nat)(cs:Array Value):ZM:=fun a=>if a=b then some cs else Φ a
theorem Good.freeze{c:Ctx}{μ:Mu}{Φ:ZM}{σ:Zw}{w:World}{l:Nat}{fz:Bool}{ty sz:Nat}{xs:List PV}(h:Good c μ Φ σ w)(s:σ[l]? = some (.obj (.row fz ty sz xs))):
  ∃ Φ' B C cs,Φ.le Φ'∧Good c μ Φ' (σ.set l (.obj (.row true ty sz xs))) w∧μ l xs.length=some (B,C,sz)∧Φ' B=some cs∧cs.size=C*sz∧xs.length<=C∧(∀ x∈xs,x.cells.length=sz) ∧
   XW Φ (cs.toList.take (xs.length*sz)) (flat xs)∧YM (cs.toList.take (xs.length*sz)):=by
 have D:=h.obj l _ s
 obtain⟨B,C,cs,h1,h2,h3,I,M,V,N,L,J,E⟩:=D
 have j:blk μ l (.row fz ty sz xs)=B:=by simp[blk,h1]
 have k:blk μ l (.row true ty sz xs)=B:=by simp[blk,h1]
 have q:Φ.le (Φ.add B cs):=by
  intro b x a
  unfold ZM.add
  split
  ·rename_i e
   subst e
   rw[E]at a
   cases fz <;> simp_all
  ·exact a
 refine⟨Φ.add B cs,B,C,cs,q,?_,h1,by simp[ZM.add],I,M,N,L,J⟩
 have r : ∀ l' x,l'≠l->σ[l']? = some (.obj x)->Ur μ (Φ.add B cs) w l' x:=by
  intro l' x g a
  have F:=h.obj l' x a
  have A:=h.apart l' l x _ g a s
  rw[j]at A
  exact(F.keep (Mu.le.refl _) (fun _=>rfl) q (by simp[ZM.add,A]) rfl).1
 constructor
 ·intro b x a
  unfold ZM.add at a
  split at a
  ·rename_i e
   subst e
   cases a
   obtain⟨z,h3,_⟩:=h3
   exact⟨_,_,h3⟩
  ·exact h.phi b x a
 ·intro l' x a
  by_cases g:l'=l
  ·subst g
   rw[ZI s]at a
   cases a
   exact⟨B,C,cs,h1,h2,h3,I,M,V,N,L.mono q,J,by simp[ZM.add]⟩
  ·rw[ZE g]at a
   exact r l' x g a
 ·intro O H Y U g k1 W
  have K : ∀ l' o',(σ.set l (.obj (.row true ty sz xs)))[l']? = some (.obj o')-> ∃ o'',σ[l']? = some (.obj o'')∧blk μ l' o'=blk μ l' o'':=by
   intro l' o' a
   by_cases e:l'=l
   ·subst e
    rw[ZI s]at a
    cases a
    exact⟨_,s,by rw[j,k]⟩
   ·rw[ZE e]at a
    exact⟨_,a,rfl⟩
  obtain⟨P,S,y⟩:=K O Y k1
  obtain⟨T,Q,X⟩:=K H U W
  rw[y,X]
  exact h.apart O H P T g S Q
 ·intro l' n u
  by_cases y:l'=l
  ·subst y
   rw[ZI s]at u
   rcases u with u|u <;> cases u
  ·rw[ZE y]at u
   exact h.fresh l' n u
 ·intro l' x a
  by_cases y:l'=l
  ·subst y
   rw[ZI s]at a
   cases a
   rw[k,<- j]
   exact h.own _ _ s
  ·rw[ZE y]at a
   exact h.own l' x a
 ·exact h.os
 ·exact h.tape
 ·exact h.output
 ·exact h.size
 ·exact h.frame
 ·exact h.Φle.trans q
 ·exact h.μle
 ·intro b x a
  unfold ZM.add at a
  split at a
  ·rename_i e
   subst e
   have:=h.own l _ s
   rw[j]at this
   exact .inr this
  ·exact h.dom b x a
 ·exact h.laid
section
theorem Vj{α:Type}{o:Option α}{σ a:Zw}{x:α}(h:(HM.ofOpt o).run σ=some (x,a)):o=some x∧a=σ:=by
 cases o with
 | none=>simp[HM.ofOpt,HM.run]at h
 | some y=>simp[HM.ofOpt,HM.run]at h;simp[h.1,h.2]
theorem Zu{α:Type}{y:α}{σ a:Zw}{x:α}(h:(HM.ret y).run σ=some (x,a)):x=y∧a=σ:=by
 simp[HM.run]at h;simp[h.1,h.2]
theorem Xc{α:Type}{l:Nat}{k:AObj->HM α}{σ a:Zw}{x:α}(h:(HM.get l k).run σ=some (x,a)): ∃ o,σ[l]? = some (.obj o)∧(k o).run σ=some (x,a):=by
 simp only[HM.run]at h
 split at h
 ·rename_i o ho;exact⟨o,ho,h⟩
 ·cases h
theorem UR{α:Type}{l:Nat}{o:AObj}{k:HM α}{σ a:Zw}{x:α}(h:(HM.put l o k).run σ=some (x,a)):(∃ o',σ[l]? = some (.obj o'))∧k.run (σ.set l (.obj o))=some (x,a):=by
 simp only[HM.run]at h
 split at h
 ·rename_i o ho;exact⟨⟨o,ho⟩,h⟩
 ·cases h
theorem QQ{α:Type}{l:Nat}{o:AObj}{k:HM α}{σ a:Zw}{x:α}(h:(HM.new l o k).run σ=some (x,a)):σ[l]? = some .fresh∧k.run (σ.set l (.obj o))=some (x,a):=by
 simp only[HM.run]at h
 split at h
 ·rename_i ho;exact⟨ho,h⟩
 ·cases h
theorem Zh{α:Type}{σ a:Zw}{x:α}(h:(HM.fail:HM α).run σ=some (x,a)):False:=by simp[HM.run]at h
theorem ZZ{α:Type}{b:Bool}{k:HM α}{σ a:Zw}{x:α}(h:(HM.req b k).run σ=some (x,a)):b=true∧k.run σ=some (x,a):=by
 cases b
 ·simp[HM.run]at h
 ·exact⟨rfl,h⟩
def pv1:Value->Option PV
 | .bool b=>some (.bool b)
 | .int k n=>some (.int k n)
 | .string s=>some (.str s.data.toList)
 | .pointer none=>some .nilp
 | .slice none 0 0=>some (.sl 0 true [])
 | .map none=>some .nilmap
 | .nilFunc=>some .nilfn
 | .nilIface=>some .nili
 | .func (.func f) cs ds=>if cs.size=0∧ds.size=0 then some (.fn f)else none
 | _=>none
def Y0{α β:Type}(f:α->Option β):List α->Option (List β)
 | []=>some []
 | x::xs=>(f x).bind fun y=>(Y0 f xs).map (y:: ·)
def V4:Value->Option PV
 | .agg cs=>(Y0 pv1 cs.toList).map .agg
 | v=>pv1 v
theorem XM{α β:Type}{f:α->Option β}: ∀ {l:List α} {r:List β},Y0 f l=some r->l.length=r.length∧ ∀ (j:Nat) x y,l[j]? = some x->r[j]? = some y->f x=some y:=by
 intro l
 induction l with
 | nil=>intro r h;cases h;simp
 | cons x xs ih=>
  intro r h
  simp only[Y0,Option.bind_eq_some_iff,Option.map_eq_some_iff]at h
  obtain⟨y,g,ys,e,rfl⟩:=h
  obtain⟨h1,h2⟩:=ih e
  refine⟨by simp[h1],?_⟩
  intro j a b ha hb
  cases j with
  | zero=>simp at ha hb;subst ha hb;exact g
  | succ j=>simp at ha hb;exact h2 j a b ha hb
theorem RV{Φ:ZM}{v:Value}{p:PV}(h:pv1 v=some p):RP Φ v p∧v.oneCell'=true∧p.one=true:=by
 unfold pv1 at h
 split at h
 ·cases h;exact⟨.bool _,rfl,rfl⟩
 ·cases h;exact⟨.int _ _,rfl,rfl⟩
 ·cases h;exact⟨.str _,rfl,rfl⟩
 ·cases h;exact⟨.nilp,rfl,rfl⟩
 ·cases h;exact⟨.sl0 _ _ _ _ (fun _=>rfl),rfl,rfl⟩
 ·cases h;exact⟨.nilmap,rfl,rfl⟩
 ·cases h;exact⟨.nilfn,rfl,rfl⟩
 ·cases h;exact⟨.nili,rfl,rfl⟩
 ·rename_i f cs ds
  split at h
  ·rename_i e
   cases h
   have b:cs = #[]:=by simpa using e.1
   have a:ds = #[]:=by simpa using e.2
   subst b a
   exact⟨.fn _,rfl,rfl⟩
  ·cases h
 ·cases h
theorem Ub{Φ:ZM}{v:Value}{p:PV}(h:V4 v=some p):RP Φ v p:=by
 unfold V4 at h
 split at h
 ·rename_i cs
  rw[Option.map_eq_some_iff]at h
  obtain⟨ps,hps,rfl⟩:=h
  obtain⟨h1,h2⟩:=XM hps
  refine .agg _ _ (by simpa using h1) ?_ ?_
  ·intro v b
   obtain⟨j,k,e⟩:=List.getElem_of_mem (Array.mem_toList_iff.2 b)
   have a:j<ps.length:=by omega
   exact(RV (Φ:=Φ) (h2 j v ps[j] (by rw[List.getElem?_eq_getElem k,e]) (by rw[List.getElem?_eq_getElem a]))).2.1
  ·intro j v x b g
   exact(RV (h2 j v x (by simpa using b) g)).1
 ·exact(RV h).1
theorem XF{v:Value}{p:PV}(h:V4 v=some p):p.cellsOk=true:=by
 unfold V4 at h
 split at h
 ·rw[Option.map_eq_some_iff]at h
  obtain⟨ps,_,rfl⟩:=h
  rfl
 ·have:=(RV (Φ:=fun _=>none) h).2.2
  cases p <;> simp_all[PV.one,PV.cellsOk]
def Z5:Operand->Option IOp
 | .tmp t=>some (.t t)
 | .const v=>(V4 v).map .c
 | .func f=>some (.c (.fn f))
 | .global _=>none
section
variable {μ:Mu} {Φ:ZM}
theorem Yk{v:Value}{p:PV}(h:R μ Φ v (.pv p)):RP Φ v p:=by cases h;assumption
theorem RL.nil:RL μ Φ [] []:=⟨rfl,fun j v x h=>by simp at h⟩
theorem RL.cons{v:Value}{x:AV}{cs:List Value}{xs:List AV}(h:R μ Φ v x)(k:RL μ Φ cs xs):RL μ Φ (v::cs) (x::xs):=
 ⟨by simp[k.1],fun j a b ha hb=>by
  cases j with
  | zero=>simp at ha hb;subst ha hb;exact h
  | succ j=>simp at ha hb;exact k.2 j a b ha hb⟩
theorem RL.uncons{cs:List Value}{x:AV}{xs:List AV}(h:RL μ Φ cs (x::xs)): ∃ v vs,cs=v::vs∧R μ Φ v x∧RL μ Φ vs xs:=by
 cases cs with
 | nil=>have:=h.1;simp at this
 | cons v vs=>exact⟨v,vs,rfl,h.2 0 v x rfl rfl,by have:=h.1;simpa using this,fun j a b ha hb=>h.2 (j+1) a b (by simpa using ha) (by simpa using hb)⟩
theorem RL.unnil{cs:List Value}(h:RL μ Φ cs []):cs=[]:=by
 have:=h.1
 simpa using this
theorem RL.at_{cs:List Value}{xs:List AV}(h:RL μ Φ cs xs){j:Nat}{x:AV}(b:xs[j]? = some x): ∃ v,cs[j]? = some v∧R μ Φ v x:=by
 have e:=(List.getElem?_eq_some_iff.1 b).1
 have a:j<cs.length:=by rw[h.1];exact e
 exact⟨cs[j],by rw[List.getElem?_eq_getElem a],h.2 j _ x (by rw[List.getElem?_eq_getElem a]) b⟩
theorem XW.at_{cs:List Value}{xs:List PV}(h:XW Φ cs xs){j:Nat}{x:PV}(b:xs[j]? = some x): ∃ v,cs[j]? = some v∧RP Φ v x:=by
 have e:=(List.getElem?_eq_some_iff.1 b).1
 have a:j<cs.length:=by rw[h.1];exact e
 exact⟨cs[j],by rw[List.getElem?_eq_getElem a],h.2 j _ x (by rw[List.getElem?_eq_getElem a]) b⟩
theorem XW.toRL{cs:List Value}{xs:List PV}(h:XW Φ cs xs):RL μ Φ cs (xs.map .pv):=
 ⟨by simp[h.1],fun j v x e a=>by
  rw[List.getElem?_map]at a
  obtain⟨p,b,rfl⟩:=Option.map_eq_some_iff.1 a
  exact .pv _ _ (h.2 j v p e b)⟩
theorem RL.drop{cs:List Value}{xs:List AV}(h:RL μ Φ cs xs)(n:Nat):RL μ Φ (cs.drop n) (xs.drop n):=
 ⟨by simp[h.1],fun j v x b a=>h.2 (n+j) v x (by simpa using b) (by simpa using a)⟩
theorem RL.take{cs:List Value}{xs:List AV}(h:RL μ Φ cs xs)(n:Nat):RL μ Φ (cs.take n) (xs.take n):=
 ⟨by simp[h.1],fun j v x a b=>by
  rw[List.getElem?_take]at a b
  split at a
  ·rename_i e;rw[if_pos e]at b;exact h.2 j v x a b
  ·cases a⟩
theorem RL.append{cs ds:List Value}{xs ys:List AV}(h:RL μ Φ cs xs)(k:RL μ Φ ds ys):RL μ Φ (cs++ds) (xs++ys):=
 ⟨by simp[h.1,k.1],fun j v x b a=>by
  rw[List.getElem?_append]at b a
  rw[h.1]at b
  split at b
  ·rename_i e;rw[if_pos e]at a;exact h.2 j v x b a
  ·rename_i e;rw[if_neg e]at a;exact k.2 _ v x b a⟩
theorem XW.drop{cs:List Value}{xs:List PV}(h:XW Φ cs xs)(n:Nat):XW Φ (cs.drop n) (xs.drop n):=
 ⟨by simp[h.1],fun j v x b a=>h.2 (n+j) v x (by simpa using b) (by simpa using a)⟩
theorem XW.take{cs:List Value}{xs:List PV}(h:XW Φ cs xs)(n:Nat):XW Φ (cs.take n) (xs.take n):=
 ⟨by simp[h.1],fun j v x a b=>by
  rw[List.getElem?_take]at a b
  split at a
  ·rename_i e;rw[if_pos e]at b;exact h.2 j v x a b
  ·cases a⟩
theorem XW.append{cs ds:List Value}{xs ys:List PV}(h:XW Φ cs xs)(k:XW Φ ds ys):XW Φ (cs++ds) (xs++ys):=
 ⟨by simp[h.1,k.1],fun j v x b a=>by
  rw[List.getElem?_append]at b a
  rw[h.1]at b
  split at b
  ·rename_i e;rw[if_pos e]at a;exact h.2 j v x b a
  ·rename_i e;rw[if_neg e]at a;exact k.2 _ v x b a⟩
theorem YM.drop{cs:List Value}(h:YM cs)(n:Nat):YM (cs.drop n):=fun v a=>h v (List.mem_of_mem_drop a)
theorem YM.take{cs:List Value}(h:YM cs)(n:Nat):YM (cs.take n):=fun v a=>h v (List.mem_of_mem_take a)
theorem YM.append{cs ds:List Value}(h:YM cs)(k:YM ds):YM (cs++ds):=fun v a=>by
 rcases List.mem_append.1 a with a|a
 ·exact h v a
 ·exact k v a
theorem Us{v:Value}{p:PV}(h:RP Φ v p)(k:p.cellsOk=true):XW Φ v.cells.toList p.cells∧YM v.cells.toList:=by
 have e : ∀ (g:v.cells = #[v]) (hc:p.cells=[p]) (h1:v.oneCell'=true),XW Φ v.cells.toList p.cells∧YM v.cells.toList:=by
  intro g hc h1
  rw[g,hc]
  refine⟨⟨rfl,fun j a b ha hb=> ?_⟩,fun a ha=>by simp at ha;subst ha;exact h1⟩
  cases j with
  | zero=>simp at ha hb;subst ha hb;exact h
  | succ j=>simp at ha
 cases h with
 | agg cs xs hn ho h=>exact⟨⟨by simpa [Value.cells,PV.cells]using hn,fun j a b ha hb=>h j a b (by simpa [Value.cells]using ha) hb⟩,fun a ha=>ho a (by simpa [Value.cells]using ha)⟩
 | tup cs xs hn h=>simp[PV.cellsOk]at k
 | raw v h1=>exact e (by cases v <;> first|rfl|simp[Value.oneCell']at h1) rfl h1
 | _=>exact e rfl rfl rfl
theorem Ae{v:Value}{x:AV}(h:R μ Φ v x)(k:x.cellsOk=true):RL μ Φ v.cells.toList x.cells∧YM v.cells.toList:=by
 have g : ∀ (q:v.cells = #[v]) (hc:x.cells=[x]) (h1:v.oneCell'=true),RL μ Φ v.cells.toList x.cells∧YM v.cells.toList:=by
  intro q hc h1
  rw[q,hc]
  exact⟨RL.cons h RL.nil,fun a ha=>by simp at ha;subst ha;exact h1⟩
 cases h with
 | pv _ p h'=>
  have l:p.cellsOk=true:=by cases p <;> simp_all[AV.cellsOk,PV.cellsOk]
  obtain⟨h1,h2⟩:=Us h' l
  have e:AV.cells (.pv p)=p.cells.map .pv:=by cases p <;> rfl
  rw[e]
  exact⟨h1.toRL,h2⟩
 | agg cs xs hn ho h'=>exact⟨⟨by simpa [Value.cells,AV.cells]using hn,fun j a b ha hb=>h' j a b (by simpa [Value.cells]using ha) hb⟩,fun a ha=>ho a (by simpa [Value.cells]using ha)⟩
 | tup cs xs hn h'=>simp[AV.cellsOk]at k
 | junk=>simp[AV.cellsOk]at k
 | undef=>simp[AV.cellsOk]at k
 | _=>exact g rfl rfl rfl
theorem a0a: ∀ {xs:List AV} {ps:List PV},a5a xs=some ps->xs=ps.map .pv:=by
 intro xs
 induction xs with
 | nil=>intro ps h;cases h;rfl
 | cons x xs ih=>
  intro ps h
  cases x <;> simp[a5a]at h
  obtain⟨qs,a,rfl⟩:=h
  simp[ih a]
theorem Bc{cs:List Value}{xs:List AV}(h:RL μ Φ cs xs)(ho:YM cs):R μ Φ (.agg cs.toArray) (a6l xs):=by
 unfold a6l
 split
 ·rename_i ps hps
  have e:=a0a hps
  subst e
  refine .pv _ _ (.agg _ _ (by simpa using h.1) (fun v a=>ho v (by simpa using a)) ?_)
  intro j v p a g
  exact Yk (h.2 j v (.pv p) (by simpa using a) (by simp[g]))
 ·exact .agg _ _ (by simpa using h.1) (fun v a=>ho v (by simpa using a)) (fun j v x a b=>h.2 j v x (by simpa using a) b)
theorem ZK{a:Act}{env:List AV}{x:Operand}{y:IOp}(h:YI μ Φ a.tmps env)(b:Z5 x=some y):R μ Φ (a.eval x) (ev env y):=by
 cases x with
 | tmp t=>
  simp[Z5]at b
  subst b
  simp only[Act.eval,ev]
  by_cases ht:t<env.length
  ·obtain⟨v,q,hr⟩:=h.at_ (j:=t) (x:=env[t]) (List.getElem?_eq_getElem ht)
   have k:a.tmps.getD t Go.undef=v:=by
    have:a.tmps[t]? = some v:=by simpa using q
    simp[Array.getD_eq_getD_getElem?,this]
   have e:env.getD t .undef=env[t]:=by simp[List.getD,List.getElem?_eq_getElem ht]
   rw[k,e]
   exact hr
  ·have hl:=h.1
   have k:a.tmps.getD t Go.undef=Go.undef:=by
    have h2:a.tmps.size=env.length:=by simpa using h.1
    have:a.tmps[t]? = none:=Array.getElem?_eq_none (by rw[h2];exact Nat.le_of_not_lt ht)
    simp[Array.getD_eq_getD_getElem?,this]
   have e:env.getD t .undef = .undef:=by simp[List.getD,List.getElem?_eq_none (Nat.le_of_not_lt ht)]
   rw[k,e]
   exact .undef
 | const v=>
  simp only[Z5,Option.map_eq_some_iff]at b
  obtain⟨p,l,rfl⟩:=b
  exact .pv _ _ (Ub l)
 | func f=>
  simp[Z5]at b
  subst b
  exact .pv _ _ (.fn f)
 | global g=>simp[Z5]at b
end
def Vt(w:World)(B a:Nat)(cs:List Value):Prop:= ∀ (j:Nat) v,cs[j]? = some v->w.cell? ⟨B,a+j,none⟩=some v
theorem Xe(B o n:Nat):(⟨B,o,none⟩:Addr).add n=⟨B,o+n,none⟩:=by
 unfold Addr.add
 split <;> simp_all
theorem Y7{w:World}{B:Nat}{cs:Array Value}{T:TypeId}{fz:Nat×Nat}(h:w.heap[B]? = some (.cells cs T fz))(o n:Nat):Vt w B o ((cs.toList.drop o).take n):=by
 intro j v a
 rw[List.getElem?_take]at a
 split at a
 ·simp only[List.getElem?_drop,Array.getElem?_toList]at a
  simp[World.cell?,h,a]
 ·cases a
def Xn(P:Program)(t:TypeId):Bool:=
 match P.underlying t with
 | some (.struct _)|some (.array _ _)=>true
 | _=>false
theorem K9{P:Program}{w:World}{t:TypeId}(h:(P.underlying t).isSome=true):(isAgg t).run P w = .ok (Xn P t) w:=by
 cases hu:P.underlying t with
 | none=>simp[hu]at h
 | some d=>
  simp only[isAgg,Sem.run_bind,run_underlying hu,Result.andThen_ok,Xn,hu]
  cases d <;> rfl
theorem Z6{P:Program}{w:World}{t:TypeId}{i:TypeInfo}(h:P.info? t=some i):(sizeOf t).run P w = .ok i.size w:=by
 simp[sizeOf,typeInfo,h]
theorem a5r{P:Program}{μ:Mu}{Φ:ZM}{w:World}{t:TypeId}{i:TypeInfo}{B a o:Nat}{cs:List Value}{xs:List AV}{y:AV}
  (hu:(P.underlying t).isSome=true) (hi:P.info? t=some i) (hc:Vt w B a cs) (hr:RL μ Φ cs xs) (ho:YM cs)
  (b:He (Xn P t) i.size xs o=some y) : ∃ v,(loadVar t ⟨B,a+o,none⟩).run P w = .ok v w∧R μ Φ v y:=by
 unfold He at b
 simp only[loadVar,Sem.run_bind,K9 hu,Result.andThen_ok]
 cases g:Xn P t with
 | true=>
  simp only[g,if_true]at b ⊢
  split at b
  ·rename_i hle
   cases b
   refine⟨.agg ((cs.drop o).take i.size).toArray,?_,?_⟩
   ·have h:((cs.drop o).take i.size).length=i.size:=by
     simp[hr.1]
     omega
    have:=run_loadCells_list (P:=P) w ⟨B,a+o,none⟩ ((cs.drop o).take i.size) (fun j v e=>by
     rw[Xe]
     rw[List.getElem?_take]at e
     split at e
     ·rw[List.getElem?_drop]at e
      have:=hc (o+j) v e
      rwa [<- Nat.add_assoc]at this
     ·cases e)
    rw[h]at this
    simp[Z6 hi,this]
   ·exact Bc ((hr.drop o).take _) ((ho.drop o).take _)
  ·cases b
 | false=>
  simp only[g,if_false,Bool.false_eq_true]at b ⊢
  obtain⟨v,e,k⟩:=hr.at_ b
  exact⟨v,by simp[hc o v e],k⟩
theorem a2s{Φ:ZM}{v:Value}{sh:Sh}{p:PV}(h:RP Φ v p)(e:sh.fit p=true):RP Φ v (sh.co p):=by
 cases sh with
 | any=>exact h
 | int k=>
  cases p <;> simp[Sh.fit]at e
  subst e
  exact h
 | str=>cases p <;> simp[Sh.fit]at e;exact h
 | bool=>cases p <;> simp[Sh.fit]at e;exact h
 | sl sz=>
  cases p <;> simp[Sh.fit]at e
  rename_i sz' t xs
  rcases e with rfl|rfl
  ·exact h
  ·cases h with
   | sl0 a c _ _ h=>exact .sl0 a c _ _ h
   | sl b off cs c _ _ _ u hb hc ht hs hu hr=>exact .sl b off cs c sz t [] u hb hc ht (fun x g=>by simp at g) hu hr
theorem c3p{Φ:ZM}{cs:List Value}{ps:List PV}(h:XW Φ cs ps): ∀ (shs:List Sh) (o:Nat),o+shs.length<=ps.length->X6 ps o shs=true->XW Φ ((cs.drop o).take shs.length) (Gq ps o shs):=by
 intro shs
 induction shs with
 | nil=>intro o _ _;exact⟨by simp[Gq],fun j v x g=>by simp at g⟩
 | cons sh shs ih=>
  intro o ho l
  simp only[X6,Bool.and_eq_true]at l
  simp only[List.length_cons]at ho
  have b:o<ps.length:=by omega
  have a:o<cs.length:=by rw[h.1];exact b
  have hd:ps.getD o default=ps[o]:=by simp[List.getD,List.getElem?_eq_getElem b]
  rw[hd]at l
  obtain⟨h1,h2⟩:=ih (o+1) (by omega) l.2
  have e:(cs.drop o).take (sh::shs).length=cs[o]::(cs.drop (o+1)).take shs.length:=by
   rw[List.drop_eq_getElem_cons a,List.length_cons,List.take_succ_cons]
  rw[e]
  simp only[Gq,hd]
  refine⟨by simp only[List.length_cons,h1],?_⟩
  intro j v x g k
  cases j with
  | zero=>
   simp at g k
   subst g k
   exact a2s (h.2 o _ _ (List.getElem?_eq_getElem a) (List.getElem?_eq_getElem b)) l.1
  | succ j=>simp at g k;exact h2 j v x g k
theorem FO{P:Program}{μ:Mu}{Φ:ZM}{σ u:Zw}{w:World}{t:TypeId}{i:TypeInfo}{B b o:Nat}{cs:List Value}{ps:List PV}{shs:List Sh}{y:AV}
  (hu:(P.underlying t).isSome=true) (hi:P.info? t=some i) (r:shs.length=i.size) (hc:Vt w B b cs) (hr:XW Φ cs ps) (ho:YM cs)
  (g:(a3w (Xn P t) shs ps o).run σ=some (y,u)):u=σ∧ ∃ v,(loadVar t ⟨B,b+o,none⟩).run P w = .ok v w∧R μ Φ v y:=by
 unfold a3w at g
 obtain⟨s,g⟩:=ZZ g
 simp only[Bool.and_eq_true,decide_eq_true_eq]at s
 obtain⟨h,a⟩:=s
 simp only[loadVar,Sem.run_bind,K9 hu,Result.andThen_ok]
 cases k:Xn P t with
 | true=>
  simp only[k,if_true]at g ⊢
  obtain⟨rfl,rfl⟩:=Zu g
  refine⟨rfl,.agg ((cs.drop o).take i.size).toArray,?_,?_⟩
  ·have q:((cs.drop o).take i.size).length=i.size:=by
    simp[hr.1]
    omega
   have:=run_loadCells_list (P:=P) w ⟨B,b+o,none⟩ ((cs.drop o).take i.size) (fun j v e=>by
    rw[Xe]
    rw[List.getElem?_take]at e
    split at e
    ·rw[List.getElem?_drop]at e
     have:=hc (o+j) v e
     rwa [<- Nat.add_assoc]at this
    ·cases e)
   rw[q]at this
   simp[Z6 hi,this]
  ·have h1:=c3p hr shs o h a
   rw[r]at h1
   exact .pv _ _ (.agg _ _ (by simpa using h1.1) (fun v e=>(ho.drop o).take i.size v (by simpa using e)) (fun j v x e A=>h1.2 j v x (by simpa using e) A))
 | false=>
  simp only[k,if_false,Bool.false_eq_true]at g ⊢
  split at g
  ·rename_i sh
   obtain⟨rfl,rfl⟩:=Zu g
   simp only[List.length_cons,List.length_nil,Nat.zero_add]at h
   have l:o<ps.length:=by omega
   have hd:ps.getD o default=ps[o]:=by simp[List.getD,List.getElem?_eq_getElem l]
   simp only[X6,Bool.and_eq_true]at a
   obtain⟨v,e,z⟩:=hr.at_ (List.getElem?_eq_getElem l)
   rw[hd]at a ⊢
   exact⟨rfl,v,by simp[hc o v e],.pv _ _ (a2s z a.1)⟩
  ·exact(Zh g).elim
theorem X3{xs:List PV}{sz:Nat}(h : ∀ x∈xs,x.cells.length=sz):(flat xs).length=xs.length*sz:=by
 induction xs with
 | nil=>simp[flat]
 | cons x xs ih=>
  have h1:=h x (by simp)
  have h2:=ih (fun y a=>h y (by simp[a]))
  simp only[flat,List.flatMap_cons,List.length_append,List.length_cons,Nat.add_mul,Nat.one_mul]at h2 ⊢
  omega
theorem XK(x:PV)(xs:List PV):flat (x::xs)=x.cells++flat xs:=rfl
theorem X9(xs ys:List PV):flat (xs++ys)=flat xs++flat ys:=by simp[flat]
theorem Qc{xs:List PV}{sz:Nat}(h : ∀ x∈xs,x.cells.length=sz): ∀ n,(flat xs).drop (n*sz)=flat (xs.drop n):=by
 induction xs with
 | nil=>intro n;simp[flat]
 | cons x xs ih=>
  intro n
  have h1:=h x (by simp)
  cases n with
  | zero=>simp
  | succ n=>
   rw[XK,List.drop_succ_cons,<- ih (fun y a=>h y (by simp[a])) n,Nat.add_mul,Nat.one_mul,Nat.add_comm,<- h1,List.drop_append]
   simp
theorem KU{xs:List PV}{sz:Nat}(h : ∀ x∈xs,x.cells.length=sz): ∀ n,(flat xs).take (n*sz)=flat (xs.take n):=by
 induction xs with
 | nil=>intro n;simp[flat]
 | cons x xs ih=>
  intro n
  have h1:=h x (by simp)
  cases n with
  | zero=>simp[flat]
  | succ n=>
   rw[XK,List.take_succ_cons,XK,<- ih (fun y a=>h y (by simp[a])) n,Nat.add_mul,Nat.one_mul,Nat.add_comm,<- h1,List.take_append]
   rw[List.take_of_length_le (by omega)]
   simp
theorem CK{xs:List PV}{sz i:Nat}{y:PV}(h : ∀ x∈xs,x.cells.length=sz)(a:xs[i]? = some y):((flat xs).drop (i*sz)).take sz=y.cells:=by
 have hi:=(List.getElem?_eq_some_iff.1 a).1
 have e:xs[i]=y:=by rw[List.getElem?_eq_getElem hi]at a;exact Option.some.inj a
 rw[Qc h,List.drop_eq_getElem_cons hi,e,XK,<- h y (e▸List.getElem_mem hi)]
 simp
theorem RP.sl_cells{Φ:ZM}{w:World}{v:Value}{sz:Nat}{t:Bool}{xs:List PV}(h:RP Φ v (.sl sz t xs))(s:WH Φ w)(y:xs≠[]):
  ∃ b off c cs q,v = .slice (some ⟨b,off,none⟩) xs.length c∧Φ b=some cs∧xs.length<=c∧(t=true->c=xs.length)∧(∀ x∈xs,x.cells.length=sz)∧Vt w b off q∧XW Φ q (flat xs)∧YM q:=by
 cases h with
 | sl0=>exact absurd rfl y
 | sl b off cs c _ _ _ u hb hc ht hs hu hr=>
  obtain⟨T,fz,z⟩:=s b cs hb
  refine⟨b,off,c,cs,(List.range (flat xs).length).map u,rfl,hb,hc,ht,hs,?_,⟨by simp,?_⟩,?_⟩
  ·intro j v e
   rw[List.getElem?_map]at e
   obtain⟨k,g,rfl⟩:=Option.map_eq_some_iff.1 e
   obtain⟨l,rfl⟩:j<(flat xs).length∧j=k:=by
    have:=List.getElem?_eq_some_iff.1 g
    obtain⟨a,b⟩:=this
    simp at a b
    exact⟨a,b⟩
   have:=(hu j _ (List.getElem?_eq_getElem l)).1
   simp[World.cell?,z,this]
  ·intro j v x e r
   rw[List.getElem?_map]at e
   obtain⟨k,g,rfl⟩:=Option.map_eq_some_iff.1 e
   obtain⟨l,rfl⟩:j<(flat xs).length∧j=k:=by
    have:=List.getElem?_eq_some_iff.1 g
    obtain⟨a,b⟩:=this
    simp at a b
    exact⟨a,b⟩
   exact hr j x r
  ·intro v e
   obtain⟨k,g,rfl⟩:=List.mem_map.1 e
   simp at g
   exact(hu k _ (List.getElem?_eq_getElem g)).2
theorem RP.rptr_cells{Φ:ZM}{w:World}{v:Value}{xs:List PV}(h:RP Φ v (.rptr xs))(s:WH Φ w):
  ∃ b off r,v = .pointer (some ⟨b,off,none⟩)∧Vt w b off r∧XW Φ r xs∧YM r:=by
 cases h with
 | rptr b off cs _ u hb hu hr=>
  obtain⟨T,fz,y⟩:=s b cs hb
  refine⟨b,off,(List.range xs.length).map u,rfl,?_,⟨by simp,?_⟩,?_⟩
  ·intro j v e
   rw[List.getElem?_map]at e
   obtain⟨k,g,rfl⟩:=Option.map_eq_some_iff.1 e
   obtain⟨l,rfl⟩:j<xs.length∧j=k:=by
    have:=List.getElem?_eq_some_iff.1 g
    obtain⟨a,b⟩:=this
    simp at a b
    exact⟨a,b⟩
   have:=(hu j _ (List.getElem?_eq_getElem l)).1
   simp[World.cell?,y,this]
  ·intro j v x e q
   rw[List.getElem?_map]at e
   obtain⟨k,g,rfl⟩:=Option.map_eq_some_iff.1 e
   obtain⟨l,rfl⟩:j<xs.length∧j=k:=by
    have:=List.getElem?_eq_some_iff.1 g
    obtain⟨a,b⟩:=this
    simp at a b
    exact⟨a,b⟩
   exact hr j x q
  ·intro v e
   obtain⟨k,g,rfl⟩:=List.mem_map.1 e
   simp at g
   exact(hu k _ (List.getElem?_eq_getElem g)).2
end
section
def WI(P:Program)(s:Sem Next)(w:World)(K:Value->World->Prop):Prop:=
 match s.run P w with
 | .ok (.value v) w'=>K v w'
 | .ok .skip w'=>K Go.undef w'
 | .ok (.enter f args) w'=>Calls P f args w' fun e b=> ∃ v,e = .returned v∧K v b
 | _=>False
def VS(P:Program)(s:Sem Value)(w:World)(K:Value->World->Prop):Prop:= ∃ v w',s.run P w = .ok v w'∧K v w'
def Z0(c:Ctx)(μ:Mu)(Φ:ZM)(σ':Zw)(x:AV)(v:Value)(w':World):Prop:=
 ∃ b Φ',μ.le b∧Φ.le Φ'∧Good c b Φ' σ' w'∧R b Φ' v x
theorem VS.gives{P:Program}{s:Sem Value}{w:World}{K:Value->World->Prop}(h:VS P s w K):WI P (do pure (.value (<- s))) w K:=by
 obtain⟨v,w',h1,h2⟩:=h
 simp[WI,h1,h2]
theorem Zj{c:Ctx}{μ:Mu}{Φ:ZM}{σ:Zw}{w:World}{x:AV}{v:Value}(b:Good c μ Φ σ w)(h:R μ Φ v x):Z0 c μ Φ σ x v w:=
 ⟨μ,Φ,Mu.le.refl _,ZM.le.refl _,b,h⟩
section
variable {P:Program} {c:Ctx} {μ:Mu} {Φ:ZM} {σ σ':Zw} {w:World} {a:Act} {env:List AV} {L:Nat} {x:AV}
theorem Tn(g:Good c μ Φ σ w){l:Nat}{cs:List AV}(h:σ[l]? = some (.obj (.box cs))){B C S:Nat}(hm:μ l 0=some (B,C,S)):
  ∃ b T,w.heap[B]? = some (.cells b T (0,0))∧RL μ Φ b.toList cs∧YM b.toList∧Vt w B 0 b.toList:=by
 obtain⟨B',C',S',T,b,h1,h2,h3,e,h5⟩:=g.obj l _ h
 rw[hm]at h1
 cases h1
 exact⟨b,T,h2,h3,e,fun j v k=>by
  have:b[j]? = some v:=by simpa using k
  simp[World.cell?,h2,this]⟩
theorem Qi(s:Good c μ Φ σ w){l:Nat}{fz:Bool}{ty sz:Nat}{xs:List PV}(q:σ[l]? = some (.obj (.row fz ty sz xs))){n B C S:Nat}(hn:xs.length=n)(hm:μ l n=some (B,C,S)):
  S=sz∧ ∃ b,Wm w B b ty n C∧b.size=C*sz∧xs.length<=C∧C<=maxLen∧(∀ x∈xs,x.cells.length=sz)∧XW Φ (b.toList.take (xs.length*sz)) (flat xs)∧YM (b.toList.take (xs.length*sz)):=by
 obtain⟨B',C',b,h1,h2,h3,g,j,r,k,h,e,h10⟩:=s.obj l _ q
 rw[hn,hm]at h1
 cases h1
 exact⟨rfl,b,hn▸h3,g,j,r,k,h,e⟩
theorem LQ{b:Array Value}{sz i:Nat}{xs:List PV}{y:PV}{B n C:Nat}{ty:TypeId}(g:Wm w B b ty n C)(hs : ∀ x∈xs,x.cells.length=sz)
  (hr:XW Φ (b.toList.take (xs.length*sz)) (flat xs)) (ho:YM (b.toList.take (xs.length*sz))) (h:xs[i]? = some y) :
  Vt w B (i*sz) ((b.toList.drop (i*sz)).take sz)∧XW Φ ((b.toList.drop (i*sz)).take sz) y.cells∧YM ((b.toList.drop (i*sz)).take sz):=by
 have hi:=(List.getElem?_eq_some_iff.1 h).1
 have hle:i*sz+sz<=xs.length*sz:=by
  have:(i+1)*sz<=xs.length*sz:=Nat.mul_le_mul_right _ hi
  rwa [Nat.add_mul,Nat.one_mul]at this
 have e:((b.toList.take (xs.length*sz)).drop (i*sz)).take sz=(b.toList.drop (i*sz)).take sz:=by
  rw[List.drop_take,List.take_take,Nat.min_eq_left (by omega)]
 obtain⟨z,g,_⟩:=g
 refine⟨Y7 g _ _,?_,?_⟩
 ·have:=(hr.drop (i*sz)).take sz
  rw[e,CK hs h]at this
  exact this
 ·have:=(ho.drop (i*sz)).take sz
  rwa [e]at this
theorem c4r{t:TypeId}{i:TypeInfo}{shs:List Sh}{v:Value}{X:IOp}(hu:(P.underlying t).isSome=true)(hi:P.info? t=some i)(e:shs.length=i.size)(h:Good c μ Φ σ w)(k:R μ Φ v (ev env X))
  (hr:(YO L env (.load (Xn P t) shs X)).run σ=some (x,σ')):VS P (Instr.loadAt t v) w (Z0 c μ Φ σ' x):=by
 simp only[YO]at hr
 split at hr
 ·rename_i ps q
  rw[q]at k
  obtain⟨b,off,A,rfl,hc,F,ho⟩:=(Yk k).rptr_cells h.phi
  obtain⟨rfl,u,h1,h2⟩:=FO (P:=P) (μ:=μ) hu hi e hc F ho hr
  exact⟨u,w,by simpa [Instr.loadAt,Instr.sureAddr]using h1,Zj h h2⟩
 ·rename_i l o q
  rw[q]at k
  obtain⟨ob,g,hr⟩:=Xc hr
  split at hr
  ·rename_i cs
   obtain⟨z,rfl⟩:=Vj hr
   rw[e]at z
   cases k with
   | ptr _ _ B C S hm=>
    obtain⟨A,T,h1,h2,h3,r⟩:=Tn h g hm
    obtain⟨u,k1,y⟩:=a5r (P:=P) hu hi r h2 h3 z
    exact⟨u,w,by simpa [Instr.loadAt,Instr.sureAddr]using k1,Zj h y⟩
  ·exact(Zh hr).elim
 ·rename_i l m j o q
  rw[q]at k
  obtain⟨ob,g,hr⟩:=Xc hr
  split at hr
  ·rename_i fz ty sz xs
   have s:=ZZ hr
   clear hr
   obtain⟨D,hr⟩:=s
   simp only[Bool.and_eq_true,beq_iff_eq,decide_eq_true_eq]at D
   obtain⟨hn,E⟩:=D
   have K:xs[j]? = some (xs.getD j default):=by simp[List.getD,List.getElem?_eq_getElem E]
   cases k with
   | eptr _ _ _ _ B C S hm=>
    obtain⟨rfl,A,h1,h2,h3,h3',r,J,H⟩:=Qi h g hn hm
    obtain⟨N,I,M⟩:=LQ h1 r J H K
    obtain⟨rfl,u,k1,y⟩:=FO (P:=P) (μ:=μ) hu hi e N I M hr
    exact⟨u,w,by simpa [Instr.loadAt,Instr.sureAddr]using k1,Zj h y⟩
  ·exact(Zh hr).elim
 ·exact(Zh hr).elim
theorem RP.str'{s:ByteArray}{l:List UInt8}(h:s.data.toList=l):RP Φ (.string s) (.str l):=h ▸ .str s
theorem b1t{op:BinOp}{k:IntKind}{x y:Int}{r:PV}(hop:a4y op=false)(h:d4w op k x y=some (true,r))(t:TypeId): ∃ v,(binOp op t (.int k x) (.int k y)).run P w = .ok v w∧RP Φ v r:=by
 cases op <;> simp only[d4w,e3y,Option.map_some,Option.map_none,Option.some.injEq,Prod.mk.injEq,true_and,reduceCtorEq]at h
 case quo=>
  obtain⟨b,rfl⟩:=h
  have b : ¬ y=0:=by simpa using b
  exact⟨_,by simp[binOp,Op.intDiv,b] <;> rfl,.int _ _⟩
 case rem=>
  obtain⟨b,rfl⟩:=h
  have b : ¬ y=0:=by simpa using b
  exact⟨_,by simp[binOp,Op.intDiv,b] <;> rfl,.int _ _⟩
 case add=>subst h;exact⟨_,by simp[binOp,Op.intArith] <;> rfl,.int _ _⟩
 case sub=>subst h;exact⟨_,by simp[binOp,Op.intArith] <;> rfl,.int _ _⟩
 case mul=>subst h;exact⟨_,by simp[binOp,Op.intArith] <;> rfl,.int _ _⟩
 case and=>subst h;exact⟨_,by simp only[binOp,ne_eq,not_true_eq_false,if_false];rfl,.int _ _⟩
 case or=>subst h;exact⟨_,by simp only[binOp,ne_eq,not_true_eq_false,if_false];rfl,.int _ _⟩
 case xor=>subst h;exact⟨_,by simp only[binOp,ne_eq,not_true_eq_false,if_false];rfl,.int _ _⟩
 case andNot=>subst h;exact⟨_,by simp only[binOp,ne_eq,not_true_eq_false,if_false];rfl,.int _ _⟩
 all_goals (subst h;exact⟨_,by simp[binOp,Op.intCmp] <;> rfl,.bool _⟩)
theorem a1w{op:BinOp}{k e:IntKind}{x y:Int}{r:PV}(h:Ep op k x y=some (true,r))(t:TypeId): ∃ v,(binOp op t (.int k x) (.int e y)).run P w = .ok v w∧RP Φ v r:=by
 cases op <;> simp only[Ep,Option.some.injEq,Prod.mk.injEq,decide_eq_true_eq,reduceCtorEq]at h
 all_goals
  obtain⟨b,rfl⟩:=h
  have b : ¬ y<0:=by omega
  exact⟨_,by simp[binOp,Op.shift,b] <;> rfl,.int _ _⟩
theorem c0n{op:BinOp}{a b:ByteArray}{r:PV}(h:d4r op a.data.toList b.data.toList=some (true,r))(t:TypeId): ∃ v,(binOp op t (.string a) (.string b)).run P w = .ok v w∧RP Φ v r:=by
 cases op <;> simp[d4r]at h
 case add=>
  obtain⟨h1,rfl⟩:=h
  have e1:a.data.toList.length=a.size:=by simp
  have e2:b.data.toList.length=b.size:=by simp
  refine⟨.string (a++b),?_,RP.str' (by simp[ByteArray.data_append])⟩
  have:=run_string_add_sum (P:=P) w a b (by omega)
  simpa [binOp]using this
 all_goals (subst h;exact⟨_,by simp[binOp,Op.stringOp,ByteArray.toList_eq] <;> rfl,.bool _⟩)
theorem Ja{k b:IntKind}(h:J4 k b=true):k=b:=by cases k <;> cases b <;> first|rfl|simp[J4]at h
def Gb(P:Program):Nat->List Field->Option (List Nat)
 | _,[]=>some []
 | k,f::fs=>if f.name ≠ "_" ∧f.offset=k then
   match P.underlying f.type with
   | some (.int _)=>(Gb P (k+1) fs).map (0:: ·)
   | some .string=>(Gb P (k+1) fs).map (1:: ·)
   | some .bool=>(Gb P (k+1) fs).map (2:: ·)
   | _=>none
  else none
def MG(P:Program)(op:BinOp)(t:TypeId)(y:Operand):Option Kd:=
 match P.underlying t with
 | some .bool=>some .bool
 | some (.pointer _)=>some .ptr
 | some (.interface _)=>match y with | .const _=>some .ifc|_=>none
 | some (.int _)|some .string=>some .num
 | some (.struct fs)=>if P.stoodInHeld t=false∧P.eqGuardType P.depth t=false then(Gb P 0 fs.toList).map .agg else none
 | _=>none
theorem eqg{op:BinOp}{t:TypeId}{xo yo:Operand}{u v:Value}(hu:u ≠ .nilIface)(ha : ∀ cs,u ≠ .agg cs):(eqGuard op t xo yo u v).run P w = .ok () w:=by
 unfold eqGuard
 cases u <;> first|exact absurd rfl hu|exact absurd rfl (ha _)|(cases op <;> rfl)
theorem Vk(t:TypeId)(x y:Value):Op.equal t x y=Op.equalIn (9999+1) t x y:=rfl
theorem UC{P:Program}{w:World}{t:TypeId}{cs:Array Value}{k:Nat}{v:Value}(hu:(P.underlying t).isSome=true)(ha:Xn P t=false)(b:cs[k]? = some v):(part t cs k).run P w = .ok v w:=by
 unfold part
 simp only[Sem.run_bind,K9 hu,ha,Result.andThen_ok,b,Bool.false_eq_true,if_false]
 rfl
theorem N9{d:Nat}{xs ys:Array Value}{ps qs:List PV}(hxn:xs.size=ps.length)(hyn:ys.size=qs.length)(Z : ∀ (j:Nat) v p,xs[j]? = some v->ps[j]? = some p->RP Φ v p)(hy : ∀ (j:Nat) v p,ys[j]? = some v->qs[j]? = some p->RP Φ v p):
  ∀ (E:List Field) (k:Nat) (ks:List Nat) (b:Bool),Gb P k E=some ks->Sk ks (ps.drop k) (qs.drop k)=some b->(Op.eqFields (d+1) xs ys E).run P w = .ok b w:=by
 intro E
 induction E with
 | nil=>
  intro k ks b z hb
  simp only[Gb,Option.some.injEq]at z
  subst z
  simp only[Op.eqFields,Sem.run_pure]
  cases A:ps.drop k <;> cases B:qs.drop k <;> rw[A,B]at hb <;> simp[Sk]at hb
  subst hb;rfl
 | cons f E ih=>
  intro k ks b z hb
  simp only[Gb]at z
  split at z
  ·rename_i hn
   obtain⟨S,V⟩:=hn
   have D : ∀ (n:Nat),(Gb P (k+1) E).map (n:: ·)=some ks->Xn P f.type=false->(P.underlying f.type).isSome=true ->
     (∀ (p q:PV) (u v:Value) (r:Bool),Sk [n] [p] [q]=some r->RP Φ u p->RP Φ v q->(Op.equalIn (d+1) f.type u v).run P w = .ok r w) ->
     (∀ (p q:PV) (s g:List PV) (e:List Nat) (b:Bool),Sk (n::e) (p::s) (q::g)=some b-> ∃ r l,Sk [n] [p] [q]=some r∧Sk e s g=some l∧b=(r&&l))->(Op.eqFields (d+1) xs ys (f::E)).run P w = .ok b w:=by
    intro n hm ha hu he U
    obtain⟨e,J,rfl⟩:=Option.map_eq_some_iff.1 hm
    cases A:ps.drop k with
    | nil=>rw[A]at hb;simp[Sk]at hb
    | cons p s=>
     cases B:qs.drop k with
     | nil=>rw[A,B]at hb;simp[Sk]at hb
     | cons q g=>
      rw[A,B]at hb
      obtain⟨r,l,h1,h2,rfl⟩:=U p q s g e b hb
      have F:k<ps.length:=by
       rcases Nat.lt_or_ge k ps.length with h|h
       ·exact h
       ·rw[List.drop_eq_nil_of_le h]at A;cases A
      have H:k<qs.length:=by
       rcases Nat.lt_or_ge k qs.length with h|h
       ·exact h
       ·rw[List.drop_eq_nil_of_le h]at B;cases B
      rw[List.drop_eq_getElem_cons F,List.cons.injEq]at A
      rw[List.drop_eq_getElem_cons H,List.cons.injEq]at B
      obtain⟨O,rfl⟩:=A
      obtain⟨M,rfl⟩:=B
      have ex:xs[k]? = some (xs[k]'(by omega)):=Array.getElem?_eq_getElem (by omega)
      have X:ys[k]? = some (ys[k]'(by omega)):=Array.getElem?_eq_getElem (by omega)
      have W:=Z k _ _ ex (List.getElem?_eq_getElem F)
      have Y:=hy k _ _ X (List.getElem?_eq_getElem H)
      rw[O]at W
      rw[M]at Y
      have T:=ih (k+1) e l J h2
      have N:=he p q _ _ r h1 W Y
      rw[Op.eqFields,if_pos S,V]
      simp only[Sem.run_bind,UC hu ha ex,UC hu ha X,Result.andThen_ok,N]
      cases r
      ·simp[Sem.run_pure]
      ·simpa using T
   have C : ∀ (P Q:Option Bool) (a:Bool) (b:Bool),P.map (fun r=>a&&r)=some b-> ∃ l,P=some l∧b=(a&&l):=fun P Q a b h=>by
    obtain⟨l,h1,h2⟩:=Option.map_eq_some_iff.1 h
    exact⟨l,h1,h2.symm⟩
   split at z
   ·rename_i kk hu
    refine D 0 z (by simp[Xn,hu]) (by simp[hu]) ?_ ?_
    ·intro p q u v r h I K
     cases p <;> cases q <;> simp[Sk]at h
     split at h
     ·rename_i y
      have y:=Ja y
      subst y
      simp[Sk]at h
      subst h
      cases I;cases K
      exact run_equalIn_int w d f.type _ _ _ _ hu
     ·cases h
    ·intro p q s g e b h
     cases p <;> cases q <;> simp only[Sk,reduceCtorEq]at h
     split at h
     ·rename_i y
      obtain⟨l,h1,rfl⟩:=C _ none _ _ h
      exact⟨_,l,by simp[Sk,y],h1,rfl⟩
     ·cases h
   ·rename_i hu
    refine D 1 z (by simp[Xn,hu]) (by simp[hu]) ?_ ?_
    ·intro p q u v r h I K
     cases p <;> cases q <;> simp[Sk]at h
     subst h
     cases I;cases K
     rw[run_equalIn_string w d f.type _ _ hu,ByteArray.toList_eq,ByteArray.toList_eq]
    ·intro p q s g e b h
     cases p <;> cases q <;> simp only[Sk,reduceCtorEq]at h
     obtain⟨l,h1,rfl⟩:=C _ none _ _ h
     exact⟨_,l,by simp[Sk],h1,rfl⟩
   ·rename_i hu
    refine D 2 z (by simp[Xn,hu]) (by simp[hu]) ?_ ?_
    ·intro p q u v r h I K
     cases p <;> cases q <;> simp[Sk]at h
     subst h
     cases I;cases K
     exact run_equalIn_bool' w d f.type _ _ hu
    ·intro p q s g e b h
     cases p <;> cases q <;> simp only[Sk,reduceCtorEq]at h
     obtain⟨l,h1,rfl⟩:=C _ none _ _ h
     exact⟨_,l,by simp[Sk],h1,rfl⟩
   ·cases z
  ·cases z
theorem e0b{op:BinOp}{t:TypeId}{xo yo:Operand}{u v:Value}{X Y:IOp}{kd:Kd}(j:MG P op t yo=some kd)(O:Good c μ Φ σ w)(hu:R μ Φ u (ev env X))(l:R μ Φ v (ev env Y))
  (hr:(YO L env (.bin kd op X Y)).run σ=some (x,σ')):VS P (do eqGuard op t xo yo u v;binOp op t u v) w (Z0 c μ Φ σ' x):=by
 simp only[YO]at hr
 split at hr
 case h_2=>exact(Zh hr).elim
 rename_i rq r h
 have F:=ZZ hr
 clear hr
 obtain⟨rfl,hr⟩:=F
 obtain⟨rfl,rfl⟩:=Zu hr
 generalize ev env X=X' at hu h
 generalize ev env Y=Y' at l h
 have y : ∀ v',(∃ z,(do eqGuard op t xo yo u v;binOp op t u v:Sem Value).run P w = .ok z w∧RP Φ z v')->v'=r->VS P (do eqGuard op t xo yo u v;binOp op t u v) w (Z0 c μ Φ σ' (.pv r)):=by
  rintro _ ⟨z,h1,h2⟩ rfl
  exact⟨z,w,h1,Zj O (.pv _ _ h2)⟩
 unfold e5o at h
 split at h
 ·replace hu:=Yk hu
  cases hu
  replace l:=Yk l
  cases l
  refine y r ?_ rfl
  have g:=fun u v hu ha=>eqg (P:=P) (w:=w) (op:=op) (t:=t) (xo:=xo) (yo:=yo) (u:=u) (v:=v) hu ha
  split at h
  ·obtain⟨z,h1,h2⟩:=a1w (P:=P) (w:=w) (Φ:=Φ) h t
   exact⟨z,by rw[Sem.run_bind,g _ _ (by simp) (by simp)];exact h1,h2⟩
  ·rename_i A
   split at h
   ·rename_i e
    have e:=Ja e
    subst e
    obtain⟨z,h1,h2⟩:=b1t (P:=P) (w:=w) (Φ:=Φ) A h t
    exact⟨z,by rw[Sem.run_bind,g _ _ (by simp) (by simp)];exact h1,h2⟩
   ·cases h
 ·replace hu:=Yk hu
  cases hu
  replace l:=Yk l
  cases l
  refine y r ?_ rfl
  have g:=fun u v hu ha=>eqg (P:=P) (w:=w) (op:=op) (t:=t) (xo:=xo) (yo:=yo) (u:=u) (v:=v) hu ha
  obtain⟨z,h1,h2⟩:=c0n (P:=P) (w:=w) (Φ:=Φ) h t
  exact⟨z,by rw[Sem.run_bind,g _ _ (by simp) (by simp)];exact h1,h2⟩
 ·replace hu:=Yk hu
  cases hu
  replace l:=Yk l
  cases l
  refine y r ?_ rfl
  have g:=fun u v hu ha=>eqg (P:=P) (w:=w) (op:=op) (t:=t) (xo:=xo) (yo:=yo) (u:=u) (v:=v) hu ha
  have ht:P.underlying t=some .bool:=by
   unfold MG at j
   split at j <;> first|assumption|(simp at j)|(split at j <;> simp at j)
  have s : ∀ a b,(Op.equal t (.bool a) (.bool b)).run P w = .ok (a==b) w:=fun a b=>by rw[Vk];unfold Op.equalIn;simp[run_underlying ht]
  unfold eqB at h
  split at h
  ·cases h;exact⟨_,by rw[Sem.run_bind,g _ _ (by simp) (by simp)];simp[binOp,s] <;> rfl,.bool _⟩
  ·cases h;exact⟨_,by rw[Sem.run_bind,g _ _ (by simp) (by simp)];simp[binOp,s] <;> rfl,.bool _⟩
  ·cases h
 ·replace hu:=Yk hu
  cases hu
  replace l:=Yk l
  cases l
  refine y r ?_ rfl
  have g:=fun u v hu ha=>eqg (P:=P) (w:=w) (op:=op) (t:=t) (xo:=xo) (yo:=yo) (u:=u) (v:=v) hu ha
  obtain⟨e,ht⟩ : ∃ e,P.underlying t=some (.pointer e):=by
   unfold MG at j
   split at j <;> first|exact⟨_,‹_›⟩|(simp at j)|(split at j <;> simp at j)
  have s:(Op.equal t (.pointer none) (.pointer none)).run P w = .ok true w:=by rw[Vk];unfold Op.equalIn;simp[run_underlying ht]
  unfold eqB at h
  split at h
  ·cases h;exact⟨_,by rw[Sem.run_bind,g _ _ (by simp) (by simp)];simp[binOp,s] <;> rfl,.bool _⟩
  ·cases h;exact⟨_,by rw[Sem.run_bind,g _ _ (by simp) (by simp)];simp[binOp,s] <;> rfl,.bool _⟩
  ·cases h
 ·cases hu
  replace l:=Yk l
  cases l
  refine y r ?_ rfl
  have g:=fun u v hu ha=>eqg (P:=P) (w:=w) (op:=op) (t:=t) (xo:=xo) (yo:=yo) (u:=u) (v:=v) hu ha
  obtain⟨e,ht⟩ : ∃ e,P.underlying t=some (.pointer e):=by
   unfold MG at j
   split at j <;> first|exact⟨_,‹_›⟩|(simp at j)|(split at j <;> simp at j)
  have s : ∀ q,(Op.equal t (.pointer (some q)) (.pointer none)).run P w = .ok false w:=fun q=>by rw[Vk];unfold Op.equalIn;simp[run_underlying ht]
  unfold eqB at h
  split at h
  ·cases h;exact⟨_,by rw[Sem.run_bind,g _ _ (by simp) (by simp)];simp[binOp,s] <;> rfl,.bool _⟩
  ·cases h;exact⟨_,by rw[Sem.run_bind,g _ _ (by simp) (by simp)];simp[binOp,s] <;> rfl,.bool _⟩
  ·cases h
 ·replace hu:=Yk hu
  cases hu
  replace l:=Yk l
  cases l
  refine y r ?_ rfl
  have g:=fun u v hu ha=>eqg (P:=P) (w:=w) (op:=op) (t:=t) (xo:=xo) (yo:=yo) (u:=u) (v:=v) hu ha
  obtain⟨e,ht⟩ : ∃ e,P.underlying t=some (.pointer e):=by
   unfold MG at j
   split at j <;> first|exact⟨_,‹_›⟩|(simp at j)|(split at j <;> simp at j)
  have s : ∀ q,(Op.equal t (.pointer (some q)) (.pointer none)).run P w = .ok false w:=fun q=>by rw[Vk];unfold Op.equalIn;simp[run_underlying ht]
  unfold eqB at h
  split at h
  ·cases h;exact⟨_,by rw[Sem.run_bind,g _ _ (by simp) (by simp)];simp[binOp,s] <;> rfl,.bool _⟩
  ·cases h;exact⟨_,by rw[Sem.run_bind,g _ _ (by simp) (by simp)];simp[binOp,s] <;> rfl,.bool _⟩
  ·cases h
 ·rename_i p
  replace hu:=Yk hu
  replace l:=Yk l
  cases l
  have Q : ∃ k M,yo = .const k∧P.underlying t=some (.interface M):=by
   unfold MG at j
   split at j <;> first|(simp at j;done)|(split at j <;> first|exact⟨_,_,rfl,‹_›⟩|(simp at j;done))
  obtain⟨k,M,rfl,ht⟩:=Q
  obtain⟨⟨q1,N⟩,hq,hqe⟩:=Option.map_eq_some_iff.1 h
  simp only[Prod.mk.injEq,Bool.and_eq_true]at hqe
  obtain⟨⟨K,rfl⟩,rfl⟩:=hqe
  refine y N ?_ rfl
  cases hu <;> simp[Jh]at K
  ·have B:(eqGuard op t xo (.const k) .nilIface .nilIface).run P w = .ok () w:=by
    unfold eqGuard
    cases xo <;> cases op <;> rfl
   have s:(Op.equal t .nilIface .nilIface).run P w = .ok true w:=by rw[Vk];unfold Op.equalIn;simp[run_underlying ht]
   unfold eqB XP at hq
   split at hq
   ·cases hq;exact⟨_,by rw[Sem.run_bind,B];simp[binOp,s] <;> rfl,.bool _⟩
   ·cases hq;exact⟨_,by rw[Sem.run_bind,B];simp[binOp,s] <;> rfl,.bool _⟩
   ·cases hq
  ·have g:=fun u v hu ha=>eqg (P:=P) (w:=w) (op:=op) (t:=t) (xo:=xo) (yo:=.const k) (u:=u) (v:=v) hu ha
   have s : ∀ t' v',(Op.equal t (.iface t' v') .nilIface).run P w = .ok false w:=fun t' v'=>by rw[Vk];unfold Op.equalIn;simp[run_underlying ht]
   unfold eqB XP at hq
   split at hq
   ·cases hq;exact⟨_,by rw[Sem.run_bind,g _ _ (by simp) (by simp)];simp[binOp,s] <;> rfl,.bool _⟩
   ·cases hq;exact⟨_,by rw[Sem.run_bind,g _ _ (by simp) (by simp)];simp[binOp,s] <;> rfl,.bool _⟩
   ·cases hq
 ·rename_i ks ps qs
  replace hu:=Yk hu
  replace l:=Yk l
  cases hu with
  | agg cs _ hn ho hr=>
   cases l with
   | agg ds _ hm hp hs=>
    refine y r ?_ rfl
    obtain⟨C,ht,I,D,J⟩ : ∃ C,P.underlying t=some (.struct C)∧P.stoodInHeld t=false∧P.eqGuardType P.depth t=false∧Gb P 0 C.toList=some ks:=by
     unfold MG at j
     split at j <;> first
      | (simp at j;done)
      | (split at j <;> first
        | (simp at j;done)
        | (rename_i C ht hc;obtain⟨ks',H,e⟩:=Option.map_eq_some_iff.1 j;cases e;exact⟨C,ht,hc.1,hc.2,H⟩))
    obtain⟨b,hb,A⟩:=Option.bind_eq_some_iff.1 h
    have E:P.fieldsOf t=C:=by simp[Program.fieldsOf,ht]
    have s:(Op.equalIn 10000 t (.agg cs) (.agg ds)).run P w = .ok b w:=by
     rw[run_equalIn_struct w 9999 t cs ds (by rw[E];exact ht) I,E]
     exact N9 hn hm hr hs C.toList 0 ks b J (by simpa using hb)
    unfold eqB at A
    split at A
    ·cases A;exact⟨_,by rw[Sem.run_bind,run_eqGuard_agg w _ t xo yo cs ds D];simp only[Result.andThen_ok];rw[run_eql_struct w t cs ds,s];rfl,.bool _⟩
    ·cases A;exact⟨_,by rw[Sem.run_bind,run_eqGuard_agg w _ t xo yo cs ds D];simp only[Result.andThen_ok];rw[run_neq_struct w t cs ds,s];rfl,.bool _⟩
    ·cases A
 ·cases h
end
end
section
section
variable {P:Program} {c:Ctx} {μ:Mu} {Φ:ZM} {σ σ':Zw} {w:World} {a:Act} {env:List AV} {L:Nat} {x:AV}
theorem a2t{α:Type}{b:Bool}{k:Bool->HM α}{σ σ':Zw}{x:α}(h:(HM.ask b k).run σ=some (x,σ')):(k b).run σ=some (x,σ'):=h
theorem d0h{u v z:Value}{X Y Z:IOp}(b:Good c μ Φ σ w)(hu:R μ Φ u (ev env X))(h:R μ Φ v (ev env Y))(g:R μ Φ z (ev env Z))
  (hr:(YO L env (.pick X Y Z)).run σ=some (x,σ')):VS P (do pure (if <- asBool u then v else z)) w (Z0 c μ Φ σ' x):=by
 simp only[YO]at hr
 split at hr
 ·rename_i d e
  rw[e]at hu
  replace hr:=a2t hr
  replace hu:=Yk hu
  cases hu
  cases d
  ·obtain⟨rfl,rfl⟩:=Zu hr
   exact⟨z,w,by simp[asBool],Zj b g⟩
  ·obtain⟨rfl,rfl⟩:=Zu hr
   exact⟨v,w,by simp[asBool],Zj b h⟩
 ·exact(Zh hr).elim
theorem e0j{op:UnOp}{u:Value}{X:IOp}(b:Good c μ Φ σ w)(hu:R μ Φ u (ev env X))(hr:(YO L env (.un op X)).run σ=some (x,σ')):VS P (Op.unary op u) w (Z0 c μ Φ σ' x):=by
 simp only[YO]at hr
 split at hr
 ·rename_i p e
  rw[e]at hu
  replace hu:=Yk hu
  obtain⟨h,rfl⟩:=Vj hr
  rw[Option.map_eq_some_iff]at h
  obtain⟨r,h,rfl⟩:=h
  unfold unB at h
  split at h
  ·cases h
   cases hu
   exact⟨_,w,rfl,Zj b (.pv _ _ (.bool _))⟩
  ·cases h
   cases hu
   exact⟨_,w,by simp[Op.unary,Op.intArith] <;> rfl,Zj b (.pv _ _ (by
    have : ∀ n:Int,0 - n = -n:=fun n=>by omega
    first|exact .int _ _|(rw[this];exact .int _ _)))⟩
  ·cases h
 ·exact(Zh hr).elim
theorem c7s{b dst:TypeId}{k:IntKind}{u:Value}{X:IOp}(hs:(P.underlying b).isSome=true)(hd:P.underlying dst=some (.int k))(g:Good c μ Φ σ w)(hu:R μ Φ u (ev env X))
  (hr:(YO L env (.conv k X)).run σ=some (x,σ')):VS P (convert b dst u) w (Z0 c μ Φ σ' x):=by
 simp only[YO]at hr
 split at hr
 ·rename_i k' n e
  rw[e]at hu
  replace hu:=Yk hu
  obtain⟨rfl,rfl⟩:=Zu hr
  cases hu
  obtain⟨d,hd'⟩:=Option.isSome_iff_exists.1 hs
  exact⟨.int k (k.wrap n),w,by simp[convert,run_underlying hd',run_underlying hd,Conv.intToInt],Zj g (.pv _ _ (.int _ _))⟩
 ·exact(Zh hr).elim
theorem a8k{u:Value}{X:IOp}(g:Good c μ Φ σ w)(hu:R μ Φ u (ev env X))(hr:(YO L env (.nilchk X)).run σ=some (x,σ'))(o:Oper)(ρ:Operand->Value)(y:Operand)(ho:o.op = .nilCheck y)(h:ρ y=u):
  WI P (execOp ρ o) w (Z0 c μ Φ σ' x):=by
 simp only[YO]at hr
 unfold WI execOp
 simp only[ho,h]
 split at hr
 ·rename_i e
  rw[e]at hu
  obtain⟨rfl,rfl⟩:=Zu hr
  cases hu with
  | ptr _ _ B C S hm=>exact Zj g (.ptr _ _ B C S hm)
 ·rename_i e
  rw[e]at hu
  obtain⟨rfl,rfl⟩:=Zu hr
  have b:=hu
  replace hu:=Yk hu
  cases hu
  exact Zj g b
 ·rename_i e
  rw[e]at hu
  obtain⟨rfl,rfl⟩:=Zu hr
  cases hu with
  | eptr _ _ _ _ B C S hm=>exact Zj g (.eptr _ _ _ _ B C S hm)
 ·rename_i e
  rw[e]at hu
  obtain⟨rfl,rfl⟩:=Zu hr
  have b:=hu
  cases hu
  exact Zj g b
 ·rename_i e
  rw[e]at hu
  obtain⟨rfl,rfl⟩:=Zu hr
  have b:=hu
  replace hu:=Yk hu
  cases hu
  exact Zj g b
 ·exact(Zh hr).elim
theorem d4g{ρ:Operand->Value}: ∀ {xs:List Operand} {ys:List IOp},Y0 Z5 xs=some ys->(∀ o p,Z5 o=some p->R μ Φ (ρ o) (ev env p))->RL μ Φ (xs.map ρ) (ys.map (ev env)):=by
 intro xs
 induction xs with
 | nil=>intro ys h _;cases h;exact RL.nil
 | cons o xs ih=>
  intro ys h hr
  simp only[Y0,Option.bind_eq_some_iff,Option.map_eq_some_iff]at h
  obtain⟨y,e,ys',b,rfl⟩:=h
  exact RL.cons (hr o y e) (ih b hr)
theorem c5q{f:Nat}{xs ys:Array Value}{g q:List IOp}(l:Good c μ Φ σ w)(e:RL μ Φ xs.toList (g.map (ev env)))(b:RL μ Φ ys.toList (q.map (ev env)))
  (hr:(YO L env (.mkfn f g q)).run σ=some (x,σ')):VS P (Instr.makeFunc (.func f) xs ys) w (Z0 c μ Φ σ' x):=by
 simp only[YO]at hr
 split at hr
 ·obtain⟨rfl,rfl⟩:=Zu hr
  have s:xs = #[]:=by simpa using e.unnil
  have r:ys = #[]:=by simpa using b.unnil
  subst s r
  exact⟨_,w,rfl,Zj l (.pv _ _ (.fn f))⟩
 ·obtain⟨rfl,rfl⟩:=Zu hr
  exact⟨_,w,rfl,Zj l (.fn f _ _ _ _ (by simpa using e.1) (by simpa using b.1) (fun j v x h k=>e.2 j v x (by simpa using h) k) (fun j v x h k=>b.2 j v x (by simpa using h) k))⟩
theorem Tq{h:Nat}{u:Value}{X:IOp}{I:Value->Sem Value}(key : ∀ q,(I (.pointer (some q))).run P w = .ok (.pointer (some (q.add h))) w)
  (k:Good c μ Φ σ w) (hu:R μ Φ u (ev env X)) (hr:(YO L env (.faddr h X)).run σ=some (x,σ')):VS P (I u) w (Z0 c μ Φ σ' x):=by
 simp only[YO]at hr
 split at hr
 ·rename_i e
  rw[e]at hu
  obtain⟨rfl,rfl⟩:=Zu hr
  cases hu with
  | ptr _ _ B C S hm=>exact⟨_,w,key _,Zj k (by rw[Xe];exact .ptr _ _ B C S hm)⟩
 ·rename_i e
  rw[e]at hu
  obtain⟨rfl,rfl⟩:=Zu hr
  replace hu:=Yk hu
  cases hu with
  | rptr b off cs xs u hb hu hrr=>
   refine⟨_,w,key _,Zj k ?_⟩
   rw[Xe]
   refine .pv _ _ (.rptr b (off+h) cs _ (fun j=>u (h+j)) hb ?_ ?_)
   ·intro j p g
    rw[List.getElem?_drop]at g
    have:=hu _ p g
    rwa [<- Nat.add_assoc]at this
   ·intro j p g
    rw[List.getElem?_drop]at g
    exact hrr _ p g
 ·rename_i e
  rw[e]at hu
  obtain⟨rfl,rfl⟩:=Zu hr
  cases hu with
  | eptr _ _ _ _ B C S hm=>exact⟨_,w,key _,Zj k (by rw[Xe,Nat.add_assoc];exact .eptr _ _ _ _ B C S hm)⟩
 ·exact(Zh hr).elim
theorem b7u{s:TypeId}{g:Array Field}{n:Nat}{f:Field}{i:TypeInfo}{u:Value}{X:IOp}(hs:P.underlying s=some (.struct g))(k:g[n]? = some f)(hi:P.info? f.type=some i)(j:(i.size==0)=false)
  (h:Good c μ Φ σ w) (hu:R μ Φ u (ev env X)) (hr:(YO L env (.faddr f.offset X)).run σ=some (x,σ')):VS P (Instr.fieldAt s u n) w (Z0 c μ Φ σ' x):=by
 have b : ¬ i.size=0:=by simpa using j
 have e : ∀ q,(Instr.fieldAt s (.pointer (some q)) n).run P w = .ok (.pointer (some (q.add f.offset))) w:=by
  intro q
  simp[Instr.fieldAt,run_underlying hs,k,Instr.sureAddr,fieldPlace,Z6 hi,b]
 exact Tq (I:=fun u=>Instr.fieldAt s u n) e h hu hr
theorem b4z{t e:TypeId}{n:Nat}{i:TypeInfo}{k:IntKind}{z:Int}{u:Value}{X:IOp}(ht:P.underlying t=some (.array n e))(hi:P.info? e=some i)(g:0<=z∧z<n)
  (h:Good c μ Φ σ w) (hu:R μ Φ u (ev env X)) (hr:(YO L env (.faddr (z.toNat*i.size) X)).run σ=some (x,σ')):VS P (Instr.indexAt t u (.int k z)) w (Z0 c μ Φ σ' x):=by
 have b : ∀ q,(Instr.indexAt t (.pointer (some q)) (.int k z)).run P w = .ok (.pointer (some (q.add (z.toNat*i.size)))) w:=by
  intro q
  simp[Instr.indexAt,run_underlying ht,Instr.sureAddr,asIntOf,Z6 hi,g.1,g.2]
 exact Tq (I:=fun u=>Instr.indexAt t u (.int k z)) b h hu hr
theorem Nb{t:TypeId}{i:TypeInfo}{cs:Array Value}{xs:List AV}{o:Nat}{y:AV}(hu:(P.underlying t).isSome=true)(hi:P.info? t=some i)(hr:RL μ Φ cs.toList xs)(ho:YM cs.toList)
  (b:He (Xn P t) i.size xs o=some y) : ∃ v,(part t cs o).run P w = .ok v w∧R μ Φ v y:=by
 unfold He at b
 simp only[part,Sem.run_bind,K9 hu,Result.andThen_ok]
 cases e:Xn P t with
 | true=>
  simp only[e,if_true]at b ⊢
  split at b
  ·cases b
   refine⟨.agg ((cs.toList.drop o).take i.size).toArray,?_,Bc ((hr.drop o).take _) ((ho.drop o).take _)⟩
   simp only[Sem.run_bind,Z6 hi,Result.andThen_ok,Sem.run_pure]
   congr 2
   apply Array.ext'
   simp[Array.toList_extract]
  ·cases b
 | false=>
  simp only[e,if_false,Bool.false_eq_true]at b ⊢
  obtain⟨v,h,g⟩:=hr.at_ b
  have:cs[o]? = some v:=by simpa using h
  exact⟨v,by simp[this],g⟩
theorem b8d{s:TypeId}{k:Array Field}{n:Nat}{f:Field}{i:TypeInfo}{u:Value}{X:IOp}(hs:P.underlying s=some (.struct k))(j:k[n]? = some f)(b:(P.underlying f.type).isSome=true)(hi:P.info? f.type=some i)
  (l:Good c μ Φ σ w) (hu:R μ Φ u (ev env X)) (hr:(YO L env (.field (Xn P f.type) f.offset i.size X)).run σ=some (x,σ')):VS P (Instr.field s u n) w (Z0 c μ Φ σ' x):=by
 simp only[YO]at hr
 split at hr
 ·rename_i ps e
  rw[e]at hu
  obtain⟨g,rfl⟩:=Vj hr
  replace hu:=Yk hu
  have hc:=Us hu rfl
  cases hu with
  | agg cs _ hn ho h=>
   obtain⟨v,h1,h2⟩:=Nb (P:=P) (w:=w) (μ:=μ) (cs:=cs) b hi hc.1.toRL hc.2 g
   exact⟨v,w,by simpa [Instr.field,run_underlying hs,j,asAgg]using h1,Zj l h2⟩
 ·rename_i ps e
  rw[e]at hu
  obtain⟨g,rfl⟩:=Vj hr
  have hc:=Ae hu rfl
  cases hu with
  | agg cs _ hn ho h=>
   obtain⟨v,h1,h2⟩:=Nb (P:=P) (w:=w) (μ:=μ) (cs:=cs) b hi hc.1 hc.2 g
   exact⟨v,w,by simpa [Instr.field,run_underlying hs,j,asAgg]using h1,Zj l h2⟩
 ·exact(Zh hr).elim
theorem Eh{u:Value}{X:IOp}{n:Nat}(k:Good c μ Φ σ w)(hu:R μ Φ u (ev env X))(hr:(YO L env (.extract X n)).run σ=some (x,σ')):VS P (Instr.extract u n) w (Z0 c μ Φ σ' x):=by
 simp only[YO]at hr
 split at hr
 ·rename_i ps g
  rw[g]at hu
  obtain⟨b,rfl⟩:=Vj hr
  rw[Option.map_eq_some_iff]at b
  obtain⟨p,l,rfl⟩:=b
  replace hu:=Yk hu
  cases hu with
  | tup cs _ hn h=>
   have j:=(List.getElem?_eq_some_iff.1 l).1
   have e:cs[n]? = some (cs[n]'(by omega)):=Array.getElem?_eq_getElem (by omega)
   exact⟨_,w,by simp[Instr.extract,e] <;> rfl,Zj k (.pv _ _ (h n _ p e l))⟩
 ·rename_i ps g
  rw[g]at hu
  obtain⟨b,rfl⟩:=Vj hr
  cases hu with
  | tup cs _ hn h=>
   have j:=(List.getElem?_eq_some_iff.1 b).1
   have e:cs[n]? = some (cs[n]'(by omega)):=Array.getElem?_eq_getElem (by omega)
   exact⟨_,w,by simp[Instr.extract,e] <;> rfl,Zj k (h n _ x e b)⟩
 ·exact(Zh hr).elim
theorem b7a{t:TypeId}{u v:Value}{X Y:IOp}(ht:P.underlying t=some .string)(y:Good c μ Φ σ w)(hu:R μ Φ u (ev env X))(e:R μ Φ v (ev env Y))(hr:(YO L env (.index X Y)).run σ=some (x,σ')):
  VS P (Instr.index t u v) w (Z0 c μ Φ σ' x):=by
 simp only[YO]at hr
 split at hr
 ·rename_i s k i q z
  rw[q]at hu
  rw[z]at e
  replace hu:=Yk hu
  replace e:=Yk e
  have j:=ZZ hr
  clear hr
  obtain⟨l,hr⟩:=j
  simp only[Bool.and_eq_true,decide_eq_true_eq]at l
  obtain⟨r,b⟩:=l
  obtain⟨rfl,rfl⟩:=Zu hr
  cases e
  cases hu with
  | str s=>
   have h:i.toNat<s.size:=by simpa using b
   have g:s[i.toNat]? = some (s.data.toList.getD i.toNat 0):=by
    rw[getElem?_pos s i.toNat h]
    have h2:s.data.toList.getD i.toNat 0=s.data.toList[i.toNat]:=by simp[List.getD,List.getElem?_eq_getElem b]
    rw[h2]
    rfl
   exact⟨_,w,by simp[Instr.index,asIntOf,run_underlying ht,r,g] <;> rfl,Zj y (.pv _ _ (.int _ _))⟩
 ·exact(Zh hr).elim
theorem a7j{sz:Nat}{t:Bool}{xs:List PV}{v:Value}{i:Nat}{y:PV}(h:RP Φ v (.sl sz t xs))(k:xs[i]? = some y):
  ∃ b off c,v = .slice (some ⟨b,off,none⟩) xs.length c∧RP Φ (.pointer (some ⟨b,off+i*sz,none⟩)) (.rptr y.cells):=by
 have hi:=(List.getElem?_eq_some_iff.1 k).1
 cases h with
 | sl0=>simp at hi
 | sl b off cs c _ _ _ u hb hc ht hs hu hr=>
  refine⟨b,off,c,rfl,.rptr b (off+i*sz) cs _ (fun j=>u (i*sz+j)) hb ?_ ?_⟩
  ·intro j p g
   have e:(flat xs)[i*sz+j]? = some p:=by
    rw[<- CK hs k,List.getElem?_take]at g
    split at g
    ·rwa [List.getElem?_drop]at g
    ·cases g
   have:=hu _ p e
   rwa [<- Nat.add_assoc]at this
  ·intro j p g
   have e:(flat xs)[i*sz+j]? = some p:=by
    rw[<- CK hs k,List.getElem?_take]at g
    split at g
    ·rwa [List.getElem?_drop]at g
    ·cases g
   exact hr _ p e
theorem b6w{t e:TypeId}{i:TypeInfo}{u v:Value}{X Y:IOp}(ht:P.underlying t=some (.slice e))(hi:P.info? e=some i)(A:Good c μ Φ σ w)(hu:R μ Φ u (ev env X))(g:R μ Φ v (ev env Y))
  (hr:(YO L env (.iaddr i.size X Y)).run σ=some (x,σ')):VS P (Instr.indexAt t u v) w (Z0 c μ Φ σ' x):=by
 have r : ∀ q (len:Nat) cap k (n:Int),0<=n->n<(len:Int)->(Instr.indexAt t (.slice (some q) len cap) (.int k n)).run P w = .ok (.pointer (some (q.add (n.toNat*i.size)))) w:=by
  intro q len cap k n s h1
  simp[Instr.indexAt,asIntOf,run_underlying ht,Z6 hi,s,h1]
 simp only[YO]at hr
 split at hr
 ·rename_i sz' t' xs k n y E
  rw[y]at hu
  rw[E]at g
  replace hu:=Yk hu
  replace g:=Yk g
  have h:=ZZ hr
  clear hr
  obtain⟨j,hr⟩:=h
  simp only[Bool.and_eq_true,decide_eq_true_eq,beq_iff_eq]at j
  obtain⟨⟨s,D⟩,rfl⟩:=j
  have H:xs[n.toNat]? = some (xs.getD n.toNat default):=by simp[List.getD,List.getElem?_eq_getElem D]
  obtain⟨rfl,rfl⟩:=Zu hr
  cases g
  obtain⟨b,off,cp,rfl,h2⟩:=a7j hu H
  exact⟨_,w,r _ _ _ _ _ s (by omega),Zj A (by rw[Xe];exact .pv _ _ h2)⟩
 ·rename_i l n lo hi' k m y E
  rw[y]at hu
  rw[E]at g
  replace g:=Yk g
  obtain⟨ob,z,hr⟩:=Xc hr
  split at hr
  ·rename_i fz ty sz' xs
   split at hr
   ·rename_i F
    subst F
    have h:=ZZ hr
    clear hr
    obtain⟨j,hr⟩:=h
    simp only[Bool.and_eq_true,decide_eq_true_eq,beq_iff_eq]at j
    obtain⟨⟨s,h1⟩,hn⟩:=j
    obtain⟨rfl,rfl⟩:=Zu hr
    cases g
    cases hu with
    | row _ _ _ _ B C S q hm h2 h3 h4 ha=>
     obtain⟨rfl,_⟩:=Qi A z hn hm
     have j:=ha (.inl (by omega))
     subst j
     refine⟨_,w,r _ _ _ _ _ s (by omega),Zj A ?_⟩
     rw[Xe,<- Nat.add_mul]
     exact .eptr l n _ 0 B C _ hm
   ·exact(Zh hr).elim
  ·exact(Zh hr).elim
 ·exact(Zh hr).elim
end
end
section
section
variable {P:Program} {c:Ctx} {μ:Mu} {Φ:ZM} {σ σ':Zw} {w:World} {a:Act} {env:List AV} {L:Nat} {x:AV}
def BR(d:Nat)(o:Option Value)(n:Nat):Prop:=(o=none∧n=d) ∨ ∃ k i,o=some (.int k i)∧0<=i∧n=i.toNat
theorem d6a{a:Act}(l:YI μ Φ a.tmps env){d n:Nat}{o:Option Operand}{o':Option IOp}(ho:(match o with|none=>some none|some z=>(Z5 z).map some)=some o')(h:Sm env d o'=some (true,n)):BR d (o.map a.eval) n:=by
 cases o with
 | none=>
  simp at ho
  subst ho
  simp[Sm]at h
  exact .inl ⟨rfl,h.symm⟩
 | some z=>
  simp only[Option.map_eq_some_iff]at ho
  obtain⟨y,b,rfl⟩:=ho
  simp only[Sm]at h
  split at h
  ·rename_i k i e
   simp only[Option.some.injEq,Prod.mk.injEq,decide_eq_true_eq]at h
   obtain⟨g,rfl⟩:=h
   have:=ZK l b
   rw[e]at this
   have:=Yk this
   generalize j:a.eval z=q at this
   cases this
   exact .inr ⟨_,_,by simp[j] <;> rfl,g,rfl⟩
  ·cases h
theorem QA{v:Value}{k:IntKind}{i:Int}{y:Nat}{b:BoundsCode}(g:v = .int k i)(e:0<=i)(h1:i.toNat<=y):(Instr.sliceBound v y b).run P w = .ok i.toNat w:=by
 subst g
 have:i<=(y:Int):=by omega
 simp[Instr.sliceBound,asIntOf,e,this]
theorem JA{isSl:Bool}{len cap l h:Nat}{lo hi:Option Value}(j:BR 0 lo l)(g:BR len hi h)(h1:l<=h)(h2:h<=cap):
  (Instr.sliceBounds isSl len cap lo hi none).run P w = .ok (l,h,cap) w:=by
 rcases j with ⟨rfl,rfl⟩|⟨k,i,rfl,e,rfl⟩ <;> rcases g with ⟨rfl,rfl⟩|⟨k',i',rfl,b,rfl⟩
 ·simp[Instr.sliceBounds]
 ·simp[Instr.sliceBounds,QA (P:=P) (w:=w) rfl b h2]
 ·simp[Instr.sliceBounds,QA (P:=P) (w:=w) rfl e h1]
 ·simp[Instr.sliceBounds,QA (P:=P) (w:=w) rfl b h2,QA (P:=P) (w:=w) rfl e h1]
theorem Li{len cap l h m:Nat}{lo hi:Option Value}{mx:Value}{d:Nat}(r:BR 0 lo l)(s:BR len hi h)(j:hi≠none)(hm:BR d (some mx) m)(h1:l<=h)(h2:h<=m)(h3:m<=cap):
  (Instr.sliceBounds true len cap lo hi (some mx)).run P w = .ok (l,h,m) w:=by
 rcases hm with ⟨h,_⟩|⟨k0,i0,e,g,rfl⟩
 ·cases h
 cases e
 rcases r with ⟨rfl,rfl⟩|⟨k,i,rfl,q,rfl⟩ <;> rcases s with ⟨rfl,rfl⟩|⟨k',i',rfl,b,rfl⟩
 ·exact absurd rfl j
 ·simp[Instr.sliceBounds,QA (P:=P) (w:=w) rfl g h3,QA (P:=P) (w:=w) rfl b h2]
 ·exact absurd rfl j
 ·simp[Instr.sliceBounds,QA (P:=P) (w:=w) rfl g h3,QA (P:=P) (w:=w) rfl b h2,QA (P:=P) (w:=w) rfl q h1]
theorem a2y{sz:Nat}{t:Bool}{xs:List PV}{b:Option Addr}{n cap l h m:Nat}(A:RP Φ (.slice b n cap) (.sl sz t xs))(h1:l<=h)(h2:h<=xs.length)(h3:h<=m)(h4:m<=cap)(t':Bool)(ht:t'=true->m=h)(s:Nat)(hs:xs=[]∨s=sz):
  RP Φ (.slice (if m=l then b else b.map (·.add (l*s))) (h - l) (m - l)) (.sl sz t' ((xs.take h).drop l)):=by
 by_cases hlh:l=h
 ·subst hlh
  have e:(xs.take l).drop l=[]:=by simp
  rw[e,Nat.sub_self]
  exact .sl0 _ _ _ _ (fun e=>by have:=ht e;omega)
 ·have hlt:l<h:=by omega
  cases A with
  | sl0=>simp at h2;omega
  | sl b off cs _ _ _ _ u hb hc htt hss hu hr=>
   have r:s=sz:=by
    rcases hs with rfl|hs
    ·simp at h2;omega
    ·exact hs
   subst r
   have y : ¬ m=l:=by omega
   have g:((xs.take h).drop l).length=h - l:=by simp;omega
   rw[if_neg y,Option.map_some,Xe,<- g]
   have q : ∀ (j:Nat) p,(flat ((xs.take h).drop l))[j]? = some p->(flat xs)[l*s+j]? = some p:=by
    intro j p k
    rw[<- Qc (fun x z=>hss x (List.mem_of_mem_take z)),<- KU hss,List.getElem?_drop,List.getElem?_take]at k
    split at k
    ·exact k
    ·cases k
   refine .sl b (off+l*s) cs _ s t' _ (fun j=>u (l*s+j)) hb (by rw[g];omega) (fun e=>by have:=ht e;rw[g];omega) ?_ ?_ ?_
   ·intro x z
    exact hss x (List.mem_of_mem_take (List.mem_of_mem_drop z))
   ·intro j p k
    have:=hu _ p (q j p k)
    rwa [<- Nat.add_assoc]at this
   ·intro j p k
    exact hr _ p (q j p k)
theorem a8i{t:TypeId}{u:Value}{X:IOp}{lo hi:Option IOp}{g b:Option Value}(ht:P.underlying t=some .string)
  (j : ∀ n,Sm env 0 lo=some (true,n)->BR 0 g n) (q : ∀ d n,Sm env d hi=some (true,n)->BR d b n)
  (E:Good c μ Φ σ w) (hu:R μ Φ u (ev env X)) (hr:(YO L env (.strslc X lo hi)).run σ=some (x,σ')):VS P (Instr.sliceAt t u g b none) w (Z0 c μ Φ σ' x):=by
 simp only[YO]at hr
 split at hr
 ·rename_i s C
  rw[C]at hu
  split at hr
  ·rename_i r1 l r2 h B D
   have k:=ZZ hr
   clear hr
   obtain⟨y,hr⟩:=k
   simp only[Bool.and_eq_true,decide_eq_true_eq]at y
   obtain⟨⟨⟨rfl,rfl⟩,hc1⟩,hc2⟩:=y
   have A:=j l B
   have r:=q _ h D
   obtain⟨rfl,rfl⟩:=Zu hr
   replace hu:=Yk hu
   cases hu with
   | str z=>
    have e:z.data.toList.length=z.size:=by simp
    rw[e]at r hc2
    refine⟨.string (z.extract l h),w,?_,Zj E (.pv _ _ (RP.str' ?_))⟩
    ·simp[Instr.sliceAt,Instr.slice,run_underlying ht,JA (P:=P) (w:=w) (isSl:=false) (len:=z.size) (cap:=z.size) A r hc1 hc2]
    ·simp[ByteArray.data_extract,List.drop_take]
  ·exact(Zh hr).elim
 ·exact(Zh hr).elim
theorem d5f{t e:TypeId}{i:TypeInfo}{u:Value}{X:IOp}{lo hi mx:Option IOp}{T I F:Option Value}(ht:P.underlying t=some (.slice e))(K:P.info? e=some i)
  (H : ∀ n,Sm env 0 lo=some (true,n)->BR 0 T n) (J : ∀ d n,Sm env d hi=some (true,n)->BR d I n) (O:mx=none->F=none) (hb4:hi≠none->I≠none)
  (hb5 : ∀ m,mx=some m-> ∃ v,F=some v∧ ∀ d n,Sm env d (some m)=some (true,n)->BR d (some v) n)
  (Y:Good c μ Φ σ w) (hu:R μ Φ u (ev env X)) (hr:(YO L env (.slc i.size X lo hi mx)).run σ=some (x,σ')):VS P (Instr.sliceAt t u T I F) w (Z0 c μ Φ σ' x):=by
 simp only[YO]at hr
 split at hr
 ·rename_i sz' tt xs Z
  rw[Z]at hu
  replace hu:=Yk hu
  have A:(xs.isEmpty||sz'==i.size)=true->xs=[]∨i.size=sz':=by
   intro s
   rcases Bool.or_eq_true _ _ |>.mp s with h|h
   ·exact .inl (by simpa using h)
   ·exact .inr (by simpa using (beq_iff_eq.mp h).symm)
  have Q : ∃ b D,u = .slice b xs.length D∧xs.length<=D∧(tt=true->D=xs.length):=by
   cases hu with
   | sl0 a c sz t h=>exact⟨a,c,rfl,by simp,fun e=>by simpa using h e⟩
   | sl b off cs c sz t xs u hb hc E hs hu hr=>exact⟨_,c,rfl,hc,E⟩
  obtain⟨b,D,rfl,z,E⟩:=Q
  split at hr
  ·rename_i r1 l r2 h W V
   split at hr
   ·have U:=O rfl
    subst U
    have j:=ZZ hr
    clear hr
    obtain⟨y,hr⟩:=j
    simp only[Bool.and_eq_true,decide_eq_true_eq]at y
    obtain⟨⟨⟨⟨rfl,rfl⟩,s⟩,hc1⟩,hc2⟩:=y
    have M:=H l W
    have N:=J _ h V
    have k:=A s
    obtain⟨rfl,rfl⟩:=Zu hr
    refine⟨_,w,?_,Zj Y (.pv _ _ (a2y hu hc1 hc2 (Nat.le_trans hc2 z) (Nat.le_refl D) _ ?_ _ k))⟩
    ·simp[Instr.sliceAt,Instr.slice,run_underlying ht,JA (P:=P) (w:=w) (isSl:=true) (len:=xs.length) (cap:=D) M N hc1 (Nat.le_trans hc2 z),Z6 K]
    ·intro e
     simp at e
     rw[E e.1,e.2]
   ·rename_i m
    split at hr
    ·rename_i r3 m' hm'
     obtain⟨v,rfl,U⟩:=hb5 m rfl
     have j:=ZZ hr
     clear hr
     obtain⟨y,hr⟩:=j
     simp only[Bool.and_eq_true,decide_eq_true_eq]at y
     obtain⟨⟨⟨⟨⟨⟨rfl,rfl⟩,rfl⟩,s⟩,hc1⟩,hc2⟩,hc3⟩:=y
     have M:=H l W
     have N:=J _ h V
     have k:=A s
     have bm:=U _ _ hm'
     obtain⟨rfl,rfl⟩:=Zu hr
     refine⟨_,w,?_,Zj Y (.pv _ _ (a2y hu hc1 (Nat.le_trans hc2 hc3) hc2 (Nat.le_trans hc3 z) _ ?_ _ k))⟩
     ·simp[Instr.sliceAt,Instr.slice,run_underlying ht,Li (P:=P) (w:=w) (len:=xs.length) (cap:=D) M N (hb4 (by simp)) bm hc1 hc2 (Nat.le_trans hc3 z),Z6 K]
     ·intro e
      simp at e
      exact e.symm
    ·exact(Zh hr).elim
  ·exact(Zh hr).elim
 ·rename_i r n g hi2 Z
  rw[Z]at hu
  split at hr
  ·rename_i r1 l r2 h W V
   have U:=O rfl
   subst U
   have j:=Xc hr
   clear hr
   obtain⟨ob,hob,hr⟩:=j
   split at hr
   ·rename_i fz ty sz' xs
    split at hr
    ·rename_i he
     subst he
     have j:=ZZ hr
     clear hr
     obtain⟨y,hr⟩:=j
     simp only[Bool.and_eq_true,decide_eq_true_eq,beq_iff_eq]at y
     obtain⟨⟨⟨⟨rfl,rfl⟩,hc1⟩,hc2⟩,hn⟩:=y
     have M:=H l W
     have N:=J _ h V
     obtain⟨rfl,rfl⟩:=Zu hr
     cases hu with
     | row _ _ _ _ B C S q hm h2 h3 h4 ha=>
      obtain⟨rfl,_⟩:=Qi Y hob hn hm
      refine⟨_,w,by simp[Instr.sliceAt,Instr.slice,run_underlying ht,JA (P:=P) (w:=w) (isSl:=true) (len:=hi2 - g) (cap:=C - g) M N hc1 (by omega),Z6 K] <;> rfl,Zj Y ?_⟩
      have e1:h - l=(g+h) - (g+l):=by omega
      have e2:C - g - l=C - (g+l):=by omega
      rw[e1,e2]
      refine .row r n _ _ B C _ _ hm (by omega) (by omega) h4 ?_
      intro hor
      by_cases hz:C - g=l
      ·rw[if_pos hz]
       rcases hor with h|h
       ·omega
       ·have hl0:g=0:=by omega
        have hl1:l=0:=by omega
        subst hl0 hl1
        have:=ha (.inr rfl)
        simpa using this
      ·rw[if_neg hz]
       have y:=ha (by omega)
       subst y
       simp[Xe,Nat.add_mul]
    ·exact(Zh hr).elim
   ·exact(Zh hr).elim
  ·exact(Zh hr).elim
 ·exact(Zh hr).elim
end
end
section
mutual
theorem Aj: ∀ (x:AV) {c:Ctx} {μ:Mu} {Φ:ZM} {σ σ':Zw} {w:World} {v:Value} {p:PV},(frz x).run σ=some (p,σ')->Good c μ Φ σ w->R μ Φ v x ->
  ∃ Φ',Φ.le Φ'∧Good c μ Φ' σ' w∧RP Φ' v p
 | .pv q,c,μ,Φ,σ,σ',w,v,p,hr,hg,b=>by
  simp only[frz]at hr
  obtain⟨rfl,rfl⟩:=Zu hr
  exact⟨Φ,ZM.le.refl _,hg,Yk b⟩
 | .row l n lo hi,c,μ,Φ,σ,σ',w,v,p,hr,hg,b=>by
  simp only[frz]at hr
  obtain⟨ob,A,hr⟩:=Xc hr
  split at hr
  ·rename_i fz ty sz xs
   ·obtain⟨hn,hr⟩:=ZZ hr
    have hn:=beq_iff_eq.mp hn
    obtain⟨_,hr⟩:=UR hr
    obtain⟨rfl,rfl⟩:=Zu hr
    obtain⟨Φ',B,C,cs,h1,h2,h3,h4,h5,h6,h7,h8,h9⟩:=hg.freeze A
    refine⟨Φ',h1,h2,?_⟩
    cases b with
    | row _ _ _ _ B' C' S q hm k2 k3 k4 ha=>
     rw[hn,hm]at h3
     cases h3
     by_cases hlh:lo=hi
     ·subst hlh
      have e:(xs.take lo).drop lo=[]:=by simp
      rw[e,Nat.sub_self]
      exact .sl0 _ _ _ _ (fun e=>by cases e)
     ·have H:=ha (.inl (by omega))
      subst H
      have z:((xs.take hi).drop lo).length=hi - lo:=by simp;omega
      rw[<- z]
      have D : ∀ (j:Nat) p,(flat ((xs.take hi).drop lo))[j]? = some p->(flat xs)[lo*sz+j]? = some p:=by
       intro j p r
       rw[<- Qc (fun x y=>h7 x (List.mem_of_mem_take y)),<- KU h7,List.getElem?_drop,List.getElem?_take]at r
       split at r
       ·exact r
       ·cases r
      have g : ∀ (j:Nat) p,(flat ((xs.take hi).drop lo))[j]? = some p-> ∃ u,cs[lo*sz+j]? = some u∧u.oneCell'=true∧RP Φ u p:=by
       intro j p r
       obtain⟨u,hu,E⟩:=h8.at_ (D j p r)
       have s:=hu
       rw[List.getElem?_take]at s
       split at s
       ·exact⟨u,by simpa using s,h9 u (List.mem_of_getElem? hu),E⟩
       ·cases s
      refine .sl B (lo*sz) cs _ sz false _ (fun j=>cs.getD (lo*sz+j) Go.undef) h4 (by rw[z];omega) (fun e=>by cases e) (fun x y=>h7 x (List.mem_of_mem_take (List.mem_of_mem_drop y))) ?_ ?_
      ·intro j p r
       obtain⟨u,hu,ho,_⟩:=g j p r
       simp[Array.getD_eq_getD_getElem?,hu,ho]
      ·intro j p r
       obtain⟨u,hu,_,E⟩:=g j p r
       simpa [Array.getD_eq_getD_getElem?,hu]using E.mono h1
  ·exact(Zh hr).elim
 | .agg xs,c,μ,Φ,σ,σ',w,v,p,hr,hg,b=>by
  simp only[frz]at hr
  rw[HM.run_bind,Option.bind_eq_some_iff]at hr
  obtain⟨⟨ps,σ1⟩,h1,h2⟩:=hr
  obtain⟨rfl,rfl⟩:=Zu h2
  have hc:=Ae b rfl
  cases b with
  | agg cs _ hn ho h=>
   obtain⟨Φ',k1,k2,k3⟩:=Vu xs h1 hg hc.1
   exact⟨Φ',k1,k2,.agg cs ps (by simpa [Value.cells]using k3.1) ho (fun j v x b y=>k3.2 j v x (by simpa [Value.cells]using b) y)⟩
 | .tup xs,c,μ,Φ,σ,σ',w,v,p,hr,hg,b=>by
  simp only[frz]at hr
  rw[HM.run_bind,Option.bind_eq_some_iff]at hr
  obtain⟨⟨ps,σ1⟩,h1,h2⟩:=hr
  obtain⟨rfl,rfl⟩:=Zu h2
  cases b with
  | tup cs _ hn h=>
   obtain⟨Φ',k1,k2,k3⟩:=Vu xs (vs:=cs.toList) h1 hg ⟨by simpa using hn,fun j v x b y=>h j v x (by simpa using b) y⟩
   exact⟨Φ',k1,k2,.tup cs ps (by simpa using k3.1) (fun j v x b y=>k3.2 j v x (by simpa using b) y)⟩
 | .fn f [] [],c,μ,Φ,σ,σ',w,v,p,hr,hg,b=>by
  simp only[frz]at hr
  obtain⟨rfl,rfl⟩:=Zu hr
  cases b with
  | fn _ cs ds _ _ hn hm h k=>
   have I:cs = #[]:=by simpa using hn
   have F:ds = #[]:=by simpa using hm
   subst I F
   exact⟨Φ,ZM.le.refl _,hg,.fn f⟩
 | .fn f (_::_) _,_,_,_,_,_,_,_,_,hr,_,_=>by simp only[frz]at hr;exact(Zh hr).elim
 | .fn f [] (_::_),_,_,_,_,_,_,_,_,hr,_,_=>by simp only[frz]at hr;exact(Zh hr).elim
 | .junk,_,_,_,_,_,_,_,_,hr,_,_=>by simp only[frz]at hr;exact(Zh hr).elim
 | .undef,_,_,_,_,_,_,_,_,hr,_,_=>by simp only[frz]at hr;exact(Zh hr).elim
 | .ptr _ _,_,_,_,_,_,_,_,_,hr,_,_=>by simp only[frz]at hr;exact(Zh hr).elim
 | .eptr _ _ _ _,_,_,_,_,_,_,_,_,hr,_,_=>by simp only[frz]at hr;exact(Zh hr).elim
 | .map _,_,_,_,_,_,_,_,_,hr,_,_=>by simp only[frz]at hr;exact(Zh hr).elim
theorem Vu: ∀ (xs:List AV) {c:Ctx} {μ:Mu} {Φ:ZM} {σ σ':Zw} {w:World} {vs:List Value} {ps:List PV},(VL xs).run σ=some (ps,σ')->Good c μ Φ σ w->RL μ Φ vs xs ->
  ∃ Φ',Φ.le Φ'∧Good c μ Φ' σ' w∧XW Φ' vs ps
 | [],c,μ,Φ,σ,σ',w,vs,ps,hr,hg,hv=>by
  simp only[VL]at hr
  obtain⟨rfl,rfl⟩:=Zu hr
  have:=hv.unnil
  subst this
  exact⟨Φ,ZM.le.refl _,hg,rfl,fun j v x h=>by simp at h⟩
 | x::xs,c,μ,Φ,σ,σ',w,vs,ps,hr,hg,hv=>by
  simp only[VL]at hr
  rw[HM.run_bind,Option.bind_eq_some_iff]at hr
  obtain⟨⟨p,σ1⟩,h1,h2⟩:=hr
  rw[HM.run_bind,Option.bind_eq_some_iff]at h2
  obtain⟨⟨qs,σ2⟩,h3,h4⟩:=h2
  obtain⟨rfl,rfl⟩:=Zu h4
  obtain⟨v,vs',rfl,k1,e⟩:=hv.uncons
  obtain⟨Φ1,a1,a2,a3⟩:=Aj x h1 hg k1
  obtain⟨Φ2,b1,b2,b3⟩:=Vu xs h3 a2 (e.mono (Mu.le.refl _) a1)
  refine⟨Φ2,a1.trans b1,b2,by simp[b3.1],?_⟩
  intro j u y hu b
  cases j with
  | zero=>simp at hu b;subst hu b;exact a3.mono b1
  | succ j=>simp at hu b;exact b3.2 j u y hu b
end
section
variable {P:Program} {c:Ctx} {μ:Mu} {Φ:ZM} {σ σ':Zw} {w:World} {a:Act} {env:List AV} {L:Nat} {x:AV}
theorem a2o(g:Good c μ Φ σ w)(j:σ[L]? = some .fresh){cs:Array Value}{xs:List AV}(T:TypeId)(hr:RL μ Φ cs.toList xs)(ho:YM cs.toList):
  ∃ μ',μ.le μ'∧Good c μ' Φ (σ.set L (.obj (.box xs))) (w.alloc (.cells cs T))∧R μ' Φ (.pointer (some ⟨w.heap.size,0,none⟩)) (.ptr L 0):=by
 have hm:μ L 0=none:=g.fresh L 0 (.inr j)
 have e:=Mu.le_add μ L 0 (w.heap.size,0,0) (.inl hm)
 refine⟨μ.add L 0 (w.heap.size,0,0),e,?_,.ptr L 0 _ 0 0 (Mu.add_same _ _ _ _)⟩
 refine g.new j e (fun l' h n=>Mu.add_ne _ _ _ _ _ _ h) rfl rfl rfl (by simp) (fun b hb=>Wx w _ b hb) ?_ (by simp[blk,Mu.add_same])
 refine⟨w.heap.size,0,0,T,cs,Mu.add_same _ _ _ _,Vx w _,hr.mono e (ZM.le.refl _),ho,?_⟩
 cases l:Φ w.heap.size with
 | none=>rfl
 | some cs'=>
  obtain⟨T',fz,k⟩:=g.phi _ _ l
  have:=(Array.getElem?_eq_some_iff.1 k).1
  omega
theorem HY(g:Good c μ Φ σ w){b:Nat}(hb:w.heap.size<=b):Φ b=none:=by
 cases h:Φ b with
 | none=>rfl
 | some cs'=>
  obtain⟨T',fz,e⟩:=g.phi _ _ h
  have:=(Array.getElem?_eq_some_iff.1 e).1
  omega
theorem CX{w':World}(r:Good c μ Φ σ w)(u:σ[L]? = some .fresh){xs:List PV}{ty sz B C:Nat}{cs:Array Value}(l:w'.os=w.os)(e:w'.tape=w.tape)(k:w'.output=w.output)(g:w.heap.size<=w'.heap.size)
  (A : ∀ b,b<w.heap.size->w'.heap[b]? = w.heap[b]?) (s:w.heap.size<=B) (y:w'.heap[B]? = some (.cells cs ty (0,0))) (q:cs.size=C*sz) (hn:xs.length<=C) (z:C<=maxLen)
  (hs : ∀ x∈xs,x.cells.length=sz) (hr:XW Φ (cs.toList.take (xs.length*sz)) (flat xs)) (ho:YM (cs.toList.take (xs.length*sz))) :
  ∃ μ',μ.le μ'∧Good c μ' Φ (σ.set L (.obj (.row false ty sz xs))) w'∧R μ' Φ (.slice (some ⟨B,0,none⟩) xs.length C) (.row L xs.length 0 xs.length):=by
 have hm : ∀ n,μ L n=none:=fun n=>r.fresh L n (.inr u)
 have j:=Mu.le_add μ L xs.length (B,C,sz) (.inl (hm _))
 refine⟨μ.add L xs.length (B,C,sz),j,?_,?_⟩
 ·refine r.new u j (fun l' h n=>Mu.add_ne _ _ _ _ _ _ h) l e k g A ?_ (by simp[blk,Mu.add_same];exact s)
  exact⟨B,C,cs,Mu.add_same _ _ _ _,fun n h=>by rw[Mu.add_ver _ _ _ _ _ (by omega)];exact hm n,.of y,q,hn,z,hs,hr,ho,by simp[HY r s]⟩
 ·have:=R.row (μ:=μ.add L xs.length (B,C,sz)) (Φ:=Φ) L xs.length 0 xs.length B C sz (some ⟨B,0,none⟩) (Mu.add_same _ _ _ _) (Nat.zero_le _) (Nat.le_refl _) hn (fun _=>by simp)
  simpa using this
theorem d5a{t:TypeId}{i:TypeInfo}{u:Value}{X:IOp}(e:Good c μ Φ σ w)(hu:R μ Φ u (ev env X))(hr:(YO L env (.box i.size X)).run σ=some (x,σ')):VS P (Instr.box t u) w (Z0 c μ Φ σ' x):=by
 simp only[YO]at hr
 split at hr
 ·rename_i hc
  obtain⟨b,hr⟩:=QQ hr
  obtain⟨rfl,rfl⟩:=Zu hr
  obtain⟨h1,h2⟩:=Ae hu hc.2
  obtain⟨μ',k1,g,k3⟩:=a2o e b t h1 h2
  exact⟨_,_,by simp[Instr.box,newVar,newRow] <;> rfl,μ',Φ,k1,ZM.le.refl _,g,k3⟩
 ·exact(Zh hr).elim
theorem c0o{t:TypeId}{i:TypeInfo}{z:Value}{p:PV}(hi:P.info? t=some i)(h:i.zero=some z)(b:V4 z=some p)(g:Good c μ Φ σ w)(hr:(YO L env (.alloc p)).run σ=some (x,σ')):
  VS P (Instr.alloc t true (.tuple #[])) w (Z0 c μ Φ σ' x):=by
 simp only[YO]at hr
 obtain⟨k,hr⟩:=QQ hr
 obtain⟨rfl,rfl⟩:=Zu hr
 obtain⟨h1,h2⟩:=Us (Ub (Φ:=Φ) b) (XF b)
 have e:AV.cells (.pv p)=p.cells.map .pv:=by cases p <;> rfl
 rw[e]
 obtain⟨μ',k1,j,k3⟩:=a2o g k t (h1.toRL (μ:=μ)) h2
 exact⟨_,_,by simp[Instr.alloc,zeroValue,typeInfo,hi,h,newVar,newRow] <;> rfl,μ',Φ,k1,ZM.le.refl _,j,k3⟩
theorem b8z{t:TypeId}(k:Good c μ Φ σ w)(hr:(YO L env .mkmap).run σ=some (x,σ')):VS P (Instr.makeMap t none) w (Z0 c μ Φ σ' x):=by
 simp only[YO]at hr
 obtain⟨l,hr⟩:=QQ hr
 obtain⟨rfl,rfl⟩:=Zu hr
 have hm:μ L 0=none:=k.fresh L 0 (.inr l)
 have g:=Mu.le_add μ L 0 (w.heap.size,0,0) (.inl hm)
 refine⟨.map (some w.heap.size),w.alloc (.map #[] 0),rfl,μ.add L 0 (w.heap.size,0,0),Φ,g,ZM.le.refl _,?_,.map L _ 0 0 (Mu.add_same _ _ _ _)⟩
 refine k.new l g (fun l' h n=>Mu.add_ne _ _ _ _ _ _ h) rfl rfl rfl (by simp) (fun b hb=>Wx w _ b hb) ?_ (by simp[blk,Mu.add_same])
 exact⟨w.heap.size,0,0,#[],0,Mu.add_same _ _ _ _,Vx w _,rfl,fun j e p h=>by simp at h,HY k (Nat.le_refl _),fun x q=>by simp at q,by simp⟩
end
end
section
section
variable {P:Program} {c:Ctx} {μ:Mu} {Φ:ZM} {σ σ':Zw} {w:World} {a:Act} {env:List AV} {L:Nat} {x:AV}
theorem Good.setRow{B:Nat}{o o':AObj}{l:Nat}{cs:Array Value}(k:Good c μ Φ σ w)(q:σ[l]? = some (.obj o))(e:o.live=true)(j:blk μ l o=B)(h:Ur μ Φ (w.setRow B cs) l o')(hb:blk μ l o'=B):
  Good c μ Φ (σ.set l (.obj o')) (w.setRow B cs):=
 k.put q e (Mu.le.refl _) (fun _ _ _=>rfl) (by simp) (by simp) (by simp) (by simp) (fun b _ g=>setRow_other w B b cs (by rw[j]at g;exact g)) h (.inl (by rw[hb,j]))
theorem BF{g o:Nat}{t:TypeId}{z:Nat×Nat}: ∀ (vs:List Value) (i:Nat) (b:Array Value) (w:World),w.heap[g]? = some (.cells b t z)->(z=(0,0)∨b.size<=z.1)->o+i+vs.length<=b.size->(∀ v∈vs,v.oneCell'=true) ->
  (storeCells ⟨g,o,none⟩ vs i).run P w = .ok () (w.setRow g (b.toList.take (o+i)++vs++b.toList.drop (o+i+vs.length)).toArray):=by
 intro vs
 induction vs with
 | nil=>
  intro i b w h _ _ _
  simp only[storeCells,List.append_nil,List.length_nil,Nat.add_zero,List.take_append_drop,Array.toArray_toList]
  rw[setRow_self w g b t z h]
  rfl
 | cons v rest ih=>
  intro i b w h j r h1
  rw[List.length_cons]at r
  have hi:o+i<b.size:=by omega
  have u:(⟨g,o,none⟩:Addr).add i=⟨g,o+i,none⟩:=by unfold Addr.add;split <;> simp_all
  have l:w.frozen? ⟨g,o+i,none⟩=false:=by
   rcases j with rfl|j
   ·simp[World.frozen?,h]
   ·simp[World.frozen?,h];omega
  have s:(store ((⟨g,o,none⟩:Addr).add i) v).run P w = .ok () (w.setRow g (b.setIfInBounds (o+i) v)):=by
   rw[u,run_store P w _ v _ (h1 v (by simp)),show w.cell? ⟨g,o+i,none⟩=some b[o+i] by simp[World.cell?,h,hi]]
   simp[l,setCell_eq_setRow w g (o+i) b t z v h]
  have k:=ih (i+1) (b.setIfInBounds (o+i) v) (w.setRow g (b.setIfInBounds (o+i) v)) (setRow_heap w g b _ t _ h) (by simpa using j) (by simp;omega) fun x q=>h1 x (by simp[q])
  simp only[storeCells,Sem.run_bind,s,Result.andThen_ok,k,setRow_setRow]
  congr 3
  have e:=list_seg_step b.toList (o+i) v rest (by simp;omega)
  simpa [Array.toList_setIfInBounds,Nat.add_assoc]using e
theorem Wm.put{B n C:Nat}{ty:Nat}{b cs:Array Value}(h:Wm w B b ty n C)(hs:cs.size=b.size):Wm (w.setRow B cs) B cs ty n C:=by
 obtain⟨z,h1,h2⟩:=h
 exact⟨z,setRow_heap w B b cs ty z h1,by rw[hs];exact h2⟩
theorem Tc{t:TypeId}{i:TypeInfo}{v:Value}{B o:Nat}{T n C:Nat}{b:Array Value}(hi:P.info? t=some i)(hn:v.cells.toList.length=i.size)(g:Wm w B b T n C)(hf:o+i.size<=b.size)(ho:YM v.cells.toList):
  (Instr.storeAt t (.pointer (some ⟨B,o,none⟩)) v).run P w = .ok () (w.setRow B (splice b.toList o v.cells.toList).toArray):=by
 obtain⟨z,g,j⟩:=g
 have hs:=BF (P:=P) (o:=o) v.cells.toList 0 b w g (j.imp id fun h=>h.2) (by rw[hn];omega) ho
 have e:v.cells.size=i.size:=by simpa using hn
 simp only[Nat.add_zero]at hs
 simp[Instr.storeAt,Instr.sureAddr,storeVar,Z6 hi,e,hs,splice]
theorem RL.splice{cs ds:List Value}{xs ys:List AV}(h:RL μ Φ cs xs)(k:RL μ Φ ds ys)(o:Nat):RL μ Φ (splice cs o ds) (splice xs o ys):=by
 unfold Pl.splice
 rw[k.1]
 exact((h.take o).append k).append (h.drop _)
theorem XW.splice{cs ds:List Value}{xs ys:List PV}(h:XW Φ cs xs)(k:XW Φ ds ys)(o:Nat):XW Φ (splice cs o ds) (splice xs o ys):=by
 unfold Pl.splice
 rw[k.1]
 exact((h.take o).append k).append (h.drop _)
theorem YM.splice{cs ds:List Value}(h:YM cs)(k:YM ds)(o:Nat):YM (splice cs o ds):=((h.take o).append k).append (h.drop _)
theorem Wv{α:Type}{cs ds:List α}{o:Nat}(h:o+ds.length<=cs.length):(splice cs o ds).length=cs.length:=by
 simp[splice]
 omega
theorem WC{α:Type}{cs ds:List α}{o:Nat}(h:o+ds.length<=cs.length)(j:Nat):(splice cs o ds)[j]? = if j<o then cs[j]? else if j<o+ds.length then ds[j - o]? else cs[j]? :=by
 unfold splice
 have h1:(cs.take o).length=o:=by simp;omega
 by_cases hj:j<o
 ·rw[if_pos hj,List.getElem?_append_left (by simp;omega),List.getElem?_append_left (by omega),List.getElem?_take,if_pos hj]
 ·rw[if_neg hj]
  by_cases hk:j<o+ds.length
  ·rw[if_pos hk,List.getElem?_append_left (by simp;omega),List.getElem?_append_right (by omega),h1]
  ·rw[if_neg hk,List.getElem?_append_right (by simp;omega),List.getElem?_drop]
   congr 1
   simp
   omega
theorem M0{α:Type}{cs ds:List α}{o n:Nat}(h:o+ds.length<=n)(hn:n<=cs.length):(splice cs o ds).take n=splice (cs.take n) o ds:=by
 apply List.ext_getElem?
 intro j
 rw[List.getElem?_take,WC (by omega),WC (by simp;omega),List.getElem?_take]
 by_cases h1:j<n
 ·simp[h1]
 ·have : ¬ j<o:=by omega
  have : ¬ j<o+ds.length:=by omega
  simp[*]
theorem RP.one_of{v:Value}{p:PV}(h:RP Φ v p)(b:v.oneCell'=true):p.one=true:=by
 cases h <;> first|rfl|simp[Value.oneCell']at b
theorem a9r{p:PV}(h:p.one=true):p.cells=[p]:=by
 cases p <;> first|rfl|simp[PV.one]at h
theorem XW.ones{cs:List Value}{ps:List PV}(h:XW Φ cs ps)(ho:YM cs): ∀ p∈ps,p.one=true:=by
 intro p g
 obtain⟨j,b,rfl⟩:=List.getElem_of_mem g
 obtain⟨v,k,e⟩:=h.at_ (List.getElem?_eq_getElem b)
 exact e.one_of (ho v (List.mem_of_getElem? k))
theorem Nz{y:PV}{cs:List PV}(h:cs.length=y.cells.length)(h1 : ∀ q∈cs,q.one=true):(y.withCells cs).cells=cs:=by
 have b : ∀ y:PV,y.cells=[y]->cs.length=1->(cs.headD y).cells=cs:=by
  intro y _ e
  match cs,e,h1 with
  | [q],_,h1=>exact a9r (h1 q (by simp))
 cases y with
 | agg ys=>rfl
 | _=>exact b _ rfl h
theorem Oy{α:Type}{cs ds:List α}{o:Nat}{q:α}(h:q∈splice cs o ds):q∈cs∨q∈ds:=by
 unfold splice at h
 rcases List.mem_append.1 h with h|h
 ·rcases List.mem_append.1 h with h|h
  ·exact .inl (List.mem_of_mem_take h)
  ·exact .inr h
 ·exact .inl (List.mem_of_mem_drop h)
theorem MC{xs:List PV}{sz:Nat}(hs : ∀ x∈xs,x.cells.length=sz){j:Nat}{y:PV}(b:xs[j]? = some y){k:Nat}(e:k<sz):(flat xs)[j*sz+k]? = y.cells[k]? :=by
 rw[<- CK hs b,List.getElem?_take,if_pos e,List.getElem?_drop]
theorem c1m: ∀ {xs:List PV} {sz:Nat} (hs : ∀ x∈xs,x.cells.length=sz) {j:Nat} {y:PV} (b:j<xs.length) (g:y.cells.length=sz),flat (xs.set j y)=splice (flat xs) (j*sz) y.cells:=by
 intro xs
 induction xs with
 | nil=>intro sz hs j y b;simp at b
 | cons x xs ih=>
  intro sz hs j y b g
  have h:=hs x (by simp)
  cases j with
  | zero=>
   rw[List.set_cons_zero,XK,XK,Nat.zero_mul]
   simp[splice,g,<- h]
  | succ j=>
   rw[List.set_cons_succ,XK,XK,ih (fun z k=>hs z (by simp[k])) (by simpa using b) g]
   have e:(j+1)*sz=x.cells.length+j*sz:=by rw[Nat.add_mul,Nat.one_mul,h,Nat.add_comm]
   rw[e]
   simp only[splice,List.take_append,List.drop_append,Nat.add_assoc]
   rw[List.take_of_length_le (l:=x.cells) (by omega),List.drop_of_length_le (l:=x.cells) (by omega)]
   simp
theorem a8q{α:Type}{cs ds es:List α}{b o:Nat}(hb:b+ds.length<=cs.length)(ho:o+es.length<=ds.length)(e : ∀ k,k<ds.length->cs[b+k]? = ds[k]?):
  splice cs b (splice ds o es)=splice cs (b+o) es:=by
 have g:=Wv ho
 apply List.ext_getElem?
 intro j
 rw[WC (cs:=cs) (ds:=splice ds o es) (by omega),WC (cs:=cs) (ds:=es) (by omega),g]
 by_cases h1:j<b
 ·have:j<b+o:=by omega
  simp[h1,this]
 ·rw[if_neg h1]
  by_cases h2:j<b+ds.length
  ·rw[if_pos h2,WC ho]
   by_cases h3:j<b+o
   ·rw[if_pos h3,if_pos (by omega),<- e _ (by omega)]
    congr 1
    omega
   ·rw[if_neg h3,if_neg (by omega)]
    by_cases h4:j<b+o+es.length
    ·rw[if_pos h4,if_pos (by omega)]
     congr 1
     omega
    ·rw[if_neg h4,if_neg (by omega),<- e _ (by omega)]
     congr 1
     omega
  ·rw[if_neg h2,if_neg (by omega),if_neg (by omega)]
theorem b9b{t:TypeId}{i:TypeInfo}{u v:Value}{X Y:IOp}(hi:P.info? t=some i)(hg:Good c μ Φ σ w)(hu:R μ Φ u (ev env X))(hv:R μ Φ v (ev env Y))(hr:(YO L env (.store i.size X Y)).run σ=some (x,σ')):
  ∃ w',(Instr.storeAt t u v).run P w = .ok () w'∧Z0 c μ Φ σ' x Go.undef w':=by
 simp only[YO]at hr
 split at hr
 ·rename_i l o hX
  rw[hX]at hu
  have e:=Xc hr
  clear hr
  obtain⟨ob,g,hr⟩:=e
  split at hr
  ·rename_i cs
   split at hr
   ·rename_i hc
    obtain⟨h1,h2,h3⟩:=hc
    obtain⟨_,hr⟩:=UR hr
    obtain⟨rfl,rfl⟩:=Zu hr
    cases hu with
    | ptr _ _ B C S hm=>
     obtain⟨B',C',S',T,r,k1,U,k3,W,O⟩:=hg.obj l _ g
     rw[hm]at k1
     cases k1
     obtain⟨F,H⟩:=Ae hv h3
     have b:v.cells.toList.length=i.size:=by rw[F.1,h1]
     have hsz:r.size=cs.length:=by simpa using k3.1
     refine⟨_,Tc (n:=0) (C:=0) hi b (.of U) (by omega) H,μ,Φ,Mu.le.refl _,ZM.le.refl _,?_,.undef⟩
     refine hg.setRow g rfl (by simp[blk,hm]) ?_ (by simp[blk,hm])
     exact⟨B,C,S,T,_,hm,setRow_heap w B r _ T _ U,by simpa using k3.splice F o,by simpa using W.splice H o,O⟩
   ·exact(Zh hr).elim
  ·exact(Zh hr).elim
 ·rename_i l m j o hX
  rw[hX]at hu
  rw[HM.run_bind,Option.bind_eq_some_iff]at hr
  obtain⟨⟨p,σ1⟩,hf,hr⟩:=hr
  obtain⟨Φ1,f1,f2,f3⟩:=Aj _ hf hg hv
  have e:=Xc hr
  clear hr
  obtain⟨ob,g,hr⟩:=e
  split at hr
  ·rename_i ty sz xs
   have e:=ZZ hr
   clear hr
   obtain⟨s,hr⟩:=e
   simp only[Bool.and_eq_true,beq_iff_eq,decide_eq_true_eq]at s
   obtain⟨⟨⟨⟨Q,hj0⟩,h1⟩,h2⟩,h3⟩:=s
   obtain⟨y,hyy,V⟩ : ∃ y,xs.getD j default=y∧xs[j]? = some y:=⟨_,rfl,by simp[List.getD,List.getElem?_eq_getElem hj0]⟩
   rw[hyy]at h2 hr
   have e:=UR hr
   clear hr
   obtain⟨_,hr⟩:=e
   obtain⟨rfl,rfl⟩:=Zu hr
   cases hu with
   | eptr _ _ _ _ B C S hm=>
    obtain⟨B',C',r,k1,U,k3,W,O,k6,E,k8,k9,Z⟩:=f2.obj l _ g
    rw[Q,hm]at k1
    cases k1
    obtain⟨F,H⟩:=Us f3 h3
    have b:v.cells.toList.length=i.size:=by rw[F.1,h1]
    have J:j<xs.length:=(List.getElem?_eq_some_iff.1 V).1
    have D:y.cells.length=sz:=E y (List.mem_of_getElem? V)
    have hle:j*sz+sz<=xs.length*sz:=by
     have:(j+1)*sz<=xs.length*sz:=Nat.mul_le_mul_right _ J
     rwa [Nat.add_mul,Nat.one_mul]at this
    have N:xs.length*sz<=r.size:=by rw[W];exact Nat.mul_le_mul_right _ O
    have M:p.cells.length=i.size:=h1
    refine⟨_,Tc hi b k3 (by omega) H,μ,Φ1,Mu.le.refl _,f1,?_,.undef⟩
    have hB:blk μ l (.row false ty sz xs)=B:=by simp[blk,Q,hm]
    have I:XW Φ1 ((r.toList.drop (j*sz)).take sz) y.cells∧YM ((r.toList.drop (j*sz)).take sz):=(LQ k3 E k8 k9 V).2
    have h:(splice y.cells o p.cells).length=y.cells.length:=Wv (by rw[M];exact h2)
    have A:(y.withCells (splice y.cells o p.cells)).cells=splice y.cells o p.cells:=by
     refine Nz h ?_
     intro q s
     rcases Oy s with s|s
     ·exact I.1.ones I.2 q s
     ·exact F.ones H q s
    have hfs:flat (xs.set j (y.withCells (splice y.cells o p.cells)))=splice (flat xs) (j*sz+o) p.cells:=by
     rw[c1m E J (by rw[A,h,D]),A]
     refine a8q (by rw[X3 E];omega) (by rw[M];exact h2) ?_
     intro k hk
     exact MC E V (by omega)
    have hop:o+i.size<=sz:=by rw[<- D];exact h2
    have K:(splice r.toList (j*sz+o) v.cells.toList).take ((xs.set j (y.withCells (splice y.cells o p.cells))).length*sz)=splice (r.toList.take (xs.length*sz)) (j*sz+o) v.cells.toList:=by
     rw[List.length_set,M0 (by rw[b];omega) (by simpa using N)]
    refine f2.setRow g rfl hB ?_ (by simp[blk,Q,hm])
    refine⟨B,C,_,by rw[List.length_set,Q];exact hm,fun n hn=>U n (by simpa using hn),by rw[List.length_set];exact k3.put (by have:=Wv (cs:=r.toList) (ds:=v.cells.toList) (o:=j*sz+o) (by rw[b];simp;omega);simpa using this),?_,by simpa using O,k6,?_,?_,?_,by simpa using Z⟩
    ·have:=Wv (cs:=r.toList) (ds:=v.cells.toList) (o:=j*sz+o) (by rw[b];simp;omega)
     simpa [W]using this
    ·intro z hz
     rcases List.mem_or_eq_of_mem_set hz with hz|rfl
     ·exact E z hz
     ·rw[A,h,D]
    ·rw[List.toList_toArray,K,hfs]
     exact k8.splice F _
    ·rw[List.toList_toArray,K]
     exact k9.splice H _
  ·exact(Zh hr).elim
 ·exact(Zh hr).elim
end
end
section
section
variable {P:Program} {c:Ctx} {μ:Mu} {Φ:ZM} {σ σ':Zw} {w:World} {a:Act} {env:List AV} {L:Nat} {x:AV}
def Qt(d:TypeDesc)(st:Bool):Prop:=if st then d = .string else ∃ k,d = .int k
theorem DX{kt:TypeId}{d:TypeDesc}{st:Bool}(hd:P.underlying kt=some d)(b:Qt d st)(e:Bool)(v:Value)(n:Nat):(Instr.checkKey e (n+1) kt v).run P w = .ok () w:=by
 unfold Instr.checkKey
 cases st with
 | true=>
  simp only[Qt,if_true]at b
  subst b
  simp[run_underlying hd]
 | false=>
  simp only[Qt,if_false,Bool.false_eq_true]at b
  obtain⟨k,rfl⟩:=b
  simp[run_underlying hd]
theorem UB{d:TypeDesc}{st:Bool}(e:Qt d st){v u:Value}{p q:PV}(g:RP Φ v p)(j:RP Φ u q)(b:p.isKey st=true){r:Bool}(h:FL p q=some r):Instr.sameNow d v u=some r:=by
 cases st with
 | true=>
  simp only[Qt,if_true]at e
  subst e
  cases g <;> simp[PV.isKey]at b
  cases j <;> simp[FL]at h
  subst h
  simp only[Instr.sameNow]
  congr 1
 | false=>
  simp only[Qt,if_false,Bool.false_eq_true]at e
  obtain⟨k,rfl⟩:=e
  cases g <;> simp[PV.isKey]at b
  cases j <;> simp[FL]at h
  obtain⟨rfl,rfl⟩:=h
  simp[Instr.sameNow]
def Py(Φ:ZM)(l:List MapEntry)(es:List (PV×PV)):Prop:=l.length=es.length∧ ∀ (j:Nat) e p,l[j]? = some e->es[j]? = some p->RP Φ e.key p.1∧RP Φ e.val p.2
theorem Py.uncons{l:List MapEntry}{p:PV×PV}{es:List (PV×PV)}(h:Py Φ l (p::es)): ∃ e l',l=e::l'∧RP Φ e.key p.1∧RP Φ e.val p.2∧Py Φ l' es:=by
 cases l with
 | nil=>have:=h.1;simp at this
 | cons e l'=>
  have g:=h.2 0 e p rfl rfl
  exact⟨e,l',rfl,g.1,g.2,by have:=h.1;simpa using this,fun j a b ha hb=>h.2 (j+1) a b (by simpa using ha) (by simpa using hb)⟩
theorem a3g{d:TypeDesc}{st:Bool}(z:Qt d st){v:Value}{p:PV}(A:RP Φ v p)(h:p.isKey st=true): ∀ (es:List (PV×PV)) (l:List MapEntry) (i:Nat) (r:Option PV),Py Φ l es->Su p es=some r ->
  ∃ k,Instr.findNow d v l i=some k∧(match r with|none=>k=none|some q=> ∃ s u,k=some (s,u)∧RP Φ u q):=by
 intro es
 induction es with
 | nil=>
  intro l i r y g
  simp[Su]at g
  subst g
  have:l=[]:=by have:=y.1;simpa using this
  subst this
  exact⟨none,rfl,rfl⟩
 | cons q es ih=>
  intro l i r y g
  obtain⟨e,l',rfl,h1,h2,h3⟩:=y.uncons
  obtain⟨a,b⟩:=q
  simp only[Su]at g
  split at g
  ·rename_i j
   cases g
   exact⟨some (i,e.val),by simp[Instr.findNow,UB z A h1 h j],i,e.val,rfl,h2⟩
  ·rename_i j
   obtain⟨k,k1,B⟩:=ih l' (i+1) r h3 g
   exact⟨k,by simp[Instr.findNow,UB z A h1 h j,k1],B⟩
  ·cases g
theorem d9e{d:TypeDesc}{st:Bool}(K:Qt d st){v u:Value}{p q:PV}(E:RP Φ v p)(A:p.isKey st=true)(hu:RP Φ u q): ∀ (es:List (PV×PV)) (l:List MapEntry) (i:Nat) (s:List (PV×PV)),Py Φ l es->upd p q es=some s ->
  (∃ g b C,Instr.findNow d v l i=some (some (i+g,b))∧l[g]? = some C∧RP Φ C.key p∧(∀ f:MapEntry->MapEntry,(∀ e,RP Φ e.key p->RP Φ (f e).key p∧RP Φ (f e).val q)->Py Φ (l.modify g f) s)) ∨
  (Instr.findNow d v l i=some none∧ ∀ born,Py Φ (l++[{key:=v,val:=u,born:=born}]) s):=by
 intro es
 induction es with
 | nil=>
  intro l i s I r
  simp[upd]at r
  subst r
  have:l=[]:=by have:=I.1;simpa using this
  subst this
  refine .inr ⟨rfl,fun born=>⟨rfl,?_⟩⟩
  intro j a b ha hb
  cases j with
  | zero=>simp at ha hb;subst ha hb;exact⟨E,hu⟩
  | succ j=>simp at ha
 | cons z es ih=>
  intro l i s I r
  obtain⟨e,l',rfl,h1,h2,h3⟩:=I.uncons
  obtain⟨a,b⟩:=z
  simp only[upd]at r
  split at r
  ·rename_i B
   cases r
   have D:RP Φ e.key p:=by
    have:p=a:=by
     cases p <;> cases a <;> simp_all[FL,PV.isKey]
    rw[this];exact h1
   refine .inl ⟨0,e.val,e,by simp[Instr.findNow,UB K E h1 A B],rfl,D,fun f H=>⟨by simpa using h3.1,?_⟩⟩
   intro j x y h k
   cases j with
   | zero=>simp at h k;subst h k;exact H e D
   | succ j=>simp at h k;exact h3.2 j x y h k
  ·rename_i B
   rw[Option.map_eq_some_iff]at r
   obtain⟨F,r,rfl⟩:=r
   rcases ih l' (i+1) F h3 r with ⟨g,M,C,k1,J,k3,N⟩|⟨k1,J⟩
   ·refine .inl ⟨g+1,M,C,?_,by simpa using J,k3,fun f H=> ?_⟩
    ·have e:i+(g+1)=i+1+g:=by omega
     simp[Instr.findNow,UB K E h1 A B,k1,e]
    ·have:=N f H
     refine⟨by simpa using this.1,?_⟩
     intro j x y h k
     cases j with
     | zero=>simp at h k;subst h k;exact⟨h1,h2⟩
     | succ j=>simp at h k;exact this.2 j x y (by simpa using h) k
   ·refine .inr ⟨by simp[Instr.findNow,UB K E h1 A B,k1],fun born=> ?_⟩
    have:=J born
    refine⟨by have:=this.1;simp at this ⊢;omega,?_⟩
    intro j x y h k
    cases j with
    | zero=>simp at h k;subst h k;exact⟨h1,h2⟩
    | succ j=>simp at h k;exact this.2 j x y h k
  ·cases r
theorem Cu(u:Good c μ Φ σ w){l:Nat}{es:List (PV×PV)}(s:σ[l]? = some (.obj (.map es))){B C S:Nat}(hm:μ l 0=some (B,C,S)): ∃ g b,w.heap[B]? = some (.map g b)∧Py Φ g.toList es∧Φ B=none∧SC g b:=by
 obtain⟨B',C',S',g,b,h1,h2,h3,h,q⟩:=u.obj l _ s
 rw[hm]at h1
 cases h1
 exact⟨g,b,h2,⟨by simpa using h3,fun j e p r k=>h j e p (by simpa using r) k⟩,q⟩
theorem a8t{t kt et:TypeId}{d:TypeDesc}{i:TypeInfo}{H:Value}{z:PV}{ok st:Bool}{sh:Sh}{u v:Value}{X Y:IOp}(ht:P.underlying t=some (.map kt et))(hd:P.underlying kt=some d)(U:Qt d st)
  (hi:P.info? et=some i) (hz:i.zero=some H) (T:V4 H=some z) (V:Good c μ Φ σ w) (hu:R μ Φ u (ev env X)) (M:R μ Φ v (ev env Y)) (hr:(YO L env (.lookup st sh z ok X Y)).run σ=some (x,σ')) :
  VS P (Instr.lookup t u v ok) w (Z0 c μ Φ σ' x):=by
 simp only[YO]at hr
 split at hr
 ·rename_i k hY
  rw[hY]at M
  replace M:=Yk M
  split at hr
  ·rename_i A
   split at hr
   ·rename_i l hX
    rw[hX]at hu
    have E:=Xc hr
    clear hr
    obtain⟨ob,Q,hr⟩:=E
    split at hr
    ·rename_i es
     cases hu with
     | map _ B C S hm=>
      obtain⟨s,D,h1,h2,_⟩:=Cu V Q hm
      have y:(getObj B).run P w = .ok (.map s D) w:=by simp[getObj,Sem.run,h1]
      have I:(Instr.checkKey s.isEmpty 10000 kt v).run P w = .ok () w:=DX hd U _ _ 9999
      have F : ∀ J,Instr.findNow d v s.toList 0=some J->(Instr.findKey kt v s.toList).run P w = .ok J w:=fun J h=>by simp[Instr.findKey,run_underlying hd,h]
      have O:(zeroValue et).run P w = .ok H w:=by simp[zeroValue,typeInfo,hi,hz]
      have E:=ZZ hr
      clear hr
      obtain⟨hq,hr⟩:=E
      simp only[Bool.and_eq_true]at hq
      obtain⟨W,g⟩:=hq
      obtain⟨rfl,rfl⟩:=Zu hr
      cases e:Su k es with
      | none=>simp[JD,e]at W
      | some r=>
       cases r with
       | some q=>
        obtain⟨J,k1,idx,val,rfl,k3⟩:=a3g U M A es s.toList 0 (some q) h2 e
        have Z:XI k z es=q:=by simp[XI,e]
        have N:Vs k es=true:=by simp[Vs,e]
        rw[Z]at g ⊢
        rw[N]
        have K:=a2s k3 g
        refine⟨if ok then .tuple #[val,.bool true]else val,w,?_,Zj V ?_⟩
        ·simp[Instr.lookup,run_underlying ht,y,I,F _ k1]
        ·cases ok
         ·exact .pv _ _ K
         ·refine .pv _ _ (.tup _ _ rfl ?_)
          intro j a b ha hb
          match j with
          | 0=>simp at ha hb;subst ha hb;exact K
          | 1=>simp at ha hb;subst ha hb;exact .bool _
          | j+2=>simp at ha
       | none=>
        obtain⟨J,k1,k2⟩:=a3g U M A es s.toList 0 none h2 e
        simp only at k2
        subst k2
        have Z:XI k z es=z:=by simp[XI,e]
        have N:Vs k es=false:=by simp[Vs,e]
        rw[Z]at g ⊢
        rw[N]
        have K:=a2s (Ub (Φ:=Φ) T) g
        refine⟨if ok then .tuple #[H,.bool false]else H,w,?_,Zj V ?_⟩
        ·simp[Instr.lookup,run_underlying ht,y,I,F _ k1,O]
        ·cases ok
         ·exact .pv _ _ K
         ·refine .pv _ _ (.tup _ _ rfl ?_)
          intro j a b ha hb
          match j with
          | 0=>simp at ha hb;subst ha hb;exact K
          | 1=>simp at ha hb;subst ha hb;exact .bool _
          | j+2=>simp at ha
    ·exact(Zh hr).elim
   ·exact(Zh hr).elim
  ·exact(Zh hr).elim
 ·exact(Zh hr).elim
theorem PD(w:World)(B b:Nat)(o:Obj)(h:b≠B):({w with heap:=w.heap.setIfInBounds B o}:World).heap[b]? = w.heap[b]? :=by
 simp[Array.getElem?_setIfInBounds_ne (Ne.symm h)]
theorem Good.setMap{B:Nat}{es q:List (PV×PV)}{l C S:Nat}{k:Array MapEntry}{g:Nat}(y:Good c μ Φ σ w)(u:σ[l]? = some (.obj (.map es)))(hm:μ l 0=some (B,C,S))(h:Py Φ k.toList q)(s:SC k g):
  Good c μ Φ (σ.set l (.obj (.map q))) {w with heap:=w.heap.setIfInBounds B (.map k g)}:=by
 obtain⟨mes0,clock0,h1,_,h2⟩:=Cu y u hm
 have r:=(Array.getElem?_eq_some_iff.1 h1).1
 refine y.put u rfl (Mu.le.refl _) (fun _ _ _=>rfl) rfl rfl rfl (by simp) ?_ ?_ (.inl (by simp[blk]))
 ·intro b _ hb
  exact PD w B b _ (by simpa [blk,hm]using hb)
 ·exact⟨B,C,S,k,g,hm,by simp[r],by simpa using h.1,fun j e p z A=>h.2 j e p (by simpa using z) A,h2.1,s⟩
theorem SC.update{j b:Array MapEntry}{g:Nat}(h:SC j g)(e:b.toList.map (·.born)=j.toList.map (·.born)):SC b g:=by
 refine⟨fun x q=> ?_,by rw[e];exact h.2⟩
 have:x.born∈b.toList.map (·.born):=List.mem_map.2 ⟨x,q,rfl⟩
 rw[e]at this
 obtain⟨y,k,l⟩:=List.mem_map.1 this
 rw[<- l]
 exact h.1 y k
theorem SC.push{j:Array MapEntry}{g:Nat}(h:SC j g)(k v:Value):SC (j.push {key:=k,val:=v,born:=g}) (g+1):=by
 refine⟨fun x l=> ?_,?_⟩
 ·simp only[Array.toList_push,List.mem_append,List.mem_singleton]at l
  rcases l with l|rfl
  ·exact Nat.lt_succ_of_lt (h.1 x l)
  ·exact Nat.lt_succ_self _
 ·simp only[Array.toList_push,List.map_append,List.map_cons,List.map_nil]
  rw[List.nodup_append]
  refine⟨h.2,by simp,fun a ha b hb e=> ?_⟩
  obtain⟨y,q,rfl⟩:=List.mem_map.1 ha
  have:=h.1 y q
  simp only[List.mem_singleton]at hb
  omega
theorem CP{v:Value}{l:List UInt8}(h:RP Φ v (.str l)): ∃ s:ByteArray,v = .string s∧s.data.toList=l:=by
 cases h with
 | str s=>exact⟨s,rfl,rfl⟩
theorem b3u{st:Bool}{v u:Value}{p:PV}(h:RP Φ v p)(hu:RP Φ u p)(g:p.isKey st=true):(Instr.keyThatStays u v).run P w = .ok v w:=by
 have e:Instr.sameBits (9999+1) u v=true:=by
  cases p <;> simp[PV.isKey]at g
  ·cases h;cases hu;unfold Instr.sameBits;first|rfl|simp|trace_state
  ·obtain⟨b,rfl,l⟩:=CP h
   obtain⟨k,rfl,j⟩:=CP hu
   have:b=k:=ByteArray.ext (by simpa using l.trans j.symm)
   subst this
   unfold Instr.sameBits
   show(b==b)=true
   first|exact beq_self_eq_true b|(show(b.data.toList==b.data.toList)=true;simp)|(show(b.data==b.data)=true;simp)|(show decide (b=b)=true;simp)
 unfold Instr.keyThatStays
 rw[show(10000:Nat)=9999+1 from rfl,if_pos e]
 rfl
theorem a9w{t kt et:TypeId}{d:TypeDesc}{st:Bool}{u v z:Value}{X Y Z:IOp}(ht:P.underlying t=some (.map kt et))(hd:P.underlying kt=some d)(hk:Qt d st)
  (hg:Good c μ Φ σ w) (hu:R μ Φ u (ev env X)) (H:R μ Φ v (ev env Y)) (hz:R μ Φ z (ev env Z)) (hr:(YO L env (.mapupd st X Y Z)).run σ=some (x,σ')) :
  ∃ w',(Instr.mapUpdate t u v z).run P w = .ok () w'∧Z0 c μ Φ σ' x Go.undef w':=by
 simp only[YO]at hr
 split at hr
 ·rename_i k hY
  rw[hY]at H
  replace H:=Yk H
  split at hr
  ·rename_i D
   split at hr
   ·rename_i l hX
    rw[hX]at hu
    rw[HM.run_bind,Option.bind_eq_some_iff]at hr
    obtain⟨⟨q,σ1⟩,hf,hr⟩:=hr
    obtain⟨Φ1,K,f2,f3⟩:=Aj _ hf hg hz
    have r:=Xc hr
    clear hr
    obtain⟨ob,F,hr⟩:=r
    split at hr
    ·rename_i es
     cases hu with
     | map _ B C S hm=>
      obtain⟨g,s,h1,h2,_,M⟩:=Cu f2 F hm
      have A:(getObj B).run P w = .ok (.map g s) w:=by simp[getObj,Sem.run,h1]
      have E : ∀ o,(setObj B o).run P w = .ok () {w with heap:=w.heap.setIfInBounds B o}:=fun o=>by simp[setObj,Sem.run,h1]
      have N : ∀ e,(Instr.checkKey e 10000 kt v).run P w = .ok () w:=fun e=>DX hd hk _ _ 9999
      have I : ∀ T,Instr.findNow d v g.toList 0=some T->(Instr.findKey kt v g.toList).run P w = .ok T w:=fun T h=>by simp[Instr.findKey,run_underlying hd,h]
      have r:=ZZ hr
      clear hr
      obtain⟨hq,hr⟩:=r
      obtain⟨y,J⟩ : ∃ y,upd k q es=some y:=Option.isSome_iff_exists.1 hq
      have Q:a8b k q es=y:=by simp[a8b,J]
      rw[Q]at hr
      have r:=UR hr
      clear hr
      obtain⟨_,hr⟩:=r
      obtain⟨rfl,rfl⟩:=Zu hr
      rcases d9e hk (H.mono K) D f3 es g.toList 0 y h2 J with ⟨O,b,W,k1,U,k3,k4⟩|⟨k1,U⟩
      ·simp only[Nat.zero_add]at k1
       have k2':g[O]? = some W:=by simpa using U
       have V:=b3u (P:=P) (w:=w) (H.mono K) k3 D
       refine⟨_,by simp[Instr.mapUpdate,run_underlying ht,A,N,I _ k1,k2',V,E] <;> rfl,μ,Φ1,Mu.le.refl _,K,?_,.undef⟩
       refine f2.setMap F hm ?_ (M.update ?_)
       rotate_left
       ·apply List.ext_getElem?
        intro j
        simp only[List.getElem?_map,Array.getElem?_toList,Array.getElem?_modify]
        split
        ·cases g[j]? <;> rfl
        ·rfl
       have:=k4 (fun e=>{e with key:=v,val:=z}) (fun e _=>⟨H.mono K,f3⟩)
       simpa using this
      ·refine⟨_,by simp[Instr.mapUpdate,run_underlying ht,A,N,I _ k1,E] <;> rfl,μ,Φ1,Mu.le.refl _,K,?_,.undef⟩
       refine f2.setMap F hm ?_ (M.push _ _)
       simpa using U s
    ·exact(Zh hr).elim
   ·exact(Zh hr).elim
  ·exact(Zh hr).elim
 ·exact(Zh hr).elim
end
end
section
section
variable {P:Program} {c:Ctx} {μ:Mu} {Φ:ZM} {σ σ':Zw} {w:World} {a:Act} {env:List AV} {L:Nat} {x:AV}
def DY(P:Program)(t:TypeId):Option Nat:=
 match P.underlying t with
 | some .string=>some 0
 | some (.slice _)=>some 1
 | some (.map _ _)=>some 2
 | _=>none
theorem d5r{t ty:TypeId}{k:Nat}{u:Value}{X:IOp}(ht:DY P t=some k)(j:Good c μ Φ σ w)(hu:R μ Φ u (ev env X))(hr:(YO L env (.len k X)).run σ=some (x,σ')):VS P (Builtin.len_ #[t] ty #[u]) w (Z0 c μ Φ σ' x):=by
 simp only[YO]at hr
 split at hr
 ·rename_i l h
  rw[h]at hu
  obtain⟨a,b,g⟩ : ∃ a b,P.underlying t=some (.map a b):=by
   unfold DY at ht
   split at ht <;> first|exact⟨_,_,‹_›⟩|simp at ht
  obtain⟨ob,D,hr⟩:=Xc hr
  split at hr
  ·rename_i es
   obtain⟨rfl,rfl⟩:=Zu hr
   cases hu with
   | map _ B C S hm=>
    obtain⟨A,r,h1,h2,_⟩:=Cu j D hm
    have y:(getObj B).run P w = .ok (.map A r) w:=by simp[getObj,Sem.run,h1]
    have hs:A.size=es.length:=by simpa using h2.1
    refine⟨_,w,by simp[Builtin.len_,run_underlying g,y] <;> rfl,Zj j ?_⟩
    rw[hs]
    exact .pv _ _ (.int _ _)
  ·exact(Zh hr).elim
 ·rename_i h
  rw[h]at hu
  obtain⟨a,b,g⟩ : ∃ a b,P.underlying t=some (.map a b):=by
   unfold DY at ht
   split at ht <;> first|exact⟨_,_,‹_›⟩|simp at ht
  obtain⟨rfl,rfl⟩:=Zu hr
  replace hu:=Yk hu
  cases hu
  exact⟨_,w,by simp[Builtin.len_,run_underlying g] <;> rfl,Zj j (.pv _ _ (.int _ _))⟩
 ·rename_i s h
  rw[h]at hu
  have g:P.underlying t=some .string:=by
   unfold DY at ht
   split at ht <;> first|assumption|simp at ht
  obtain⟨rfl,rfl⟩:=Zu hr
  obtain⟨z,rfl,rfl⟩:=CP (Yk hu)
  have e:z.data.toList.length=z.size:=by simp
  exact⟨.int .i64 z.size,w,by simp[Builtin.len_,run_underlying g,goInt],Zj j (by rw[e];exact .pv _ _ (.int _ _))⟩
 ·rename_i b m xs h
  rw[h]at hu
  obtain⟨e,g⟩ : ∃ a,P.underlying t=some (.slice a):=by
   unfold DY at ht
   split at ht <;> first|exact⟨_,‹_›⟩|simp at ht
  obtain⟨rfl,rfl⟩:=Zu hr
  replace hu:=Yk hu
  cases hu with
  | sl0=>exact⟨.int .i64 0,w,by simp[Builtin.len_,run_underlying g,goInt],Zj j (.pv _ _ (.int _ _))⟩
  | sl b off cs cc=>exact⟨.int .i64 xs.length,w,by simp[Builtin.len_,run_underlying g,goInt],Zj j (.pv _ _ (.int _ _))⟩
 ·rename_i ra E rc h
  rw[h]at hu
  obtain⟨e,g⟩ : ∃ a,P.underlying t=some (.slice a):=by
   unfold DY at ht
   split at ht <;> first|exact⟨_,‹_›⟩|simp at ht
  obtain⟨rfl,rfl⟩:=Zu hr
  replace hu:=Yk hu
  cases hu
  exact⟨.int .i64 E,w,by simp[Builtin.len_,run_underlying g,goInt],Zj j (.pv _ _ (.int _ _))⟩
 ·rename_i l n' lo hi h
  rw[h]at hu
  obtain⟨e,g⟩ : ∃ a,P.underlying t=some (.slice a):=by
   unfold DY at ht
   split at ht <;> first|exact⟨_,‹_›⟩|simp at ht
  obtain⟨rfl,rfl⟩:=Zu hr
  cases hu with
  | row _ _ _ _ B C S q hm h2 h3 h4 ha=>exact⟨.int .i64 (hi - lo:Nat),w,by simp[Builtin.len_,run_underlying g,goInt],Zj j (.pv _ _ (.int _ _))⟩
 ·exact(Zh hr).elim
theorem c1d{b dst:TypeId}{u:Value}{X:IOp}(hs:(P.underlying b).isSome=true)(hd:P.underlying dst=some .string)(g:Good c μ Φ σ w)(hu:R μ Φ u (ev env X))
  (hr:(YO L env (.strid X)).run σ=some (x,σ')):VS P (convert b dst u) w (Z0 c μ Φ σ' x):=by
 simp only[YO]at hr
 split at hr
 ·rename_i s e
  rw[e]at hu
  obtain⟨rfl,rfl⟩:=Zu hr
  obtain⟨z,rfl,rfl⟩:=CP (Yk hu)
  obtain⟨d,hd'⟩:=Option.isSome_iff_exists.1 hs
  exact⟨.string z,w,by cases d <;> simp[convert,run_underlying hd',run_underlying hd],Zj g (.pv _ _ (.str _))⟩
 ·exact(Zh hr).elim
theorem d3b{mx:Bool}{ts:Array TypeId}{ty:TypeId}{u v:Value}{X Y:IOp}(g:Good c μ Φ σ w)(hu:R μ Φ u (ev env X))(b:R μ Φ v (ev env Y))(hr:(YO L env (.mm mx X Y)).run σ=some (x,σ')):
  VS P (if mx then Builtin.max_ ts ty #[u,v]else Builtin.min_ ts ty #[u,v]) w (Z0 c μ Φ σ' x):=by
 simp only[YO]at hr
 split at hr
 ·rename_i k p k' q h j
  rw[h]at hu
  rw[j]at b
  split at hr
  ·rename_i e
   have e:=Ja e
   subst e
   obtain⟨rfl,rfl⟩:=Zu hr
   replace hu:=Yk hu
   replace b:=Yk b
   cases hu
   cases b
   cases mx
   ·exact⟨_,w,by simp[Builtin.min_,Builtin.min2] <;> rfl,Zj g (.pv _ _ (.int _ _))⟩
   ·exact⟨_,w,by simp[Builtin.max_,Builtin.max2] <;> rfl,Zj g (.pv _ _ (.int _ _))⟩
  ·exact(Zh hr).elim
 ·exact(Zh hr).elim
theorem a9b(off:Nat): ∀ (vs:List Value) (k:Nat) (cs:Array Value),off+k+vs.length<=cs.size ->
  ((vs.zipIdx k).foldl (fun cs (p:Value×Nat)=>cs.setIfInBounds (off+p.2) p.1) cs).toList=splice cs.toList (off+k) vs:=by
 intro vs
 induction vs with
 | nil=>intro k cs h;simp[splice]
 | cons v vs ih=>
  intro k cs h
  simp only[List.zipIdx_cons,List.foldl_cons]
  simp only[List.length_cons]at h
  rw[ih (k+1) _ (by simp;omega),Array.toList_setIfInBounds]
  apply List.ext_getElem?
  intro j
  rw[WC (by simp;omega),WC (by simp;omega),List.getElem?_set]
  simp only[List.length_cons]
  by_cases h1:j<off+k
  ·have b:j<off+(k+1):=by omega
   have g : ¬ off+k=j:=by omega
   simp[h1,b,g]
  ·by_cases h2:j=off+k
   ·subst h2
    have b:off+k<off+(k+1):=by omega
    simp[b]
    omega
   ·have b : ¬ j<off+(k+1):=by omega
    have g : ¬ off+k=j:=by omega
    by_cases h3:j<off+(k+1)+vs.length
    ·have e:j<off+k+(vs.length+1):=by omega
     rw[if_neg b,if_pos h3,if_neg h1,if_pos e]
     have:j - (off+k)=(j - (off+(k+1)))+1:=by omega
     rw[this,List.getElem?_cons_succ]
    ·have e : ¬ j<off+k+(vs.length+1):=by omega
     rw[if_neg b,if_neg h3,if_neg h1,if_neg e,if_neg g]
theorem a5p{places:Nat->Option (Nat×Nat)}: ∀ (ps:List (Nat×Value)) (qs:List (Nat×Nat×AV)) (cs:Array Value) (xs ys:List AV),RL μ Φ cs.toList xs->YM cs.toList ->
  ps.length=qs.length->(∀ (j:Nat) p q,ps[j]? = some p->qs[j]? = some q->places p.1=some (q.1,q.2.1)∧R μ Φ p.2 q.2.2)->DC xs qs=some ys ->
  ∃ ds,Instr.fill places cs ps=some ds∧RL μ Φ ds.toList ys∧YM ds.toList∧ds.size=cs.size:=by
 intro ps
 induction ps with
 | nil=>
  intro qs cs xs ys h1 h2 h3 _ g
  have:qs=[]:=by simpa using h3.symm
  subst this
  simp[DC]at g
  subst g
  exact⟨cs,rfl,h1,h2,rfl⟩
 | cons p ps ih=>
  intro qs cs xs ys h1 h2 h3 k g
  cases qs with
  | nil=>simp at h3
  | cons q qs=>
   obtain⟨i,v⟩:=p
   obtain⟨o,n,y⟩:=q
   simp only[DC]at g
   split at g
   ·rename_i hc
    obtain⟨c1,c2,z⟩:=hc
    obtain⟨s,r⟩:=k 0 _ _ rfl rfl
    simp only at s r
    obtain⟨l,A⟩:=Ae r z
    have h:v.cells.size=n:=by have:=l.1;simp at this;omega
    have hcs:cs.size=xs.length:=by simpa using h1.1
    have e:=a9b o v.cells.toList 0 cs (by simp;omega)
    simp only[Nat.add_zero]at e
    obtain⟨ds,k1,u,k3,B⟩:=ih qs (v.cells.zipIdx.foldl (fun cs (p:Value×Nat)=>cs.setIfInBounds (o+p.2) p.1) cs) _ ys
     (by rw[<- Array.foldl_toList,Array.toList_zipIdx,e];exact h1.splice l o) (by rw[<- Array.foldl_toList,Array.toList_zipIdx,e];exact h2.splice A o) (by simpa using h3) (fun j a b ha hb=>k (j+1) a b (by simpa using ha) (by simpa using hb)) g
    refine⟨ds,?_,u,k3,?_⟩
    ·simp only[Instr.fill,s]
     rw[if_neg (by simp[h];omega)]
     exact k1
    ·rw[B]
     have:=congrArg List.length e
     rw[Wv (by simp;omega)]at this
     rw[<- Array.foldl_toList,Array.toList_zipIdx]
     simpa using this
   ·cases g
end
end
section
section
variable {P:Program} {c:Ctx} {μ:Mu} {Φ:ZM} {σ σ':Zw} {w:World} {a:Act} {env:List AV} {L:Nat} {x:AV}
theorem b5v{α β:Type}{f:α->Sem β}: ∀ {xs:List α} {ys:List β},xs.length=ys.length->(∀ (j:Nat) x y,xs[j]? = some x->ys[j]? = some y->(f x).run P w = .ok y w)->(xs.mapM f).run P w = .ok ys w:=by
  intro xs
  induction xs with
  | nil => intro ys h _; have : ys = [] := by simpa using h.symm
           subst this;simp
  | cons x xs ih=>
    intro ys h e
    cases ys with
    | nil=>simp at h
    | cons y ys=>
      rw[List.mapM_cons]
      simp[e 0 x y rfl rfl,ih (by simpa using h) (fun j a b ha hb=>e (j+1) a b (by simpa using ha) (by simpa using hb))]
theorem Lu{α β:Type}{f:α->Sem β}{xs:Array α}{ys:List β}(h:xs.size=ys.length)(g : ∀ (j:Nat) x y,xs[j]? = some x->ys[j]? = some y->(f x).run P w = .ok y w):(xs.mapM f).run P w = .ok ys.toArray w:=by
 rw[Array.mapM_eq_mapM_toList]
 simp[b5v (P:=P) (w:=w) (f:=f) (xs:=xs.toList) (ys:=ys) (by simpa using h) (fun j x y e b=>g j x y (by simpa using e) b)]
theorem Am{z:Value}{p:PV}{places:Nat->Option (Nat×Nat)}{ps:List (Nat×Value)}{qs:List (Nat×Nat×IOp)}(h:V4 z=some p)(hg:Good c μ Φ σ w)
  (g:ps.length=qs.length) (e : ∀ (j:Nat) a b,ps[j]? = some a->qs[j]? = some b->places a.1=some (b.1,b.2.1)∧R μ Φ a.2 (ev env b.2.2)) (hr:(YO L env (.build p.cells qs)).run σ=some (x,σ')) :
  ∃ ds,Instr.fill places z.cells ps=some ds∧σ'=σ∧R μ Φ (.agg ds) x:=by
 simp only[YO]at hr
 split at hr
 ·rename_i ys k
  obtain⟨rfl,rfl⟩:=Zu hr
  obtain⟨h1,h2⟩:=Us (Ub (Φ:=Φ) h) (XF h)
  obtain⟨ds,k1,l,k3,_⟩:=a5p (places:=places) ps (qs.map fun(o,n,x)=>(o,n,ev env x)) z.cells _ ys (h1.toRL (μ:=μ)) h2 (by simpa using g) (by
   intro j a b ha hb
   rw[List.getElem?_map]at hb
   obtain⟨q,r,rfl⟩:=Option.map_eq_some_iff.1 hb
   exact e j a q ha r) k
  refine⟨ds,k1,rfl,?_⟩
  have:=Bc l k3
  simpa using this
 ·exact(Zh hr).elim
theorem b5a{t:TypeId}{l:Array Field}{i:TypeInfo}{z:Value}{p:PV}{h:List (Nat×Nat)}{ps:Array (Nat×Value)}{qs:List (Nat×Nat×IOp)}(ht:P.underlying t=some (.struct l))(hi:P.info? t=some i)(s:i.zero=some z)(B:V4 z=some p)
  (k:Y0 (fun(f:Field)=>(P.info? f.type).map fun i=>(f.offset,i.size)) l.toList=some h) (y:Good c μ Φ σ w) (g:ps.size=qs.length)
  (e : ∀ (j:Nat) a b,ps[j]? = some a->qs[j]? = some b->h[a.1]? = some (b.1,b.2.1)∧R μ Φ a.2 (ev env b.2.2)) (hr:(YO L env (.build p.cells qs)).run σ=some (x,σ')) :
  VS P (Instr.build t ps) w (Z0 c μ Φ σ' x):=by
 obtain⟨ds,k1,rfl,E⟩:=Am (c:=c) (places:=(h[·]?)) (ps:=ps.toList) B y (by simpa using g) (fun j a b ha hb=>e j a b (by simpa using ha) hb) hr
 obtain⟨A,C⟩:=XM k
 have hm:=Lu (P:=P) (w:=w) (f:=fun(f:Field)=>do pure (f.offset,<- sizeOf f.type)) (xs:=l) (ys:=h) (by simpa using A) (by
  intro j f q D F
  have:=C j f q (by simpa using D) F
  rw[Option.map_eq_some_iff]at this
  obtain⟨i',u,rfl⟩:=this
  simp[Z6 u])
 refine⟨.agg ds,w,?_,Zj y E⟩
 have r:(zeroValue t).run P w = .ok z w:=by simp[zeroValue,typeInfo,hi,s]
 simp only[Instr.build,Sem.run_bind,r,Result.andThen_ok,run_underlying ht]
 rw[hm]
 simp[k1]
theorem a7x{t e:TypeId}{n:Nat}{i k:TypeInfo}{z:Value}{p:PV}{ps:Array (Nat×Value)}{qs:List (Nat×Nat×IOp)}(ht:P.underlying t=some (.array n e))(hi:P.info? t=some i)(l:P.info? e=some k)(r:i.zero=some z)(u:V4 z=some p)
  (s:Good c μ Φ σ w) (h:ps.size=qs.length)
  (g : ∀ (j:Nat) a b,ps[j]? = some a->qs[j]? = some b->some (a.1*k.size,k.size)=some (b.1,b.2.1)∧R μ Φ a.2 (ev env b.2.2)) (hr:(YO L env (.build p.cells qs)).run σ=some (x,σ')) :
  VS P (Instr.build t ps) w (Z0 c μ Φ σ' x):=by
 obtain⟨ds,k1,rfl,y⟩:=Am (c:=c) (places:=fun j=>some (j*k.size,k.size)) (ps:=ps.toList) u s (by simpa using h) (fun j a b ha hb=>g j a b (by simpa using ha) hb) hr
 refine⟨.agg ds,w,?_,Zj s y⟩
 have q:(zeroValue t).run P w = .ok z w:=by simp[zeroValue,typeInfo,hi,r]
 simp[Instr.build,q,run_underlying ht,Z6 l,k1]
theorem a7p{sz:Nat}: ∀ (xs:List PV) (k:Nat) (pre:List AV),pre.length=k*sz->(∀ x∈xs,x.cells.length=sz∧x.cellsOk=true) ->
  DC (pre++List.replicate (xs.length*sz) .junk) ((xs.zipIdx k).map fun q=>(q.2*sz,sz,AV.pv q.1))=some (pre++(flat xs).map .pv):=by
 intro xs
 induction xs with
 | nil=>intro k pre _ _;simp[DC,flat]
 | cons x xs ih=>
  intro k pre g j
  obtain⟨h1,h2⟩:=j x (by simp)
  have e:AV.cells (.pv x)=x.cells.map .pv:=by cases x <;> rfl
  have h:AV.cellsOk (.pv x)=true:=by cases x <;> simp_all[AV.cellsOk,PV.cellsOk]
  have l:(AV.cells (.pv x)).length=sz:=by rw[e];simpa using h1
  simp only[List.zipIdx_cons,List.map_cons,DC]
  rw[if_pos ⟨l,by simp[g,Nat.add_mul],h⟩]
  have b:splice (pre++List.replicate ((x::xs).length*sz) AV.junk) (k*sz) (AV.cells (.pv x))=(pre++x.cells.map .pv)++List.replicate (xs.length*sz) .junk:=by
   unfold splice
   rw[l,<- g,List.take_left,<- List.drop_drop,List.drop_left,e,List.drop_replicate]
   congr 2
   simp[Nat.add_mul]
  rw[b,ih (k+1) _ (by simp[g,h1,Nat.add_mul]) (fun y r=>j y (by simp[r]))]
  simp[XK]
theorem FT:(default:Value).oneCell'=true:=rfl
theorem d0w(cs:List Value):RL μ Φ cs (List.replicate cs.length .junk):=
 ⟨by simp,fun j v x hv b=>by
  have:=List.getElem?_eq_some_iff.1 b
  obtain⟨h,e⟩:=this
  simp at e
  subst e
  exact .junk v⟩
theorem TA{z:Array Value}(g:YM z.toList)(n:Nat):YM ((Array.range n).map (z[· % z.size]!)).toList:=by
 intro v b
 simp at b
 obtain⟨k,hk,rfl⟩:=b
 rw[getElem!_def]
 split
 ·rename_i e
  exact g _ (by simpa using Array.mem_of_getElem? e)
 ·exact FT
theorem Pp{α:Type}: ∀ (l:List (Nat×α)) (k:Nat),l.map (·.1)=List.range' k l.length->l=((l.map (·.2)).zipIdx k).map fun q=>(q.2,q.1):=by
 intro l
 induction l with
 | nil=>intro k _;rfl
 | cons a l ih=>
  intro k h
  simp only[List.map_cons,List.length_cons,List.range'_succ,List.cons.injEq]at h
  simp only[List.map_cons,List.zipIdx_cons]
  rw[<- ih (k+1) h.2,<- h.1]
theorem vs_bslice {t e : TypeId} {n : Nat} {i : TypeInfo} {z : Value} {p : PV} {ps : Array (Nat × Value)} {qs : List (Nat × IOp)} (ht : P.underlying t = some (.slice e)) (hi : P.info? e = some i) (E : i.zero = some z) (O : V4 z = some p)
    (hsmall:n*i.size ≤ 1048576) (hnsm:n ≤ 1048576) (W:Good c μ Φ σ w) (H:ps.size=qs.length)
    (A : ∀ (j:Nat) a b,ps[j]? = some a → qs[j]? = some b → a.1=b.1∧R μ Φ a.2 (ev env b.2)) (hr:(YO L env (.bslice e i.size n p qs)).run σ=some (x,σ')) :
    VS P (Instr.buildSlice t n ps) w (Z0 c μ Φ σ' x):=by
  simp only[YO]at hr
  split at hr
  · rename_i h
    rw[HM.run_bind,Option.bind_eq_some_iff]at hr
    obtain⟨⟨xs,σ1⟩,hf,hr⟩:=hr
    have N:RL μ Φ (ps.toList.map (·.2)) (qs.map fun(_,x)=>ev env x):=by
      refine⟨by simpa using H,?_⟩
      intro j v y s l
      rw[List.getElem?_map]at s l
      obtain⟨a,ha,rfl⟩:=Option.map_eq_some_iff.1 s
      obtain⟨b,hb,rfl⟩:=Option.map_eq_some_iff.1 l
      exact(A j a b (by simpa using ha) hb).2
    obtain⟨Φ1,X,f2,f3⟩:=Vu _ hf W N
    simp only at hr
    have M:=ZZ hr
    clear hr
    obtain⟨F,hr⟩:=M
    · obtain⟨V,hr⟩:=QQ hr
      obtain⟨rfl,rfl⟩:=Zu hr
      have D:xs.length=n:=by
        have h1:=congrArg List.length h
        have h2:=f3.1
        simp at h1 h2
        omega
      have k : ∀ x∈xs,x.cells.length=i.size∧x.cellsOk=true:=by
        intro y l
        have:=List.all_eq_true.1 F y l
        simpa using this
      have hzero:(if n*i.size=0 then(pure #[]:Sem (Array Value))else do pure (← zeroValue e).cells).run P w = .ok (if n*i.size=0 then #[]else z.cells) w:=by
        split
        · rfl
        · simp[zeroValue,typeInfo,hi,E]
      have K:YM (if n*i.size=0 then #[]else z.cells:Array Value).toList:=by
        split
        · intro v s;simp at s
        · exact(Us (Ub (Φ:=Φ) O) (XF O)).2
      -- the parts in order
      have hps:ps.toList=((ps.toList.map (·.2)).zipIdx 0).map fun q=>(q.2,q.1):=by
        refine Pp _ 0 ?_
        have Z:ps.toList.map (·.1)=qs.map (·.1):=by
          apply List.ext_getElem?
          intro j
          rw[List.getElem?_map,List.getElem?_map]
          by_cases hj:j<qs.length
          · have ha:ps[j]? = some (ps[j]'(by omega)):=Array.getElem?_eq_getElem (by omega)
            have hb:qs[j]? = some qs[j]:=List.getElem?_eq_getElem hj
            have:=(A j _ _ ha hb).1
            simp[ha,hb,this]
          · have hb:qs[j]? = none:=List.getElem?_eq_none (by omega)
            have ha:ps.toList[j]? = none:=List.getElem?_eq_none (by simp;omega)
            rw[ha,hb];rfl
        rw[Z,h,List.range_eq_range']
        have:ps.toList.length=n:=by
          have:=f3.1
          simp at this ⊢
          omega
        rw[this]
      obtain⟨ds,k1,Q,k3,Y⟩:=a5p (μ:=μ) (Φ:=Φ1) (places:=fun j=>some (j*i.size,i.size)) ps.toList ((xs.zipIdx 0).map fun q=>(q.2*i.size,i.size,AV.pv q.1))
        ((Array.range (n*i.size)).map ((if n*i.size=0 then #[]else z.cells:Array Value)[· % (if n*i.size=0 then #[]else z.cells:Array Value).size]!)) (List.replicate (n*i.size) .junk) ((flat xs).map .pv)
        (by have := d0w (μ := μ) (Φ := Φ1) ((Array.range (n * i.size)).map ((if n * i.size = 0 then #[] else z.cells : Array Value)[· % (if n * i.size = 0 then #[] else z.cells : Array Value).size]!)).toList
            simpa using this)
        (TA K _) (by have:=f3.1;simp at this ⊢;omega)
        (by
          intro j pa qa ha hb
          rw[hps,List.getElem?_map,List.getElem?_zipIdx]at ha
          rw[List.getElem?_map,List.getElem?_zipIdx]at hb
          simp only[Option.map_map,Option.map_eq_some_iff,Function.comp]at ha hb
          obtain⟨v,s,rfl⟩:=ha
          obtain⟨y,l,rfl⟩:=hb
          exact⟨rfl,.pv _ _ (f3.2 j v y s l)⟩)
        (by have := a7p (sz := i.size) xs 0 [] (by simp) k
            rw[D]at this
            simpa using this)
      have g:Instr.fill (fun j=>some (j*i.size,i.size)) ((Array.range (n*i.size)).map ((if n*i.size=0 then #[]else z.cells:Array Value)[· % (if n*i.size=0 then #[]else z.cells:Array Value).size]!)) ps.toList=some ds:=k1
      have u:ds.size=n*i.size:=by rw[Y];simp
      have I:ds.toList.take (xs.length*i.size)=ds.toList:=by rw[List.take_of_length_le (by simp[u,D])]
      obtain⟨μ',U,T,S⟩:=CX (w':=w.alloc (.cells ds e)) f2 V (ty:=e) (sz:=i.size) (xs:=xs) (B:=w.heap.size) (C:=n) (cs:=ds) rfl rfl rfl (by simp) (fun b hb=>Wx w _ b hb) (Nat.le_refl _) (Vx w _) u (by omega)
        (by unfold maxLen;omega)
        (fun y l=>(k y l).1) (by
          rw[I]
          refine⟨by simpa using Q.1,fun j v y s l=>Yk (Q.2 j v (.pv y) s (by simp[l]))⟩) (by rw[I];exact k3)
      rw[D]at S
      refine⟨_,_,?_,μ',Φ1,U,X,T,S⟩
      have r : ¬ n*i.size>2 ^ 24:=by omega
      have J:(zeroValue e).run P w = .ok z w:=by simp[zeroValue,typeInfo,hi,E]
      by_cases hz0:n*i.size=0
      · simp only[hz0,if_true]at g r
        simp only[Instr.buildSlice,Sem.run_bind,run_underlying ht,Result.andThen_ok,Z6 hi,r,if_false,hz0,if_true,Sem.run_pure,g,newRow]
        rfl
      · simp only[hz0,if_false]at g r
        simp only[Instr.buildSlice,Sem.run_bind,run_underlying ht,Result.andThen_ok,Z6 hi,r,if_false,hz0,J,Sem.run_pure,g,newRow]
        rfl
  · exact(Zh hr).elim
end
end
section
section
variable {P:Program} {c:Ctx} {μ:Mu} {Φ:ZM} {σ σ':Zw} {w:World} {a:Act} {env:List AV} {L:Nat} {x:AV}
theorem JH{p:PV}: ∀ (n k:Nat),k<n*p.cells.length->(flat (List.replicate n p))[k]? = p.cells[k % p.cells.length]? :=by
 intro n
 induction n with
 | zero=>intro k h;simp at h
 | succ n ih=>
  intro k h
  rw[List.replicate_succ,XK]
  rw[Nat.add_mul,Nat.one_mul]at h
  by_cases hk:k<p.cells.length
  ·rw[List.getElem?_append_left hk,Nat.mod_eq_of_lt hk]
  ·rw[List.getElem?_append_right (by omega),ih _ (by omega)]
   congr 1
   rw[Nat.mod_eq_sub_mod (by omega:k ≥ p.cells.length)]
theorem M8{z:Value}{p:PV}(A:V4 z=some p){n sz:Nat}(hs:p.cells.length=sz):XW Φ ((madeCells z.cells (n*sz)).toList) (flat (List.replicate n p))∧YM (madeCells z.cells (n*sz)).toList:=by
 obtain⟨h1,h2⟩:=Us (Ub (Φ:=Φ) A) (XF A)
 have q:z.cells.size=sz:=by have:=h1.1;simp at this;omega
 refine⟨⟨?_,?_⟩,TA h2 _⟩
 ·rw[X3 (sz:=sz) (fun x l=>by have:=List.eq_of_mem_replicate l;rw[this];exact hs)]
  simp[size_madeCells]
 ·intro j v x b l
  have y:j<n*sz:=by
   have:=(List.getElem?_eq_some_iff.1 b).1
   simpa [size_madeCells]using this
  have g:0<sz:=by
   rcases Nat.eq_zero_or_pos sz with h|h
   ·subst h;simp at y
   ·exact h
  have hm:j % sz<sz:=Nat.mod_lt _ g
  rw[JH n j (by rw[hs];exact y),hs]at l
  have u:z.cells[j % sz]? = some (z.cells[j % sz]'(by omega)):=Array.getElem?_eq_getElem (by omega)
  have s:v=z.cells[j % sz]'(by omega):=by
   simp[madeCells,q]at b
   obtain⟨k,B,b⟩:=b
   have r:j=k:=by
    obtain⟨_,e⟩:=List.getElem?_eq_some_iff.1 B
    simpa using e
   subst r
   rw[getElem!_pos z.cells (j % sz) (by omega)]at b
   exact b.symm
  subst s
  exact h1.2 (j % sz) _ x (by simp[u]) l
theorem c7u{t e:TypeId}{i:TypeInfo}{z:Value}{p:PV}{u v:Value}{X Y:IOp}(ht:P.underlying t=some (.slice e))(hi:P.info? e=some i)(q:i.zero=some z)(E:V4 z=some p)(hs:p.cells.length=i.size)
  (I:Good c μ Φ σ w) (hu:R μ Φ u (ev env X)) (l:R μ Φ v (ev env Y)) (hr:(YO L env (.mksl e i.size i.bytes p X Y)).run σ=some (x,σ')):VS P (Instr.makeSlice t u v) w (Z0 c μ Φ σ' x):=by
 simp only[YO]at hr
 split at hr
 ·rename_i n m A M
  rw[A]at hu
  rw[M]at l
  replace hu:=Yk hu
  replace l:=Yk l
  have g:=ZZ hr
  clear hr
  obtain⟨hc,hr⟩:=g
  simp only[Bool.and_eq_true,beq_iff_eq,decide_eq_true_eq]at hc
  ·obtain⟨⟨⟨H,rfl⟩,h2⟩,h3⟩:=hc
   have g:=QQ hr
   clear hr
   obtain⟨F,hr⟩:=g
   obtain⟨rfl,rfl⟩:=Zu hr
   cases hu
   cases l
   have h:=run_make (P:=P) w t e i z ht hi q .i64 .i64 n n H (Int.le_refl _) (by rw[Int.mul_comm];omega) (by omega)
   obtain⟨k1,J⟩:=M8 (Φ:=Φ) E (n:=n.toNat) hs
   have j:(List.replicate n.toNat p).length=n.toNat:=by simp
   have k:(madeCells z.cells (n.toNat*i.size)).toList.take ((List.replicate n.toNat p).length*i.size)=(madeCells z.cells (n.toNat*i.size)).toList:=by
    rw[List.take_of_length_le (by simp[size_madeCells])]
   obtain⟨μ',D,s,r⟩:=CX (w':=w.alloc (.cells (madeCells z.cells (n.toNat*i.size)) e)) I F (ty:=e) (sz:=i.size) (xs:=List.replicate n.toNat p) (B:=w.heap.size) (C:=n.toNat) (cs:=madeCells z.cells (n.toNat*i.size)) rfl rfl rfl (by simp) (fun b hb=>Wx w _ b hb) (Nat.le_refl _) (Vx w _) (size_madeCells _ _) (by simp)
    (by unfold maxLen;omega) (fun y K=>by have:=List.eq_of_mem_replicate K;rw[this];exact hs) (by rw[k];exact k1) (by rw[k];exact J)
   rw[j]at r
   exact⟨_,_,h,μ',Φ,D,ZM.le.refl _,s,r⟩
 ·exact(Zh hr).elim
def YS(Φ:ZM)(w:World)(sz:Nat)(v:Value)(ys:List PV):Prop:=
 ∃ e g,v = .slice e ys.length g∧(ys=[] ∨ ∃ b off news,e=some ⟨b,off,none⟩∧Vt w b off news∧XW Φ news (flat ys)∧YM news∧ ∀ x∈ys,x.cells.length=sz)
theorem KC{σ:Zw}{l:Nat}{s:Slot}(h:σ[l]? = some s):σ.set l s=σ:=by
 apply List.ext_getElem?
 intro j
 by_cases e:j=l
 ·subst e
  rw[ZI h,h]
 ·rw[ZE e]
theorem WB{t ty e:TypeId}{i:TypeInfo}(ht:P.underlying t=some (.slice e))(hi:P.info? e=some i){b j:Option Addr}{n g l:Nat}(h:n<=g):
  (Builtin.append_ #[t,t] ty #[.slice b n g,.slice j 0 l]).run P w = .ok (.slice b n g) w:=by
 have k:(Builtin.firstCells i.size 0 (.slice j 0 l)).run P w = .ok #[] w:=by
  cases j with
  | none=>rfl
  | some q=>simp[Builtin.firstCells,loadCells,loadCellsFrom]
 cases b with
 | none=>simp[Builtin.append_,run_underlying ht,Z6 hi,Builtin.lenOf,h,k]
 | some q=>simp[Builtin.append_,run_underlying ht,Z6 hi,Builtin.lenOf,h,k,storeCells]
theorem We{b off:Nat}{cs:List Value}(h:Vt w b off cs): ∀ j u,cs[j]? = some u->w.cell? ((⟨b,off,none⟩:Addr).add j)=some u:=fun j u e=>by rw[Xe];exact h j u e
theorem Qe{w':World}(hg:Good c μ Φ σ w){v':Value}{e sz n:Nat}{h:List Value}{xs:List PV}(l:w'.ownsRow w.heap.size e sz v' n h)(hgr : ∀ k,k<w.heap.size->w'.heap[k]? = w.heap[k]?)(hn:n=xs.length)(hpos:0<n):
  ∃ g j b,v' = .slice (some ⟨g,0,none⟩) n j∧w.heap.size<=g∧w'.heap[g]? = some (.cells b e (0,0))∧n<=j∧j<=maxLen∧b.size=j*sz∧b.toList.take (n*sz)=h:=by
 rcases l.2 with ⟨_,h0⟩|⟨g,j,b,h1,h2,h3,q,r,u,s⟩
 ·omega
 ·exact⟨g,j,b,h1,h2,h3,q,r,u,s⟩
theorem Wm.stores{B o n C:Nat}{e:Nat}{b:Array Value}(h:Wm w B b e n C)(vs:List Value)(hl:o+vs.length<=b.size)(h1 : ∀ v∈vs,v.oneCell'=true):
  (storeCells ⟨B,o,none⟩ vs 0).run P w = .ok () (w.setRow B (b.toList.take o++vs++b.toList.drop (o+vs.length)).toArray):=by
 obtain⟨z,h,g⟩:=h
 have:=BF (P:=P) (o:=o) vs 0 b w h (g.imp id fun h=>h.2) (by omega) h1
 simpa using this
theorem Cn{t ty e:TypeId}{i:TypeInfo}(ht:P.underlying t=some (.slice e))(hi:P.info? e=some i)
  (g b h:Nat) (k:Array Value) {n C:Nat} (z:Wm w g k e n C)
  (a:Addr) (m c:Nat) (news:List Value) (y:news.length=m*i.size) (q : ∀ j u,news[j]? = some u->w.cell? (a.add j)=some u) (h1 : ∀ u∈news,u.oneCell'=true)
  (l:b+m<=h) (r:b*i.size+news.length<=k.size) :
  (Builtin.append_ #[t,t] ty #[.slice (some ⟨g,0,none⟩) b h,.slice (some a) m c]).run P w =
   .ok (.slice (some ⟨g,0,none⟩) (b+m) h) (w.setRow g (k.toList.take (b*i.size)++news++k.toList.drop (b*i.size+news.length)).toArray):=by
 have A:=run_firstCells_some (P:=P) w i.size m a m c news y q
 have s:=z.stores (P:=P) news r h1
 simp[Builtin.append_,run_underlying ht,sizeOf,typeInfo,hi,Builtin.lenOf,l,A,Addr.add_lit,s]
theorem Wm.put'{g n C k j:Nat}{e:Nat}{b:Array Value}{cs:List Value}(h:Wm w g b e n C)(hs:cs.length=b.size):Wm (w.setRow g cs.toArray) g cs.toArray e k j:=by
 obtain⟨z,h1,h2⟩:=h
 exact⟨z,setRow_heap w g b _ e z h1,by rw[List.size_toArray,hs];exact h2⟩
theorem Ra{t ty e:TypeId}{i:TypeInfo}{z:Value}{p:PV}{u v:Value}{X:AV}{ys:List PV}(ht:P.underlying t=some (.slice e))(hi:P.info? e=some i)(K:i.zero=some z)(hz:V4 z=some p)(hs:p.cells.length=i.size)(D:0<i.size)
  (T:Good c μ Φ σ w) (hu:R μ Φ u X) (hy:YS Φ w i.size v ys) (hr:(Kh L e i.size i.bytes X ys).run σ=some (x,σ')):VS P (Builtin.append_ #[t,t] ty #[u,v]) w (Z0 c μ Φ σ' x):=by
 have W:z.cells.size=i.size:=by
  have:=(Us (Ub (Φ:=Φ) hz) (XF hz)).1.1
  simp at this
  omega
 obtain⟨ay,cy,rfl,hys⟩:=hy
 unfold Kh at hr
 split at hr
 ·rename_i sz' tt xs
  replace hu:=Yk hu
  have s:=ZZ hr
  clear hr
  obtain⟨rfl,hr⟩:=s
  replace hr:=a2t hr
  cases he:ys.isEmpty with
  | true=>
   rw[he]at hr
   obtain⟨rfl,rfl⟩:=Zu hr
   have:ys=[]:=by simpa using he
   subst this
   have : ∃ b V,u = .slice b xs.length V∧xs.length<=V:=by
    cases hu with
    | sl0 a c sz t h=>exact⟨a,c,rfl,by simp⟩
    | sl b off cs c sz t xs u hb hc htt hs hu hr=>exact⟨_,c,rfl,hc⟩
   obtain⟨b,V,rfl,hcp⟩:=this
   exact⟨_,w,WB ht hi hcp,Zj T (.pv _ _ hu)⟩
  | false=>
   rw[he]at hr
   have O : ¬ ys.isEmpty=true:=by simp[he]
   have s:=ZZ hr
   clear hr
   obtain⟨hb,hr⟩:=s
   simp only[Bool.and_eq_true,decide_eq_true_eq]at hb
   ·obtain⟨⟨hb0,hb1⟩,hb2⟩:=hb
    have s:=QQ hr
    clear hr
    obtain⟨hl,hr⟩:=s
    obtain⟨rfl,rfl⟩:=Zu hr
    rcases hys with rfl|⟨b,off,news,rfl,y1,y2,y3,y4⟩
    ·simp at O
    have A:news.length=ys.length*i.size:=by rw[y2.1,X3 y4]
    have hylen:0<ys.length:=by
     cases ys with
     | nil=>simp at O
     | cons=>simp
    -- the run
    have Y : ∃ v' w' I,(Builtin.append_ #[t,t] ty #[u,.slice (some ⟨b,off,none⟩) ys.length cy]).run P w = .ok v' w'∧w'.ownsRow w.heap.size e i.size v' (xs.length+ys.length) (I++news)∧w.grownBy w' none∧XW Φ I (flat xs)∧YM I∧(∀ x∈xs,x.cells.length=i.size):=by
     by_cases hx0:xs=[]
     ·subst hx0
      cases hu with
      | sl0 a cc _ _ h=>
       have:=h rfl
       subst this
       cases a with
       | none=>
        obtain⟨v',w',Z,N,y,_⟩:=run_append_own (P:=P) w w.heap.size t ty e i z i.size i.bytes ht hi K rfl rfl W D _ 0 [] (World.ownsRow_nil _ _ _ _) ⟨b,off,none⟩ ys.length cy news A (We y1) y3 (by unfold maxLen;simp at hb2;omega) (by simp at hb1 ⊢;omega) (Nat.le_refl _)
        exact⟨v',w',[],Z,by simpa using N,y,⟨rfl,fun j v x h=>by simp at h⟩,fun v hv=>by simp at hv,fun x E=>by simp at E⟩
       | some q=>
        obtain⟨v',w',Z,N,y⟩:=run_append_arg_grows (P:=P) w t ty e i z i.size i.bytes ht hi K rfl rfl W D q 0 0 [] (by simp) (fun j u h=>by simp at h) ⟨b,off,none⟩ ys.length cy news A (We y1) (by omega) (by unfold maxLen;simp at hb2;omega) (by simp at hb1 ⊢;omega)
        exact⟨v',w',[],Z,by simpa using N,y,⟨rfl,fun j v x h=>by simp at h⟩,fun v hv=>by simp at hv,fun x E=>by simp at E⟩
      | sl b' U cs cc _ _ _ uu hb' hc htt hss huu hrr=>
       have:=htt rfl
       have hc0:cc=0:=by simpa using this
       subst hc0
       obtain⟨v',w',Z,N,y⟩:=run_append_arg_grows (P:=P) w t ty e i z i.size i.bytes ht hi K rfl rfl W D ⟨b',U,none⟩ 0 0 [] (by simp) (fun j u h=>by simp at h) ⟨b,off,none⟩ ys.length cy news A (We y1) (by omega) (by unfold maxLen;simp at hb2;omega) (by simp at hb1 ⊢;omega)
       exact⟨v',w',[],Z,by simpa using N,y,⟨rfl,fun j v x h=>by simp at h⟩,fun v hv=>by simp at hv,fun x E=>by simp at E⟩
     ·obtain⟨b',U,c',cs',us',rfl,z1,z2,z3,z4,z5,z6,z7⟩:=hu.sl_cells T.phi hx0
      have hc':=z3 rfl
      have hsz:sz'=i.size:=by
       rcases Bool.or_eq_true _ _ |>.mp hb0 with h|h
       ·exact absurd (by simpa using h) hx0
       ·exact beq_iff_eq.mp h
      subst hsz
      obtain⟨v',w',Z,N,y⟩:=run_append_arg_grows (P:=P) w t ty e i z i.size i.bytes ht hi K rfl rfl W D ⟨b',U,none⟩ xs.length c' us' (by rw[z6.1,X3 z4]) (We z5) ⟨b,off,none⟩ ys.length cy news A (We y1) (by omega) (by unfold maxLen;omega) (by omega)
      exact⟨v',w',us',Z,N,y,z6,z7,z4⟩
    obtain⟨v',w',I,Z,N,y,r4,r5,r6⟩:=Y
    have H : ∀ x∈xs++ys,x.cells.length=i.size:=fun x E=>by
     rcases List.mem_append.1 E with E|E
     ·exact r6 x E
     ·exact y4 x E
    have M : ∀ k,k<w.heap.size->w'.heap[k]? = w.heap[k]? :=fun k hk=>y.block k hk (by simp)
    obtain⟨g,V,cur,rfl,g2,g3,g4,g5,g6,g7⟩:=Qe T N M (xs:=xs++ys) (by simp) (by omega)
    have r:(xs++ys).length=xs.length+ys.length:=by simp
    obtain⟨μ',q1,q2,q3⟩:=CX (w':=w') T hl (ty:=e) (sz:=i.size) (xs:=xs++ys) (B:=g) (C:=V) (cs:=cur) y.os y.tape y.output y.size M g2 g3 g6 (by rw[r];exact g4) g5 H
     (by rw[r,g7,X9];exact r4.append y2) (by rw[r,g7];exact r5.append y3)
    rw[r]at q3
    exact⟨_,_,Z,μ',Φ,q1,ZM.le.refl _,q2,q3⟩
 ·rename_i l n0 n
  have s:=Xc hr
  clear hr
  obtain⟨ob,Q,hr⟩:=s
  split at hr
  ·rename_i ty' sz' xs
   split at hr
   ·rename_i hc
    obtain⟨rfl,rfl⟩:=hc
    have s:=ZZ hr
    clear hr
    obtain⟨hq,hr⟩:=s
    simp only[Bool.and_eq_true,beq_iff_eq,decide_eq_true_eq]at hq
    obtain⟨⟨⟨hn,rfl⟩,hb1⟩,hb2⟩:=hq
    have s:=UR hr
    clear hr
    obtain⟨_,hr⟩:=s
    obtain⟨rfl,rfl⟩:=Zu hr
    cases hu with
    | row _ _ _ _ B C S q hm h2 h3 h4 ha=>
     have hq:=ha (.inr rfl)
     subst hq
     obtain⟨B',C',us,k1,k2,k3,k4,k5,k6,k7,k8,k9,k10⟩:=T.obj l _ Q
     rw[hn,hm]at k1
     cases k1
     simp only[Nat.sub_zero,Nat.zero_mul]
     rcases hys with rfl|⟨b,off,news,rfl,y1,y2,y3,y4⟩
     ·-- nothing is appended
      have F:σ.set l (.obj (.row false ty' i.size (xs++[])))=σ:=by rw[List.append_nil];exact KC Q
      refine⟨_,w,WB ht hi (by omega),?_⟩
      rw[F]
      refine Zj T ?_
      have:=R.row (μ:=μ) (Φ:=Φ) l n 0 n B C i.size (some ⟨B,0,none⟩) hm (Nat.zero_le _) (Nat.le_refl _) h4 (fun _=>by simp)
      simpa using this
     ·have A:news.length=ys.length*i.size:=by rw[y2.1,X3 y4]
      have H : ∀ x∈xs++ys,x.cells.length=i.size:=fun x E=>by
       rcases List.mem_append.1 E with E|E
       ·exact k7 x E
       ·exact y4 x E
      have r:(xs++ys).length=n+ys.length:=by simp[hn]
      have hblk:blk μ l (.row false ty' i.size xs)=B:=by simp[blk,hn,hm]
      by_cases hy0:ys=[]
      ·subst hy0
       have F:σ.set l (.obj (.row false ty' i.size (xs++[])))=σ:=by rw[List.append_nil];exact KC Q
       refine⟨_,w,WB ht hi (by omega),?_⟩
       rw[F]
       refine Zj T ?_
       have:=R.row (μ:=μ) (Φ:=Φ) l n 0 n B C i.size (some ⟨B,0,none⟩) hm (Nat.zero_le _) (Nat.le_refl _) h4 (fun _=>by simp)
       simpa using this
      ·have hylen:0<ys.length:=by
        cases ys with
        | nil=>exact absurd rfl hy0
        | cons=>simp
       have hnew:μ l (n+ys.length)=none:=k2 _ (by omega)
       by_cases hroom:n+ys.length<=C
       ·-- there is room
        have hfit:n*i.size+news.length<=us.size:=by
         rw[A,k4,<- Nat.add_mul]
         exact Nat.mul_le_mul_right _ hroom
        have Y:=Cn (P:=P) (w:=w) (ty:=ty) ht hi B n C us k3 ⟨b,off,none⟩ ys.length cy news A (We y1) y3 hroom hfit
        have J:=Mu.le_add μ l (n+ys.length) (B,C,i.size) (.inl hnew)
        refine⟨_,_,Y,μ.add l (n+ys.length) (B,C,i.size),Φ,J,ZM.le.refl _,?_,?_⟩
        ·refine T.put Q rfl J (fun l' h m=>Mu.add_ne _ _ _ _ _ _ h) (by simp) (by simp) (by simp) (by simp) (fun b' _ O=>setRow_other w B b' _ (by rw[hblk]at O;exact O)) ?_ (.inl (by rw[hblk];simp[blk,r,Mu.add_same]))
         have hfl:(us.toList.take (n*i.size)).length=n*i.size:=by simp;omega
         have htk:(us.toList.take (n*i.size)++news++us.toList.drop (n*i.size+news.length)).take ((xs++ys).length*i.size)=us.toList.take (xs.length*i.size)++news:=by
          rw[r,hn,Nat.add_mul,<- A]
          rw[List.take_append_of_le_length (by rw[List.length_append,hfl];exact Nat.le_refl _),List.take_of_length_le (by rw[List.length_append,hfl];exact Nat.le_refl _)]
         refine⟨B,C,_,by rw[r];exact Mu.add_same _ _ _ _,fun m hm'=>by rw[Mu.add_ver _ _ _ _ _ (by omega)];exact k2 m (by omega),k3.put' (by rw[List.length_append,List.length_append,hfl,List.length_drop];simp only[Array.length_toList];omega),?_,by rw[r];exact hroom,k6,H,?_,?_,by simpa using k10⟩
         ·rw[List.size_toArray,List.length_append,List.length_append,hfl,List.length_drop]
          simp only[Array.length_toList]
          omega
         ·rw[List.toList_toArray,htk,X9]
          exact k8.append y2
         ·rw[List.toList_toArray,htk]
          exact k9.append y3
        ·have:=R.row (μ:=μ.add l (n+ys.length) (B,C,i.size)) (Φ:=Φ) l (n+ys.length) 0 (n+ys.length) B C i.size (some ⟨B,0,none⟩) (Mu.add_same _ _ _ _) (Nat.zero_le _) (Nat.le_refl _) hroom (fun _=>by simp)
         simpa using this
       ·-- a new row
        have hol:(us.toList.take (n*i.size)).length=n*i.size:=by
         have:n*i.size<=us.size:=by rw[k4];exact Nat.mul_le_mul_right _ h4
         simp
         omega
        obtain⟨v',w',Z,N,y⟩:=run_append_arg_grows (P:=P) w t ty ty' i z i.size i.bytes ht hi K rfl rfl W D ⟨B,0,none⟩ n C (us.toList.take (n*i.size)) hol
         (fun j u' hj=>by
          rw[Xe]
          obtain⟨_,k3,_⟩:=k3
          have:=Y7 k3 0 (n*i.size)
          simp only[List.drop_zero]at this
          exact this j u' hj)
         ⟨b,off,none⟩ ys.length cy news A (We y1) (by omega) (by unfold maxLen;omega) (by omega)
        have M : ∀ k,k<w.heap.size->w'.heap[k]? = w.heap[k]? :=fun k hk=>y.block k hk (by simp)
        obtain⟨g,V,cur,rfl,g2,g3,g4,g5,g6,g7⟩:=Qe T N M (xs:=xs++ys) (by simp[hn]) (by omega)
        have J:=Mu.le_add μ l (n+ys.length) (g,V,i.size) (.inl hnew)
        refine⟨_,_,Z,μ.add l (n+ys.length) (g,V,i.size),Φ,J,ZM.le.refl _,?_,?_⟩
        ·refine T.put Q rfl J (fun l' h m=>Mu.add_ne _ _ _ _ _ _ h) y.os y.tape y.output y.size (fun b' hb' _=>M b' hb') ?_ (.inr (by simp[blk,r,Mu.add_same];exact g2))
         refine⟨g,V,cur,by rw[r];exact Mu.add_same _ _ _ _,fun m hm'=>by rw[Mu.add_ver _ _ _ _ _ (by omega)];exact k2 m (by omega),.of g3,g6,by rw[r];exact g4,g5,H,?_,?_,by simp[HY T g2]⟩
         ·rw[r,g7,X9]
          have:=k8
          rw[hn]at this
          exact this.append y2
         ·rw[r,g7]
          have:=k9
          rw[hn]at this
          exact this.append y3
        ·have:=R.row (μ:=μ.add l (n+ys.length) (g,V,i.size)) (Φ:=Φ) l (n+ys.length) 0 (n+ys.length) g V i.size (some ⟨g,0,none⟩) (Mu.add_same _ _ _ _) (Nat.zero_le _) (Nat.le_refl _) g4 (fun _=>by simp)
         simpa using this
   ·exact(Zh hr).elim
  ·exact(Zh hr).elim
 ·exact(Zh hr).elim
theorem Ht{t C ty e:TypeId}{i:TypeInfo}{z:Value}(ht:P.underlying t=some (.slice e))(y:P.underlying C=some (.int .i64))(hi:P.info? e=some i)(A:i.zero=some z)
  (g b h:Nat) (j:Array Value) {E H:Nat} (D:Wm w g j e E H) (m:Nat) (hm:m<=1099511627776) (h48:m*i.bytes<=281474976710656) (h1 : ∀ u∈(Builtin.zeroCells z.cells m).toList,u.oneCell'=true) (hs:0<i.size) (h0:0<m)
  (k:b+m<=h) (s:b*i.size+(Builtin.zeroCells z.cells m).size<=j.size) :
  (Builtin.append_ #[t,C] ty #[.slice (some ⟨g,0,none⟩) b h,.int .i64 (m:Int)]).run P w =
   .ok (.slice (some ⟨g,0,none⟩) (b+m) h) (w.setRow g (j.toList.take (b*i.size)++(Builtin.zeroCells z.cells m).toList++j.toList.drop (b*i.size+(Builtin.zeroCells z.cells m).size)).toArray):=by
 have r:=D.stores (P:=P) (o:=b*i.size) (Builtin.zeroCells z.cells m).toList (by simpa using s) h1
 have F:IntKind.i64.wrap (m:Int)=m:=by rw[IntKind.wrap_i64];omega
 have q : ¬ ((m:Int)<0):=by omega
 have l : ¬ (281474976710656<(m:Int)*(i.bytes:Int)):=by
  rw[<- Int.natCast_mul]
  omega
 have B : ¬ (m*i.size=0):=Nat.mul_ne_zero (by omega) (by omega)
 simp only[Array.length_toList]at r
 simp[Builtin.append_,run_underlying ht,run_underlying y,sizeOf,typeInfo,zeroValue,hi,A,asInt,asIntOf,F,q,l,k,B,Addr.add_lit,r]
theorem H8{t J ty e:TypeId}{i:TypeInfo}{z:Value}(ht:P.underlying t=some (.slice e))(D:P.underlying J=some (.int .i64))(hi:P.info? e=some i)(E:i.zero=some z)(y:z.cells.size=i.size)(hs:0<i.size)
  (b:Addr) (n cap:Nat) (g:List Value) (q:g.length=n*i.size) (V8 : ∀ j u,g[j]? = some u->w.cell? (b.add j)=some u)
  (m:Nat) (h0:0<m) (N:cap<n+m) (r:n+m<=maxLen) (h:(n+m)*i.bytes<=140737488355328) :
  ∃ v' w',(Builtin.append_ #[t,J] ty #[.slice (some b) n cap,.int .i64 (m:Int)]).run P w = .ok v' w'∧w'.ownsRow w.heap.size e i.size v' (n+m) (g++(Builtin.zeroCells z.cells m).toList)∧w.grownBy w' none:=by
 have hsmall:n+m<=9223372036854775807:=by simp only[maxLen]at r;omega
 have M:(Builtin.zeroCells z.cells m).size=m*i.size:=by rw[size_zeroCells,y]
 have l:(g++(Builtin.zeroCells z.cells m).toList).length=(n+m)*i.size:=by rw[List.length_append,q,Array.length_toList,M,Nat.add_mul]
 have F:=grownCap_ge w (n+m) cap e
 have I:grownCap w (n+m) cap e<=maxLen:=grownCap_le_maxLen w (n+m) cap e r
 have hn : ¬ (n+m<=cap):=by omega
 have A : ¬ (9223372036854775807<((n:Int)+(m:Int))):=by omega
 have C : ¬ (281474976710656<Builtin.nextslicecap (n+m) cap*i.bytes):=by have:=growslice_fits N h;omega
 have O:IntKind.i64.wrap (m:Int)=m:=by rw[IntKind.wrap_i64];omega
 have s : ¬ ((m:Int)<0):=by omega
 have B : ¬ (281474976710656<(m:Int)*(i.bytes:Int)):=by
  rw[<- Int.natCast_mul]
  have:m*i.bytes<=(n+m)*i.bytes:=Nat.mul_le_mul_right _ (by omega)
  omega
 have K : ¬ (m*i.size=0):=Nat.mul_ne_zero (by omega) (by omega)
 have H:=run_firstCells_some (P:=P) w.drew i.size n b n cap g q (by simpa using V8)
 have hr:(Builtin.append_ #[t,J] ty #[.slice (some b) n cap,.int .i64 (m:Int)]).run P w = .ok (.slice (some ⟨w.heap.size,0,none⟩) (n+m) (grownCap w (n+m) cap e))
   (w.drew.alloc (.cells (g.toArray++Builtin.zeroCells z.cells m++Builtin.zeroCells z.cells (grownCap w (n+m) cap e - (n+m))) e)):=by
  simp[Builtin.append_,run_underlying ht,run_underlying D,sizeOf,typeInfo,zeroValue,hi,E,asInt,asIntOf,O,s,B,hn,A,C,K,Question.forced,H,newRow,grownCap]
 refine⟨_,_,hr,⟨l,.inr ⟨w.heap.size,_,_,rfl,Nat.le_refl _,heap_alloc_new w.drew _,F,I,?_,?_⟩⟩,⟨rfl,rfl,rfl,by simp,fun k Q _=>heap_alloc_old w.drew _ Q⟩⟩
 ·simp only[Array.size_append,List.size_toArray,size_zeroCells,y,q,<- Nat.add_mul]
  congr 1
  omega
 ·simp only[Array.toList_append,List.append_assoc]
  rw[<- List.append_assoc,<- l]
  exact List.take_left
theorem J9{t l ty e:TypeId}{i:TypeInfo}(ht:P.underlying t=some (.slice e))(g:P.underlying l=some (.int .i64))(hi:P.info? e=some i){b:Option Addr}{n j:Nat}(h:n<=j):
  (Builtin.append_ #[t,l] ty #[.slice b n j,.int .i64 (0:Nat)]).run P w = .ok (.slice b n j) w:=by
 have k:IntKind.i64.wrap (0:Int)=0:=by rw[IntKind.wrap_i64];omega
 cases b with
 | none=>simp[Builtin.append_,run_underlying ht,run_underlying g,sizeOf,typeInfo,hi,asInt,asIntOf,k,h]
 | some q=>simp[Builtin.append_,run_underlying ht,run_underlying g,sizeOf,typeInfo,hi,asInt,asIntOf,k,h,storeCells]
theorem c3e{z:Value}{p:PV}{m sz:Nat}(e:V4 z=some p)(hs:p.cells.length=sz)(b:z.cells.size=sz)(hpos:0<sz):
  XW Φ (Builtin.zeroCells z.cells m).toList (flat (List.replicate m p))∧YM (Builtin.zeroCells z.cells m).toList:=by
 have h:Builtin.zeroCells z.cells m=madeCells z.cells (m*sz):=by
  unfold Builtin.zeroCells madeCells
  rw[b]
 rw[h]
 exact M8 (Φ:=Φ) e (n:=m) hs
theorem c5i{t tn ty e:TypeId}{i:TypeInfo}{z:Value}{p:PV}{u v:Value}{X Y:IOp}(ht:P.underlying t=some (.slice e))(K:P.underlying tn=some (.int .i64))(hi:P.info? e=some i)(Q:i.zero=some z)(hz:V4 z=some p)(hs:p.cells.length=i.size)(y:0<i.size)
  (O:Good c μ Φ σ w) (hu:R μ Φ u (ev env X)) (hv:R μ Φ v (ev env Y)) (hr:(YO L env (.appz e i.size i.bytes p X Y)).run σ=some (x,σ')):VS P (Builtin.append_ #[t,tn] ty #[u,v]) w (Z0 c μ Φ σ' x):=by
 have N:z.cells.size=i.size:=by
  have:=(Us (Ub (Φ:=Φ) hz) (XF hz)).1.1
  simp at this
  omega
 simp only[YO]at hr
 split at hr
 ·rename_i m hY
  rw[hY]at hv
  replace hv:=Yk hv
  cases hv
  have r:=ZZ hr
  clear hr
  obtain⟨H,hr⟩:=r
  simp only[Bool.and_eq_true,decide_eq_true_eq]at H
  obtain⟨hm0,hm1⟩:=H
  obtain⟨k,rfl⟩ : ∃ k:Nat,m=(k:Int):=⟨m.toNat,by omega⟩
  split at hr
  ·rename_i l n0 n hX
   rw[hX]at hu
   rw[Int.toNat_natCast]at hr
   simp only[Kh]at hr
   have r:=Xc hr
   clear hr
   obtain⟨ob,D,hr⟩:=r
   split at hr
   ·rename_i V sz' xs
    split at hr
    ·rename_i hc
     obtain⟨rfl,rfl⟩:=hc
     have r:=ZZ hr
     clear hr
     obtain⟨H,hr⟩:=r
     rw[List.length_replicate]at H hr
     simp only[Bool.and_eq_true,beq_iff_eq,decide_eq_true_eq]at H
     obtain⟨⟨⟨hn,rfl⟩,hb1⟩,hb2⟩:=H
     have r:=UR hr
     clear hr
     obtain⟨_,hr⟩:=r
     obtain⟨rfl,rfl⟩:=Zu hr
     cases hu with
     | row _ _ _ _ B C S q hm h2 h3 h4 ha=>
      have H:=ha (.inr rfl)
      subst H
      obtain⟨B',C',E,k1,k2,k3,k4,k5,k6,k7,k8,k9,k10⟩:=O.obj l _ D
      rw[hn,hm]at k1
      cases k1
      simp only[Nat.sub_zero,Nat.zero_mul]
      by_cases h0:k=0
      ·subst h0
       have M:σ.set l (.obj (.row false V i.size (xs++List.replicate 0 p)))=σ:=by rw[List.replicate_zero,List.append_nil];exact KC D
       refine⟨_,w,J9 ht K hi (by omega),?_⟩
       rw[M]
       refine Zj O ?_
       have:=R.row (μ:=μ) (Φ:=Φ) l n 0 n B C i.size (some ⟨B,0,none⟩) hm (Nat.zero_le _) (Nat.le_refl _) h4 (fun _=>by simp)
       simpa using this
      ·have W:0<k:=by omega
       obtain⟨y2,y3⟩:=c3e (Φ:=Φ) (m:=k) hz hs N y
       have hzl:(Builtin.zeroCells z.cells k).size=k*i.size:=by rw[size_zeroCells,N]
       have I : ∀ x∈xs++List.replicate k p,x.cells.length=i.size:=fun x Z=>by
        rcases List.mem_append.1 Z with Z|Z
        ·exact k7 x Z
        ·rw[List.eq_of_mem_replicate Z];exact hs
       have b:(xs++List.replicate k p).length=n+k:=by simp[hn]
       have J:blk μ l (.row false V i.size xs)=B:=by simp[blk,hn,hm]
       have F:μ l (n+k)=none:=k2 _ (by omega)
       have hb48:k*i.bytes<=281474976710656:=by
        have:k*i.bytes<=(n+k)*i.bytes:=Nat.mul_le_mul_right _ (by omega)
        omega
       by_cases hroom:n+k<=C
       ·have U:n*i.size+(Builtin.zeroCells z.cells k).size<=E.size:=by
         rw[hzl,k4,<- Nat.add_mul]
         exact Nat.mul_le_mul_right _ hroom
        have hrun:=Ht (P:=P) (w:=w) (ty:=ty) ht K hi Q B n C E k3 k (by omega) hb48 y3 y W hroom U
        have s:=Mu.le_add μ l (n+k) (B,C,i.size) (.inl F)
        refine⟨_,_,hrun,μ.add l (n+k) (B,C,i.size),Φ,s,ZM.le.refl _,?_,?_⟩
        ·refine O.put D rfl s (fun l' h m=>Mu.add_ne _ _ _ _ _ _ h) (by simp) (by simp) (by simp) (by simp) (fun b' _ hne=>setRow_other w B b' _ (by rw[J]at hne;exact hne)) ?_ (.inl (by rw[J];simp[blk,b,Mu.add_same]))
         have A:(E.toList.take (n*i.size)).length=n*i.size:=by simp;omega
         have htk:(E.toList.take (n*i.size)++(Builtin.zeroCells z.cells k).toList++E.toList.drop (n*i.size+(Builtin.zeroCells z.cells k).size)).take ((xs++List.replicate k p).length*i.size)=E.toList.take (xs.length*i.size)++(Builtin.zeroCells z.cells k).toList:=by
          rw[b,hn,Nat.add_mul,<- hzl]
          rw[List.take_append_of_le_length (by rw[List.length_append,A,Array.length_toList];exact Nat.le_refl _),List.take_of_length_le (by rw[List.length_append,A,Array.length_toList];exact Nat.le_refl _)]
         refine⟨B,C,_,by rw[b];exact Mu.add_same _ _ _ _,fun m hm'=>by rw[Mu.add_ver _ _ _ _ _ (by omega)];exact k2 m (by omega),k3.put' (by rw[List.length_append,List.length_append,A,List.length_drop];simp only[Array.length_toList];omega),?_,by rw[b];exact hroom,k6,I,?_,?_,by simpa using k10⟩
         ·rw[List.size_toArray,List.length_append,List.length_append,A,List.length_drop]
          simp only[Array.length_toList]
          omega
         ·rw[List.toList_toArray,htk,X9]
          exact k8.append y2
         ·rw[List.toList_toArray,htk]
          exact k9.append y3
        ·have:=R.row (μ:=μ.add l (n+k) (B,C,i.size)) (Φ:=Φ) l (n+k) 0 (n+k) B C i.size (some ⟨B,0,none⟩) (Mu.add_same _ _ _ _) (Nat.zero_le _) (Nat.le_refl _) hroom (fun _=>by simp)
         simpa using this
       ·have hol:(E.toList.take (n*i.size)).length=n*i.size:=by
         have:n*i.size<=E.size:=by rw[k4];exact Nat.mul_le_mul_right _ h4
         simp
         omega
        obtain⟨v',w',r1,r2,r3⟩:=H8 (P:=P) (w:=w) (ty:=ty) ht K hi Q N y ⟨B,0,none⟩ n C (E.toList.take (n*i.size)) hol
         (fun j u' hj=>by
          rw[Xe]
          obtain⟨_,k3,_⟩:=k3
          have:=Y7 k3 0 (n*i.size)
          simp only[List.drop_zero]at this
          exact this j u' hj)
         k W (by omega) (by unfold maxLen;omega) (by omega)
        have T : ∀ k,k<w.heap.size->w'.heap[k]? = w.heap[k]? :=fun k hk=>r3.block k hk (by simp)
        obtain⟨g,cp,cur,rfl,g2,g3,g4,g5,g6,g7⟩:=Qe O r2 T (xs:=xs++List.replicate k p) (by simp[hn]) (by omega)
        have s:=Mu.le_add μ l (n+k) (g,cp,i.size) (.inl F)
        refine⟨_,_,r1,μ.add l (n+k) (g,cp,i.size),Φ,s,ZM.le.refl _,?_,?_⟩
        ·refine O.put D rfl s (fun l' h m=>Mu.add_ne _ _ _ _ _ _ h) r3.os r3.tape r3.output r3.size (fun b' hb' _=>T b' hb') ?_ (.inr (by simp[blk,b,Mu.add_same];exact g2))
         refine⟨g,cp,cur,by rw[b];exact Mu.add_same _ _ _ _,fun m hm'=>by rw[Mu.add_ver _ _ _ _ _ (by omega)];exact k2 m (by omega),.of g3,g6,by rw[b];exact g4,g5,I,?_,?_,by simp[HY O g2]⟩
         ·rw[b,g7,X9]
          have:=k8
          rw[hn]at this
          exact this.append y2
         ·rw[b,g7]
          have:=k9
          rw[hn]at this
          exact this.append y3
        ·have:=R.row (μ:=μ.add l (n+k) (g,cp,i.size)) (Φ:=Φ) l (n+k) 0 (n+k) g cp i.size (some ⟨g,0,none⟩) (Mu.add_same _ _ _ _) (Nat.zero_le _) (Nat.le_refl _) g4 (fun _=>by simp)
         simpa using this
    ·exact(Zh hr).elim
   ·exact(Zh hr).elim
  ·exact(Zh hr).elim
 ·exact(Zh hr).elim
theorem Un(b:ByteArray):(Zt b.data.toList).length=b.size:=by unfold Zt;simp
theorem a1a(s:List UInt8): ∀ x∈Zt s,x.cells.length=1:=by
 intro x b
 unfold Zt at b
 obtain⟨c,_,rfl⟩:=List.mem_map.1 b
 rfl
theorem Nc(s:List UInt8):flat (Zt s)=Zt s:=by
 unfold Zt
 induction s with
 | nil=>rfl
 | cons c s ih=>simp only[flat,List.map_cons,List.flatMap_cons,PV.cells,List.singleton_append]at ih ⊢;rw[ih]
theorem c4y(g:ByteArray):XW Φ (Lib.strCells g) (flat (Zt g.data.toList)):=by
 rw[Nc]
 refine⟨by rw[Lib.strCells_length,Un],fun j v x b e=> ?_⟩
 unfold Lib.strCells at b
 unfold Zt at e
 rw[List.getElem?_map]at b e
 cases hs:g.data.toList[j]? with
 | none=>rw[hs]at b;cases b
 | some c=>
  rw[hs]at b e
  cases b
  cases e
  exact .int _ _
theorem Gf{t s ty e:TypeId}{i:TypeInfo}(ht:P.underlying t=some (.slice e))(g:P.underlying s=some .string)(hi:P.info? e=some i){b:Option Addr}{n r:Nat}{j:ByteArray}(h:n<=r)(k:j.size=0):
  (Builtin.append_ #[t,s] ty #[.slice b n r,.string j]).run P w = .ok (.slice b n r) w:=by
 have l:=Lib.run_firstCells_string (P:=P) w i.size j
 rw[k]at l
 have hc:Lib.strCells j=[]:=List.eq_nil_of_length_eq_zero (by rw[Lib.strCells_length,k])
 rw[hc]at l
 cases b with
 | none=>simp[Builtin.append_,run_underlying ht,run_underlying g,sizeOf,typeInfo,hi,Builtin.lenOf,k,h,l]
 | some q=>simp[Builtin.append_,run_underlying ht,run_underlying g,sizeOf,typeInfo,hi,Builtin.lenOf,k,h,l,storeCells]
theorem Gs{t y ty e:TypeId}{i:TypeInfo}(ht:P.underlying t=some (.slice e))(u:P.underlying y=some .string)(hi:P.info? e=some i)(q:i.size=1)
  (g b h:Nat) (k:Array Value) {B C:Nat} (z:Wm w g k e B C) (j:ByteArray) (r:b+j.size<=h) (l:b*i.size+(Lib.strCells j).length<=k.size) :
  (Builtin.append_ #[t,y] ty #[.slice (some ⟨g,0,none⟩) b h,.string j]).run P w =
   .ok (.slice (some ⟨g,0,none⟩) (b+j.size) h) (w.setRow g (k.toList.take (b*i.size)++Lib.strCells j++k.toList.drop (b*i.size+(Lib.strCells j).length)).toArray):=by
 have A:=Lib.run_firstCells_string (P:=P) w 1 j
 rw[q,Nat.mul_one]at l
 have s:=z.stores (P:=P) (o:=b) (Lib.strCells j) l (Lib.strCells_oneCell j)
 rw[Lib.strCells_length]at s
 rw[q,Nat.mul_one,Lib.strCells_length]
 simp[Builtin.append_,run_underlying ht,run_underlying u,sizeOf,typeInfo,hi,q,Builtin.lenOf,r,A,Addr.add_lit,s]
theorem Gg{t B ty e:TypeId}{i:TypeInfo}{z:Value}(ht:P.underlying t=some (.slice e))(C:P.underlying B=some .string)(hi:P.info? e=some i)(E:i.zero=some z)(A:z.cells.size=i.size)(s:i.size=1)
  (b:Addr) (n cap:Nat) (g:List Value) (r:g.length=n*i.size) (V8 : ∀ j u,g[j]? = some u->w.cell? (b.add j)=some u)
  (h:ByteArray) (H:cap<n+h.size) (y:n+h.size<=maxLen) (l:(n+h.size)*i.bytes<=140737488355328) :
  ∃ v' w',(Builtin.append_ #[t,B] ty #[.slice (some b) n cap,.string h]).run P w = .ok v' w'∧w'.ownsRow w.heap.size e i.size v' (n+h.size) (g++Lib.strCells h)∧w.grownBy w' none:=by
 have hsmall:n+h.size<=9223372036854775807:=by simp only[maxLen]at y;omega
 have q:(g++Lib.strCells h).length=(n+h.size)*i.size:=by rw[List.length_append,r,Lib.strCells_length,s];omega
 have F:=grownCap_ge w (n+h.size) cap e
 have D:grownCap w (n+h.size) cap e<=maxLen:=grownCap_le_maxLen w (n+h.size) cap e y
 have hr:=Lib.run_append_grow_string (P:=P) w t B ty e i z ht C hi E b n cap g r V8 h H (by omega) (growslice_fits H l)
 refine⟨_,_,hr,⟨q,.inr ⟨w.heap.size,_,_,rfl,Nat.le_refl _,heap_alloc_new w.drew _,F,D,?_,?_⟩⟩,⟨rfl,rfl,rfl,by simp,fun k I _=>heap_alloc_old w.drew _ I⟩⟩
 ·simp only[Array.size_append,List.size_toArray,size_zeroCells,A,r,Lib.strCells_length,s,Nat.mul_one]
  omega
 ·simp only[Array.toList_append,List.append_assoc]
  rw[<- List.append_assoc,<- q]
  exact List.take_left
theorem c4v{t tn ty e:TypeId}{i:TypeInfo}{z:Value}{p:PV}{u v:Value}{X Y:IOp}(ht:P.underlying t=some (.slice e))(O:P.underlying tn=some .string)(hi:P.info? e=some i)(hiz:i.zero=some z)(hz:V4 z=some p)(hs:p.cells.length=i.size)(I:i.size=1)
  (U:Good c μ Φ σ w) (hu:R μ Φ u (ev env X)) (hv:R μ Φ v (ev env Y)) (hr:(YO L env (.apps e i.size i.bytes X Y)).run σ=some (x,σ')):VS P (Builtin.append_ #[t,tn] ty #[u,v]) w (Z0 c μ Φ σ' x):=by
 have hzs:z.cells.size=i.size:=by
  have:=(Us (Ub (Φ:=Φ) hz) (XF hz)).1.1
  simp at this
  omega
 simp only[YO]at hr
 split at hr
 ·rename_i s hY
  rw[hY]at hv
  replace hv:=Yk hv
  obtain⟨r,rfl,rfl⟩ : ∃ r:ByteArray,v = .string r∧s=r.data.toList:=by
   generalize T:PV.str s=q at hv
   cases hv <;> cases T
   exact⟨_,rfl,rfl⟩
  split at hr
  ·rename_i l n0 n hX
   rw[hX]at hu
   simp only[Kh]at hr
   have A:=Xc hr
   clear hr
   obtain⟨ob,F,hr⟩:=A
   split at hr
   ·rename_i Z sz' xs
    split at hr
    ·rename_i hc
     obtain⟨rfl,rfl⟩:=hc
     have A:=ZZ hr
     clear hr
     obtain⟨T,hr⟩:=A
     rw[Un]at T hr
     simp only[Bool.and_eq_true,beq_iff_eq,decide_eq_true_eq]at T
     obtain⟨⟨⟨hn,rfl⟩,hb1⟩,hb2⟩:=T
     have A:=UR hr
     clear hr
     obtain⟨_,hr⟩:=A
     obtain⟨rfl,rfl⟩:=Zu hr
     cases hu with
     | row _ _ _ _ B C S q hm h2 h3 h4 ha=>
      have T:=ha (.inr rfl)
      subst T
      obtain⟨B',C',H,k1,k2,k3,k4,k5,k6,k7,k8,k9,k10⟩:=U.obj l _ F
      rw[hn,hm]at k1
      cases k1
      simp only[Nat.sub_zero,Nat.zero_mul]
      obtain⟨k,D⟩ : ∃ k,k=r.size:=⟨_,rfl⟩
      rw[<- D]at hb1 hb2 ⊢
      by_cases h0:k=0
      ·have hb0:Zt r.data.toList=[]:=List.eq_nil_of_length_eq_zero (by rw[Un,<- D,h0])
       rw[h0]
       have Q:σ.set l (.obj (.row false Z i.size (xs++Zt r.data.toList)))=σ:=by rw[hb0,List.append_nil];exact KC F
       refine⟨_,w,Gf ht O hi (by omega) (by omega),?_⟩
       rw[Q]
       refine Zj U ?_
       have:=R.row (μ:=μ) (Φ:=Φ) l n 0 n B C i.size (some ⟨B,0,none⟩) hm (Nat.zero_le _) (Nat.le_refl _) h4 (fun _=>by simp)
       simpa using this
      ·have hk0:0<k:=by omega
       have y2:XW Φ (Lib.strCells r) (flat (Zt r.data.toList)):=c4y r
       have y3:YM (Lib.strCells r):=Lib.strCells_oneCell r
       have hzl:(Lib.strCells r).length=k*i.size:=by rw[Lib.strCells_length,I,Nat.mul_one,D]
       have K : ∀ x∈xs++Zt r.data.toList,x.cells.length=i.size:=fun x hx=>by
        rcases List.mem_append.1 hx with hx|hx
        ·exact k7 x hx
        ·rw[a1a _ x hx,I]
       have b:(xs++Zt r.data.toList).length=n+k:=by rw[List.length_append,Un,hn,D]
       have M:blk μ l (.row false Z i.size xs)=B:=by simp[blk,hn,hm]
       have J:μ l (n+k)=none:=k2 _ (by omega)
       have hb48:k*i.bytes<=281474976710656:=by
        have:k*i.bytes<=(n+k)*i.bytes:=Nat.mul_le_mul_right _ (by omega)
        omega
       by_cases hroom:n+k<=C
       ·have W:n*i.size+(Lib.strCells r).length<=H.size:=by
         rw[hzl,k4,<- Nat.add_mul]
         exact Nat.mul_le_mul_right _ hroom
        have N:=Gs (P:=P) (w:=w) (ty:=ty) ht O hi I B n C H k3 r (by omega) W
        rw[<- D]at N
        have y:=Mu.le_add μ l (n+k) (B,C,i.size) (.inl J)
        refine⟨_,_,N,μ.add l (n+k) (B,C,i.size),Φ,y,ZM.le.refl _,?_,?_⟩
        ·refine U.put F rfl y (fun l' h m=>Mu.add_ne _ _ _ _ _ _ h) (by simp) (by simp) (by simp) (by simp) (fun b' _ hne=>setRow_other w B b' _ (by rw[M]at hne;exact hne)) ?_ (.inl (by rw[M];simp[blk,b,Mu.add_same]))
         have E:(H.toList.take (n*i.size)).length=n*i.size:=by simp;omega
         have htk:(H.toList.take (n*i.size)++Lib.strCells r++H.toList.drop (n*i.size+(Lib.strCells r).length)).take ((xs++Zt r.data.toList).length*i.size)=H.toList.take (xs.length*i.size)++Lib.strCells r:=by
          rw[b,hn,Nat.add_mul,<- hzl]
          rw[List.take_append_of_le_length (by rw[List.length_append,E,Array.length_toList];exact Nat.le_refl _),List.take_of_length_le (by rw[List.length_append,E,Array.length_toList];exact Nat.le_refl _)]
         refine⟨B,C,_,by rw[b];exact Mu.add_same _ _ _ _,fun m hm'=>by rw[Mu.add_ver _ _ _ _ _ (by omega)];exact k2 m (by omega),k3.put' (by rw[List.length_append,List.length_append,E,List.length_drop];simp only[Array.length_toList];omega),?_,by rw[b];exact hroom,k6,K,?_,?_,by simpa using k10⟩
         ·rw[List.size_toArray,List.length_append,List.length_append,E,List.length_drop]
          simp only[Array.length_toList]
          omega
         ·rw[List.toList_toArray,htk,X9]
          exact k8.append y2
         ·rw[List.toList_toArray,htk]
          exact k9.append y3
        ·have:=R.row (μ:=μ.add l (n+k) (B,C,i.size)) (Φ:=Φ) l (n+k) 0 (n+k) B C i.size (some ⟨B,0,none⟩) (Mu.add_same _ _ _ _) (Nat.zero_le _) (Nat.le_refl _) hroom (fun _=>by simp)
         simpa using this
       ·have hol:(H.toList.take (n*i.size)).length=n*i.size:=by
         have:n*i.size<=H.size:=by rw[k4];exact Nat.mul_le_mul_right _ h4
         simp
         omega
        obtain⟨v',w',r1,r2,r3⟩:=Gg (P:=P) (w:=w) (ty:=ty) ht O hi hiz hzs I ⟨B,0,none⟩ n C (H.toList.take (n*i.size)) hol
         (fun j u' hj=>by
          rw[Xe]
          obtain⟨_,k3,_⟩:=k3
          have:=Y7 k3 0 (n*i.size)
          simp only[List.drop_zero]at this
          exact this j u' hj)
         r (by omega) (by unfold maxLen;omega) (by rw[<- D];omega)
        rw[<- D]at r2
        have V : ∀ k,k<w.heap.size->w'.heap[k]? = w.heap[k]? :=fun k D=>r3.block k D (by simp)
        obtain⟨g,cp,cur,rfl,g2,g3,g4,g5,g6,g7⟩:=Qe U r2 V (xs:=xs++Zt r.data.toList) (by rw[List.length_append,Un,hn,D]) (by omega)
        have y:=Mu.le_add μ l (n+k) (g,cp,i.size) (.inl J)
        refine⟨_,_,r1,μ.add l (n+k) (g,cp,i.size),Φ,y,ZM.le.refl _,?_,?_⟩
        ·refine U.put F rfl y (fun l' h m=>Mu.add_ne _ _ _ _ _ _ h) r3.os r3.tape r3.output r3.size (fun b' hb' _=>V b' hb') ?_ (.inr (by simp[blk,b,Mu.add_same];exact g2))
         refine⟨g,cp,cur,by rw[b];exact Mu.add_same _ _ _ _,fun m hm'=>by rw[Mu.add_ver _ _ _ _ _ (by omega)];exact k2 m (by omega),.of g3,g6,by rw[b];exact g4,g5,K,?_,?_,by simp[HY U g2]⟩
         ·rw[b,g7,X9]
          have:=k8
          rw[hn]at this
          exact this.append y2
         ·rw[b,g7]
          have:=k9
          rw[hn]at this
          exact this.append y3
        ·have:=R.row (μ:=μ.add l (n+k) (g,cp,i.size)) (Φ:=Φ) l (n+k) 0 (n+k) g cp i.size (some ⟨g,0,none⟩) (Mu.add_same _ _ _ _) (Nat.zero_le _) (Nat.le_refl _) g4 (fun _=>by simp)
         simpa using this
    ·exact(Zh hr).elim
   ·exact(Zh hr).elim
  ·exact(Zh hr).elim
 ·exact(Zh hr).elim
end
end
section
section
variable {P:Program} {c:Ctx} {μ:Mu} {Φ:ZM} {σ σ':Zw} {w:World} {a:Act} {env:List AV} {L:Nat} {x:AV}
theorem Good.below{Φ':ZM}{w':World}(h:Good c μ Φ σ w)(hb:Below w.heap.size w w')(j:Φ.le Φ')(r:WH Φ' w')(e : ∀ b cs,Φ' b=some cs->Φ b=some cs∨w.heap.size<=b):Good c μ Φ' σ w':=by
 refine⟨r,?_,h.apart,h.fresh,h.own,hb.os.trans h.os,hb.tape.trans h.tape,hb.output.trans h.output,Nat.le_trans h.size hb.size,?_,h.Φle.trans j,h.μle,?_,h.laid⟩
 ·intro l o ho
  have g:=h.obj l o ho
  refine(g.keep (Mu.le.refl _) (fun _=>rfl) j ?_ (hb.block _ g.blk_lt)).1
  cases k:Φ' (blk μ l o)with
  | none=>
   cases s:Φ (blk μ l o)with
   | none=>rfl
   | some cs=>rw[j _ _ s]at k;cases k
  | some cs=>
   rcases e _ _ k with hd|hd
   ·exact hd.symm
   ·have:=g.blk_lt
    omega
 ·intro b h1 h2
  rw[hb.block b (Nat.lt_of_lt_of_le h1 h.size)]
  exact h.frame b h1 h2
 ·intro b cs q
  rcases e b cs q with hd|hd
  ·exact h.dom b cs hd
  ·exact .inr (.inl (Nat.le_trans h.size hd))
theorem Cb(s:List UInt8):flat (Zt s)=Zt s:=by
 unfold Zt
 induction s with
 | nil=>rfl
 | cons c s ih=>simp only[flat,List.map_cons,List.flatMap_cons,PV.cells,List.singleton_append]at ih ⊢;rw[ih]
theorem Pj(w:World)(a:Addr)(b:Nat)(h:b≠a.block):(w.freeze a 1).heap[b]? = w.heap[b]? :=by
 unfold World.freeze
 rw[if_neg (by decide)]
 show(w.heap.modify a.block _)[b]? = _
 rw[Array.getElem?_modify,if_neg (Ne.symm h)]
theorem Fa{w:World}{B:Nat}{cs:Array Value}{ty:Nat}{z:Nat×Nat}(h:w.heap[B]? = some (.cells cs ty z))(b:z=(0,0)∨cs.size<=z.1): ∃ j:Nat×Nat,(w.freeze ⟨B,cs.size,none⟩ 1).heap[B]? = some (.cells cs ty j)∧cs.size<=j.1:=by
 obtain⟨lo,hi⟩:=z
 unfold World.freeze
 rw[if_neg (by decide)]
 refine⟨if lo==hi then(cs.size,cs.size+1)else(min lo cs.size,max hi (cs.size+1)),?_,?_⟩
 ·show(w.heap.modify B _)[B]? = _
  rw[Array.getElem?_modify,if_pos rfl,h]
  rfl
 ·split
  ·exact Nat.le_refl _
  ·rename_i g
   rcases b with e|b
   ·cases e;simp at g
   ·have b:cs.size<=lo:=b
    show cs.size<=min lo cs.size
    omega
theorem b0n{t e:TypeId}{v:Value}{X:IOp}(hd:P.underlying t=some (.slice e))(Q:P.underlying e=some (.int .u8))(H:Good c μ Φ σ w)(I:R μ Φ v (ev env X))
  (hr:(YO L env (.sslice X)).run σ=some (x,σ')):VS P (convert t t v) w (Z0 c μ Φ σ' x):=by
 simp only[YO]at hr
 split at hr
 ·rename_i l n hi J
  rw[J]at I
  have r:=Xc hr
  clear hr
  obtain⟨ob,k,hr⟩:=r
  split at hr
  ·rename_i ty sz xs
   have r:=ZZ hr
   clear hr
   obtain⟨D,hr⟩:=r
   simp only[Bool.and_eq_true,beq_iff_eq]at D
   obtain⟨hn,rfl⟩:=D
   obtain⟨rfl,rfl⟩:=Zu hr
   cases I with
   | row _ _ _ _ B C S q hm h2 h3 h4 ha=>
    have D:=ha (.inr rfl)
    subst D
    obtain⟨B',C',A,k1,T,k3,k4,N,V,K,Y,Z,E⟩:=H.obj l _ k
    rw[hn,hm]at k1
    cases k1
    obtain⟨z,k3,O⟩:=k3
    obtain⟨W,M,U⟩:=Fa k3 (O.imp id fun h=>h.2)
    have F:w.shape? B=some (5,A.size):=by simp[World.shape?,k3]
    simp only[Nat.sub_zero,Nat.zero_mul]
    have u:(convert t t (.slice (some ⟨B,0,none⟩) hi C)).run P w = .ok (.slice (some ⟨B,0,none⟩) hi C) (w.freeze ⟨B,A.size,none⟩ 1):=by
     simp[convert,run_underlying hd,run_underlying Q,markStringish,F]
    have y:blk μ l (.row false 5 sz xs)=B:=by simp[blk,hn,hm]
    have j:=KC k
    refine⟨_,_,u,μ,Φ,.refl _,.refl _,?_,?_⟩
    ·have g:=H.put (l:=l) (o:=.row false 5 sz xs) (o':=.row false 5 sz xs) (w':=w.freeze ⟨B,A.size,none⟩ 1) k rfl (.refl _) (fun _ _ _=>rfl) rfl rfl rfl (by simp[World.freeze]) (fun b _ s=>Pj w _ b (by rw[y]at s;exact s)) ?_ (.inl rfl)
     ·rw[j]at g;exact g
     ·exact⟨B,C,A,by rw[hn];exact hm,T,⟨W,M,.inr ⟨rfl,U⟩⟩,k4,N,V,K,Y,Z,E⟩
    ·have:=R.row (μ:=μ) (Φ:=Φ) l n 0 hi B C _ (some ⟨B,0,none⟩) hm (Nat.zero_le _) h3 h4 (fun _=>by simp)
     simpa using this
  ·exact(Zh hr).elim
 ·exact(Zh hr).elim
theorem a8d{A dst e:TypeId}{v:Value}{X:IOp}(hs:(P.underlying A).isSome=true)(hd:P.underlying dst=some (.slice e))(O:P.underlying e=some (.int .u8))(H:Good c μ Φ σ w)(D:R μ Φ v (ev env X))
  (hr:(YO L env (.sbytes X)).run σ=some (x,σ')):VS P (convert A dst v) w (Z0 c μ Φ σ' x):=by
 simp only[YO]at hr
 split at hr
 ·rename_i s N
  rw[N]at D
  obtain⟨rfl,rfl⟩:=Zu hr
  replace D:=Yk D
  obtain⟨u,hu⟩:=Option.isSome_iff_exists.1 hs
  generalize K:PV.str s=q at D
  cases D with
  | str b=>
   cases K
   have E:=Lib.run_convert_string_bytes w A dst e b hu hd O
   have z:Φ w.heap.size=none:=by
    cases Q:Φ w.heap.size with
    | none=>rfl
    | some cs=>
     obtain⟨T,fz,F⟩:=H.phi _ _ Q
     have:=(Array.getElem?_eq_some_iff.1 F).1
     omega
   have C:Φ.le (fun k=>if k=w.heap.size then some (Lib.bytesCells w e b)else Φ k):=by
    intro k cs g
    have:k≠w.heap.size:=by rintro rfl;rw[z]at g;cases g
    simp[this,g]
   have I:Below w.heap.size w (Lib.bytesWorld w e b):=⟨by simp[Lib.bytesWorld,World.freeze,World.alloc,World.drew,-World.alloc_eq,-World.drew_eq],by simp[Lib.bytesWorld,World.freeze,World.alloc,World.drew,-World.alloc_eq,-World.drew_eq],by simp[Lib.bytesWorld,World.freeze,World.alloc,World.drew,-World.alloc_eq,-World.drew_eq],by rw[Lib.bytesWorld_size];omega,fun k g=>Lib.bytesWorld_at_old w e b k g⟩
   refine⟨_,_,E,μ,_,.refl _,C,H.below I C ?_ ?_,.pv _ _ ?_⟩
   ·intro k cs g
    by_cases h:k=w.heap.size
    ·subst h
     simp at g
     subst g
     exact⟨_,_,Lib.bytesWorld_at_new w e b⟩
    ·simp[h]at g
     obtain⟨T,fz,F⟩:=H.phi k cs g
     exact⟨T,fz,by rw[Lib.bytesWorld_at_old w e b k (Array.getElem?_eq_some_iff.1 F).1];exact F⟩
   ·intro k cs g
    by_cases h:k=w.heap.size
    ·exact .inr (by omega)
    ·simp[h]at g
     exact .inl g
   ·have l:(Zt b.data.toList).length=b.size:=by simp[Zt]
    rw[<- l]
    refine .sl w.heap.size 0 (Lib.bytesCells w e b) _ 1 false _ (fun j=>.int .u8 ((b.data.toList.getD j 0).toNat:Int)) (by simp) (by rw[l];exact grownCap_ge w _ _ _) (fun h=>by cases h) ?_ ?_ ?_
    ·intro y M
     simp only[Zt,List.mem_map]at M
     obtain⟨c,_,rfl⟩:=M
     rfl
    ·intro j p B
     rw[Cb]at B
     have J:j<b.size:=by have:=(List.getElem?_eq_some_iff.1 B).1;rw[l]at this;exact this
     refine⟨?_,rfl⟩
     rw[Nat.zero_add,Lib.bytesCells,Array.getElem?_append_left (by simpa using J)]
     have r:j<b.data.size:=J
     simp[List.getD,r]
     exact⟨_,Array.getElem?_eq_getElem r,by rw[Array.getElem?_eq_getElem r];rfl⟩
    ·intro j p B
     rw[Cb]at B
     simp only[Zt,List.getElem?_map,Option.map_eq_some_iff]at B
     obtain⟨c,hc,rfl⟩:=B
     have:b.data.toList.getD j 0=c:=by rw[List.getD,hc];rfl
     rw[this]
     exact .int _ _
  | _=>cases K
 ·exact(Zh hr).elim
theorem F5: ∀ {g:List Value} {xs:List PV},xs.all a6o=true->XW Φ g (flat xs)->g=(Vw xs).map fun b=>.int .u8 (b.toNat:Int):=by
 intro g xs
 induction xs generalizing g with
 | nil=>intro _ h;have:=h.1;simp[flat]at this;subst this;rfl
 | cons y xs ih=>
  intro ha h
  simp only[List.all_cons,Bool.and_eq_true]at ha
  obtain⟨h1,h2⟩:=ha
  cases y with
  | int k n=>
   cases k <;> simp[a6o]at h1
   have r:flat (.int .u8 n::xs) = .int .u8 n::flat xs:=rfl
   rw[r]at h
   cases g with
   | nil=>have:=h.1;simp at this
   | cons u g=>
    have q:=h.2 0 u _ rfl rfl
    have ht:XW Φ g (flat xs):=⟨by have:=h.1;simpa using this,fun j v x s l=>h.2 (j+1) v x s l⟩
    rw[ih h2 ht]
    cases q
    have e:((UInt8.ofNat n.toNat).toNat:Int)=n:=by rw[UInt8.toNat_ofNat'];omega
    show Value.int .u8 n::List.map (fun b=>Value.int IntKind.u8 ↑b.toNat) (Vw xs)=Value.int .u8 ((UInt8.ofNat n.toNat).toNat:Int)::List.map (fun b=>Value.int IntKind.u8 ↑b.toNat) (Vw xs)
    congr 1
    exact congrArg (Value.int .u8) e.symm
  | _=>simp[a6o]at h1
theorem c8b{g dst e:TypeId}{v:Value}{X:IOp}(hs:P.underlying g=some (.slice e))(hd:P.underlying dst=some .string)(K:P.underlying e=some (.int .u8))(s:Good c μ Φ σ w)(h:R μ Φ v (ev env X))
  (hr:(YO L env (.bstr X)).run σ=some (x,σ')):VS P (convert g dst v) w (Z0 c μ Φ σ' x):=by
 have back : ∀ (l:List UInt8) (b off cap n:Nat),n=l.length->Vt w b off (l.map fun b=>.int .u8 (b.toNat:Int))->VS P (convert g dst (.slice (some ⟨b,off,none⟩) n cap)) w (Z0 c μ Φ σ (.pv (.str l))):=by
  rintro l b off cap _ rfl hc
  refine⟨_,w,run_convert_bytes_back w g dst e ⟨b,off,none⟩ cap l hs K hd fun j E=> ?_,Zj s (.pv _ _ (RP.str' rfl))⟩
  have:=hc j (.int .u8 (l[j].toNat:Int)) (by simp[E])
  rw[<- Xe]at this
  exact this
 have nil : ∀ (p:Option Addr) (cap:Nat),VS P (convert g dst (.slice p 0 cap)) w (Z0 c μ Φ σ (.pv (.str []))):=by
  intro p cap
  cases p with
  | none=>exact⟨_,w,by rw[run_convert_bytes_string w g dst e none 0 cap hs K hd];rfl,Zj s (.pv _ _ (RP.str' rfl))⟩
  | some q=>exact⟨_,w,run_convert_bytes_back w g dst e q cap [] hs K hd fun j E=>by simp at E,Zj s (.pv _ _ (RP.str' rfl))⟩
 simp only[YO]at hr
 split at hr
 ·rename_i sz t xs F
  rw[F]at h
  obtain⟨k,hr⟩:=ZZ hr
  obtain⟨rfl,rfl⟩:=Zu hr
  replace h:=Yk h
  simp only[Bool.and_eq_true]at k
  by_cases h0:xs=[]
  ·subst h0
   generalize D:PV.sl sz t []=z at h
   cases h <;> cases D
   ·exact nil _ _
   ·exact nil _ _
  ·obtain⟨b,off,cap,cs,M,rfl,_,_,_,h5,N,V,_⟩:=h.sl_cells s.phi h0
   rw[F5 k.1 V]at N
   exact back _ _ _ _ _ (by simp[Vw]) N
 ·rename_i l n lo hi F
  rw[F]at h
  obtain⟨ob,J,hr⟩:=Xc hr
  split at hr
  ·rename_i fz ty sz xs
   obtain⟨k,hr⟩:=ZZ hr
   obtain⟨rfl,rfl⟩:=Zu hr
   simp only[Bool.and_eq_true,beq_iff_eq]at k
   obtain⟨⟨hn,r⟩,rfl⟩:=k
   generalize D:AV.row l n lo hi=z at h
   cases h with
   | row _ _ _ _ B C S q' hm k2 k3 k4 ha=>
    cases D
    obtain⟨rfl,M,I,m2,m3,m4,O,U,m7⟩:=Qi s J hn hm
    by_cases hlh:lo<hi
    ·have k:=ha (.inl hlh)
     subst k
     have A:hi - lo=(Vw ((xs.take hi).drop lo)).length:=by simp[Vw];omega
     refine back _ _ _ _ _ A ?_
     have u:((xs.take hi).drop lo).all a6o=true:=by
      rw[List.all_eq_true]at r ⊢
      intro y W
      exact r y (List.mem_of_mem_take (List.mem_of_mem_drop W))
     have H:=(U.drop (lo*1)).take ((hi - lo)*1)
     rw[Qc O,KU (fun x T=>O x (List.mem_of_mem_drop T))]at H
     have Q:(xs.take hi).drop lo=(xs.drop lo).take (hi - lo):=by rw[List.drop_take]
     rw[<- Q]at H
     rw[<- F5 u H]
     obtain⟨_,I,_⟩:=I
     have:=Y7 I (lo*1) ((hi - lo)*1)
     have e:((M.toList.take (xs.length*1)).drop (lo*1)).take ((hi - lo)*1)=(M.toList.drop (lo*1)).take ((hi - lo)*1):=by
      rw[List.drop_take,List.take_take,Nat.min_eq_left]
      omega
     rw[e]
     exact this
    ·have:hi=lo:=by omega
     subst this
     rw[Nat.sub_self]
     have Y:Vw ((xs.take hi).drop hi)=[]:=by simp[Vw]
     rw[Y]
     exact nil _ _
   | _=>cases D
  ·exact(Zh hr).elim
 ·exact(Zh hr).elim
theorem a7b{t e:TypeId}{n:Nat}{i:TypeInfo}{u v:Value}{X Y:IOp}(ht:P.underlying t=some (.array n e))(hi:P.info? e=some i)(y:Good c μ Φ σ w)(hu:R μ Φ u (ev env X))(b:R μ Φ v (ev env Y))
  (hr:(YO L env (.iaddrA n i.size X Y)).run σ=some (x,σ')):VS P (Instr.indexAt t u v) w (Z0 c μ Φ σ' x):=by
 simp only[YO]at hr
 split at hr
 ·rename_i l o k j r z
  rw[r]at hu
  rw[z]at b
  obtain⟨h,hr⟩:=ZZ hr
  obtain⟨rfl,rfl⟩:=Zu hr
  simp only[Bool.and_eq_true,decide_eq_true_eq]at h
  obtain⟨s,h1⟩:=h
  replace b:=Yk b
  cases b
  have g : ∀ q,(Instr.indexAt t (.pointer (some q)) (.int k j)).run P w = .ok (.pointer (some (q.add (j.toNat*i.size)))) w:=by
   intro q
   have h2:j<(n:Int):=by omega
   simp[Instr.indexAt,run_underlying ht,Instr.sureAddr,asIntOf,Z6 hi,s,h2]
  cases hu with
  | ptr _ _ B C S hm=>exact⟨_,w,g _,Zj y (by rw[Xe];exact .ptr _ _ B C S hm)⟩
 ·exact(Zh hr).elim
theorem a7e{t e:TypeId}{n:Nat}{i:TypeInfo}{u v:Value}{X Y:IOp}(ht:P.underlying t=some (.array n e))(hi:P.info? e=some i)(q:(P.underlying e).isSome=true)(b:Xn P e=decide (2<=i.size))(C:Good c μ Φ σ w)(hu:R μ Φ u (ev env X))(g:R μ Φ v (ev env Y))
  (hr:(YO L env (.indexA n i.size X Y)).run σ=some (x,σ')):VS P (Instr.index t u v) w (Z0 c μ Φ σ' x):=by
 simp only[YO]at hr
 split at hr
 ·rename_i ps k j D E
  rw[D]at hu
  rw[E]at g
  split at hr
  ·rename_i h2
   rw[h2]at b
   obtain⟨l,hr⟩:=ZZ hr
   obtain⟨B,rfl⟩:=Vj hr
   simp only[Bool.and_eq_true,decide_eq_true_eq]at l
   obtain⟨z,s⟩:=l
   replace hu:=Yk hu
   replace g:=Yk g
   cases g
   have hc:=Us hu rfl
   cases hu with
   | agg cs _ hn ho h=>
    rw[<- b]at B
    obtain⟨v,h1,h2⟩:=Nb (P:=P) (w:=w) (μ:=μ) (cs:=cs) q hi hc.1.toRL hc.2 B
    refine⟨v,w,?_,Zj C h2⟩
    have y:(Go.sizeOf e).run P w = .ok i.size w:=by simp[Go.sizeOf,typeInfo,hi]
    simp only[Instr.index,asIntOf,Sem.run_bind,Sem.run_pure,Result.andThen_ok,run_underlying ht]
    rw[if_pos ⟨z,by omega⟩]
    simp only[Sem.run_bind,y,Result.andThen_ok]
    exact h1
  rename_i r
  rw[r]at b
  obtain⟨l,hr⟩:=ZZ hr
  obtain⟨rfl,rfl⟩:=Zu hr
  simp only[Bool.and_eq_true,decide_eq_true_eq,beq_iff_eq]at l
  obtain⟨⟨⟨z,h1⟩,s⟩,h2⟩:=l
  replace hu:=Yk hu
  replace g:=Yk g
  cases g
  cases hu with
  | agg cs _ hsz ho h=>
   have A:j.toNat<cs.size:=by omega
   refine⟨cs[j.toNat],w,?_,Zj C (.pv _ _ ?_)⟩
   ·have y:(Go.sizeOf e).run P w = .ok i.size w:=by simp[Go.sizeOf,typeInfo,hi]
    simp only[Instr.index,asIntOf,Sem.run_bind,Sem.run_pure,Result.andThen_ok,run_underlying ht]
    rw[if_pos ⟨z,by omega⟩]
    simp only[Sem.run_bind,y,Result.andThen_ok,h2,Nat.mul_one]
    exact UC q b (Array.getElem?_eq_getElem A)
   ·exact h j.toNat _ _ (Array.getElem?_eq_getElem A) (by simp[List.getD,h1])
 ·exact(Zh hr).elim
end
end
section
def LC(xs:Array Operand):Option (List IOp):=Y0 Z5 xs.toList
def Gh(x:Option Operand):Option (Option IOp):=
 match x with
 | none=>some none
 | some x=>(Z5 x).map some
def u8T(P:Program)(e:TypeId):Bool:=match P.underlying e with|some (.int .u8)=>true|_=>false
theorem Oi{P:Program}{e:TypeId}(h:u8T P e=true):P.underlying e=some (.int .u8):=by
 unfold u8T at h
 split at h
 ·assumption
 ·cases h
def d0m(P:Program)(k:TypeId):Option Bool:=
 match P.underlying k with
 | some .string=>some true
 | some (.int _)=>some false
 | _=>none
def places(P:Program)(b:Array Field):Option (List (Nat×Nat)):=Y0 (fun(f:Field)=>(P.info? f.type).map fun i=>(f.offset,i.size)) b.toList
def d4f(P:Program)(t:TypeId):Sh:=
 match P.underlying t with
 | some (.int k)=>.int k
 | some .string=>.str
 | some .bool=>.bool
 | some (.slice e)=>match P.info? e with|some i=>.sl i.size|none=>.any
 | _=>.any
def d2c(P:Program)(t:TypeId):List Sh:=
 match Xn P t with
 | true=>match P.cellTypes P.depth t with|some ts=>ts.map (d4f P)|none=>[]
 | false=>[d4f P t]
def Gw(P:Program)(c:Call):Option POp:=
 match c.callee with
 | .value f=>(Z5 f).bind fun f=>(LC c.args).map fun xs=>.call f xs
 | .builtin .len=>
  match c.args.toList,c.argTypes.toList with
  | [x],[t]=>(Z5 x).bind fun x=>(DY P t).map fun k=>.len k x
  | _,_=>none
 | .builtin .max=>
  match c.args.toList with
  | [x,y]=>(Z5 x).bind fun x=>(Z5 y).map fun y=>.mm true x y
  | _=>none
 | .builtin .min=>
  match c.args.toList with
  | [x,y]=>(Z5 x).bind fun x=>(Z5 y).map fun y=>.mm false x y
  | _=>none
 | .builtin .append=>
  match c.args.toList,c.argTypes.toList with
  | [x,y],[t,t']=>
   if t=t' then
    match P.underlying t with
    | some (.slice e)=>(P.info? e).bind fun i=>i.zero.bind fun z=>(V4 z).bind fun p=>(Z5 x).bind fun x=>(Z5 y).bind fun y=>
     if p.cells.length=i.size∧0<i.size then some (.append e i.size i.bytes x y)else none
    | _=>none
   else match P.underlying t,P.underlying t' with
    | some (.slice e),some (.int .i64)=>(P.info? e).bind fun i=>i.zero.bind fun z=>(V4 z).bind fun p=>(Z5 x).bind fun x=>(Z5 y).bind fun y=>
     if p.cells.length=i.size∧0<i.size then some (.appz e i.size i.bytes p x y)else none
    | some (.slice e),some .string=>(P.info? e).bind fun i=>i.zero.bind fun z=>(V4 z).bind fun p=>(Z5 x).bind fun x=>(Z5 y).bind fun y=>
     if p.cells.length=i.size∧i.size=1 then some (.apps e i.size i.bytes x y)else none
    | _,_=>none
  | _,_=>none
 | _=>none
def U8(P:Program)(o:Op):Option POp:=
 match o with
 | .move x | .assign x=>(Z5 x).map .mv
 | .pick c a b=>(Z5 c).bind fun c=>(Z5 a).bind fun a=>(Z5 b).map fun b=>.pick c a b
 | .box t x=>(P.info? t).bind fun i=>(Z5 x).map fun x=>.box i.size x
 | .alloc t=>(P.info? t).bind fun i=>i.zero.bind fun z=>(V4 z).map .alloc
 | .build t ps=>
  (P.info? t).bind fun i=>i.zero.bind fun z=>(V4 z).bind fun p=>
   match P.underlying t with
   | some (.struct fs)=>(places P fs).bind fun h=>(Y0 (fun(q:Nat×Operand)=>(h[q.1]?).bind fun(o,n)=>(Z5 q.2).map fun x=>(o,n,x)) ps.toList).map fun qs=>.build p.cells qs
   | some (.array _ e)=>(P.info? e).bind fun g=>(Y0 (fun(q:Nat×Operand)=>(Z5 q.2).map fun x=>(q.1*g.size,g.size,x)) ps.toList).map fun qs=>.build p.cells qs
   | _=>none
 | .buildSlice t n ps=>
  match P.underlying t with
  | some (.slice e)=>(P.info? e).bind fun i=>i.zero.bind fun z=>(V4 z).bind fun p=>
   if n*i.size<=1048576∧n<=1048576 then(Y0 (fun(q:Nat×Operand)=>(Z5 q.2).map fun x=>(q.1,x)) ps.toList).map fun qs=>.bslice e i.size n p qs else none
  | _=>none
 | .load t x=>if (P.underlying t).isSome then(P.info? t).bind fun i=>if (d2c P t).length=i.size then(Z5 x).map fun x=>.load (Xn P t) (d2c P t) x else none else none
 | .store t x v=>(P.info? t).bind fun i=>(Z5 x).bind fun x=>(Z5 v).map fun v=>.store i.size x v
 | .nilCheck x=>(Z5 x).map .nilchk
 | .binOp op t x y _=>(MG P op t y).bind fun kd=>(Z5 x).bind fun x=>(Z5 y).map fun y=>.bin kd op x y
 | .unOp op _ x=>(Z5 x).map (.un op)
 | .convert src dst x=>
  if (P.underlying src).isSome then
   match P.underlying dst with
   | some (.int k)=>(Z5 x).map (.conv k)
   | some .string=>match P.underlying src with
    | some (.slice e)=>if u8T P e=true then(Z5 x).map .bstr else none
    | _=>(Z5 x).map .strid
   | some (.slice e)=>if u8T P e=true then(if src=dst then(Z5 x).map .sslice else(Z5 x).map .sbytes)else none
   | _=>none
  else none
 | .makeFunc (.func f) xs ys=>(LC xs).bind fun xs=>(LC ys).map fun ys=>.mkfn f xs ys
 | .makeMap _ none=>some .mkmap
 | .makeSlice t l c=>
  match P.underlying t with
  | some (.slice e)=>(P.info? e).bind fun i=>i.zero.bind fun z=>(V4 z).bind fun p=>(Z5 l).bind fun l=>(Z5 c).bind fun c=>if p.cells.length=i.size then some (.mksl e i.size i.bytes p l c)else none
  | _=>none
 | .slice t x lo hi mx=>
  match P.underlying t with
  | some .string=>if mx.isNone then(Z5 x).bind fun x=>(Gh lo).bind fun lo=>(Gh hi).map fun hi=>.strslc x lo hi else none
  | some (.slice e)=>(P.info? e).bind fun i=>(Z5 x).bind fun x=>(Gh lo).bind fun lo=>(Gh hi).bind fun hi=>(Gh mx).map fun mx=>.slc i.size x lo hi mx
  | _=>none
 | .fieldAddr s x n=>
  match P.underlying s with
  | some (.struct fs)=>(fs[n]?).bind fun f=>(P.info? f.type).bind fun i=>if (i.size==0)=false then(Z5 x).map (.faddr f.offset)else none
  | _=>none
 | .field s x n=>
  match P.underlying s with
  | some (.struct fs)=>(fs[n]?).bind fun f=>(P.info? f.type).bind fun i=>if (P.underlying f.type).isSome then(Z5 x).map (.field (Xn P f.type) f.offset i.size)else none
  | _=>none
 | .indexAddr t x i=>
  match P.underlying t with
  | some (.slice e)=>(P.info? e).bind fun g=>(Z5 x).bind fun x=>(Z5 i).map fun i=>.iaddr g.size x i
  | some (.array n e)=>match i with
   | .const (.int _ z)=>(P.info? e).bind fun g=>if 0<=z∧z<n then(Z5 x).map (.faddr (z.toNat*g.size))else none
   | i=>(P.info? e).bind fun g=>(Z5 x).bind fun x=>(Z5 i).map fun i=>.iaddrA n g.size x i
  | _=>none
 | .index t x i=>
  match P.underlying t with
  | some .string=>(Z5 x).bind fun x=>(Z5 i).map fun i=>.index x i
  | some (.array n e)=>(P.info? e).bind fun g=>if (P.underlying e).isSome=true∧Xn P e=decide (2<=g.size)then(Z5 x).bind fun x=>(Z5 i).map fun i=>.indexA n g.size x i else none
  | _=>none
 | .lookup t m k ok=>
  match P.underlying t with
  | some (.map kt et)=>(d0m P kt).bind fun st=>(P.info? et).bind fun i=>i.zero.bind fun z=>(V4 z).bind fun p=>(Z5 m).bind fun m=>(Z5 k).map fun k=>.lookup st (d4f P et) p ok m k
  | _=>none
 | .mapUpdate t m k v=>
  match P.underlying t with
  | some (.map kt _)=>(d0m P kt).bind fun st=>(Z5 m).bind fun m=>(Z5 k).bind fun k=>(Z5 v).map fun v=>.mapupd st m k v
  | _=>none
 | .extract x i=>(Z5 x).map (.extract · i)
 | .call c=>Gw P c
 | _=>none
theorem a3p{P:Program}{k:TypeId}{st:Bool}(h:d0m P k=some st): ∃ d,P.underlying k=some d∧Qt d st:=by
 unfold d0m at h
 split at h
 ·cases h;exact⟨_,‹_›,by simp[Qt]⟩
 ·cases h;exact⟨_,‹_›,by simp[Qt]⟩
 ·cases h
def POp.isCall:POp->Bool
 | .call _ _=>true
 | _=>false
section
variable {P:Program} {c:Ctx} {μ:Mu} {Φ:ZM} {σ σ':Zw} {w:World} {a:Act} {env:List AV} {L:Nat} {x:AV}
theorem DL{s:Sem Unit}(h : ∃ w',s.run P w = .ok () w'∧Z0 c μ Φ σ' x Go.undef w'):WI P (do s;pure .skip) w (Z0 c μ Φ σ' x):=by
 obtain⟨w',h1,h2⟩:=h
 simp[WI,h1,h2]
theorem Sa{xs:Array Operand}{ys:List IOp}(b:YI μ Φ a.tmps env)(h:LC xs=some ys):RL μ Φ (xs.map a.eval).toList (ys.map (ev env)):=by
 rw[Array.toList_map]
 exact d4g h (fun o p ho=>ZK b ho)
theorem Bv{o:Option Operand}{o':Option IOp}(b:YI μ Φ a.tmps env)(h:Gh o=some o')(d n:Nat)(hn:Sm env d o'=some (true,n)):BR d (o.map a.eval) n:=by
 refine d6a b (o:=o) (o':=o') ?_ hn
 cases o <;> exact h
theorem b7y{cl:Call}{p:POp}(g:Gw P cl=some p)(hc:p.isCall=false)(N:Good c μ Φ σ w)(K:YI μ Φ a.tmps env)(hr:(YO L env p).run σ=some (x,σ'))(ty:TypeId):
  WI P (do let d <- resolve a.eval cl ty;invoke d.target d.args) w (Z0 c μ Φ σ' x):=by
 obtain⟨callee,args,argTypes⟩:=cl
 unfold Gw at g
 simp only at g
 split at g
 ·simp only[Option.bind_eq_some_iff,Option.map_eq_some_iff]at g
  obtain⟨f,hf,xs,hxs,rfl⟩:=g
  simp[POp.isCall]at hc
 ·split at g
  ·rename_i y t h1 h2
   simp only[Option.bind_eq_some_iff,Option.map_eq_some_iff]at g
   obtain⟨V,j,k,hk,rfl⟩:=g
   have M:args = #[y]:=by simpa using congrArg List.toArray h1
   have O:argTypes = #[t]:=by simpa using congrArg List.toArray h2
   subst M O
   obtain⟨v,w',E,H⟩:=d5r (ty:=ty) hk N (ZK K j) hr
   simp[WI,resolve,invoke,builtin,E,H]
  ·cases g
 ·split at g
  ·rename_i y z h1
   simp only[Option.bind_eq_some_iff,Option.map_eq_some_iff]at g
   obtain⟨V,j,Z,D,rfl⟩:=g
   have M:args = #[y,z]:=by simpa using congrArg List.toArray h1
   subst M
   obtain⟨v,w',E,H⟩:=d3b (P:=P) (ts:=argTypes) (ty:=ty) N (ZK K j) (ZK K D) hr
   simp only[if_true]at E
   simp[WI,resolve,invoke,builtin,E,H]
  ·cases g
 ·split at g
  ·rename_i y z h1
   simp only[Option.bind_eq_some_iff,Option.map_eq_some_iff]at g
   obtain⟨V,j,Z,D,rfl⟩:=g
   have M:args = #[y,z]:=by simpa using congrArg List.toArray h1
   subst M
   obtain⟨v,w',E,H⟩:=d3b (P:=P) (ts:=argTypes) (ty:=ty) N (ZK K j) (ZK K D) hr
   simp only[if_false,Bool.false_eq_true]at E
   simp[WI,resolve,invoke,builtin,E,H]
  ·cases g
 ·split at g
  ·rename_i y z t t' h1 h2
   split at g
   ·rename_i htt
    subst htt
    split at g
    ·rename_i e ht
     simp only[Option.bind_eq_some_iff]at g
     obtain⟨i,hi,zv,U,pz,F,V,j,Z,D,g⟩:=g
     split at g
     ·rename_i s
      cases g
      have M:args = #[y,z]:=by simpa using congrArg List.toArray h1
      have O:argTypes = #[t,t]:=by simpa using congrArg List.toArray h2
      subst M O
      have hy:=ZK K j
      have A:=ZK K D
      have I:VS P (Builtin.append_ #[t,t] ty #[a.eval y,a.eval z]) w (Z0 c μ Φ σ' x):=by
       simp only[YO]at hr
       split at hr
       ·rename_i sz' tt ys hZ
        rw[hZ]at A
        replace A:=Yk A
        have J:=ZZ hr
        clear hr
        obtain⟨hq,hr⟩:=J
        have Q:ys=[]∨sz'=i.size:=by
         rcases Bool.or_eq_true _ _ |>.mp hq with h|h
         ·exact .inl (by simpa using h)
         ·exact .inr (beq_iff_eq.mp h)
        ·refine Ra ht hi U F s.1 s.2 N hy ?_ hr
         by_cases h0:ys=[]
         ·subst h0
          generalize a.eval z=q at A
          cases A with
          | sl0 b X _ _ _=>exact⟨b,X,rfl,.inl rfl⟩
          | sl b off cs X _ _ _ u=>exact⟨_,X,rfl,.inl rfl⟩
         ·obtain⟨b,off,X,cs,W,z1,z2,z3,z4,z5,z6,z7,z8⟩:=A.sl_cells N.phi h0
          have hs:sz'=i.size:=Q.resolve_left h0
          subst hs
          exact⟨_,X,z1,.inr ⟨b,off,W,rfl,z6,z7,z8,z5⟩⟩
       ·rename_i l n lo r hZ
        rw[hZ]at A
        have J:=Xc hr
        clear hr
        obtain⟨ob,hob,hr⟩:=J
        split at hr
        ·rename_i fz ty' sz' ys
         split at hr
         ·rename_i Q
          subst Q
          have J:=ZZ hr
          clear hr
          obtain⟨hn,hr⟩:=J
          have hn:=beq_iff_eq.mp hn
          refine Ra ht hi U F s.1 s.2 N hy ?_ hr
          generalize a.eval z=q at A
          cases A with
          | row _ _ _ _ B C S q' hm k2 k3 k4 ha=>
           obtain⟨rfl,W,m1,m2,m3,m4,m5,m6,m7⟩:=Qi N hob hn hm
           have Y:((ys.take r).drop lo).length=r - lo:=by simp;omega
           rw[<- Y]
           refine⟨q',_,rfl,?_⟩
           by_cases hlh:lo<r
           ·have hq:=ha (.inl hlh)
            subst hq
            refine .inr ⟨B,lo*i.size,((W.toList.take (ys.length*i.size)).drop (lo*i.size)).take ((r - lo)*i.size),rfl,?_,?_,?_,?_⟩
            ·obtain⟨_,m1,_⟩:=m1;have:=Y7 m1 (lo*i.size) ((r - lo)*i.size)
             have e:((W.toList.take (ys.length*i.size)).drop (lo*i.size)).take ((r - lo)*i.size)=(W.toList.drop (lo*i.size)).take ((r - lo)*i.size):=by
              rw[List.drop_take,List.take_take,Nat.min_eq_left]
              rw[<- Nat.sub_mul]
              exact Nat.mul_le_mul_right _ (by omega)
             rw[e]
             exact this
            ·have:=(m6.drop (lo*i.size)).take ((r - lo)*i.size)
             rw[Qc m5,KU (fun x hx=>m5 x (List.mem_of_mem_drop hx))]at this
             have O:(ys.take r).drop lo=(ys.drop lo).take (r - lo):=by rw[List.drop_take]
             rw[O]
             exact this
            ·exact(m7.drop _).take _
            ·intro y hy
             exact m5 y (List.mem_of_mem_take (List.mem_of_mem_drop hy))
           ·left
            have:lo=r:=by omega
            subst this
            simp
         ·exact(Zh hr).elim
        ·exact(Zh hr).elim
       ·exact(Zh hr).elim
      obtain⟨v,w',E,H⟩:=I
      simp[WI,resolve,invoke,builtin,E,H]
     ·cases g
    ·cases g
   ·split at g
    ·rename_i e ht T
     simp only[Option.bind_eq_some_iff]at g
     obtain⟨i,hi,zv,U,pz,F,V,j,Z,D,g⟩:=g
     split at g
     ·rename_i s
      cases g
      have M:args = #[y,z]:=by simpa using congrArg List.toArray h1
      have O:argTypes = #[t,t']:=by simpa using congrArg List.toArray h2
      subst M O
      have I:VS P (Builtin.append_ #[t,t'] ty #[a.eval y,a.eval z]) w (Z0 c μ Φ σ' x):=
       c5i ht T hi U F s.1 s.2 N (ZK K j) (ZK K D) hr
      obtain⟨v,w',E,H⟩:=I
      simp[WI,resolve,invoke,builtin,E,H]
     ·cases g
    ·rename_i e ht T
     simp only[Option.bind_eq_some_iff]at g
     obtain⟨i,hi,zv,U,pz,F,V,j,Z,D,g⟩:=g
     split at g
     ·rename_i s
      cases g
      have M:args = #[y,z]:=by simpa using congrArg List.toArray h1
      have O:argTypes = #[t,t']:=by simpa using congrArg List.toArray h2
      subst M O
      have I:VS P (Builtin.append_ #[t,t'] ty #[a.eval y,a.eval z]) w (Z0 c μ Φ σ' x):=
       c4v ht T hi U F s.1 s.2 N (ZK K j) (ZK K D) hr
      obtain⟨v,w',E,H⟩:=I
      simp[WI,resolve,invoke,builtin,E,H]
     ·cases g
    ·cases g
  ·cases g
 ·cases g
theorem d6d{o:Oper}{p:POp}(g:U8 P o.op=some p)(hc:p.isCall=false)(s:Good c μ Φ σ w)(r:YI μ Φ a.tmps env)(hr:(YO L env p).run σ=some (x,σ')):
  WI P (execOp a.eval o) w (Z0 c μ Φ σ' x):=by
 obtain⟨dst,op,T,pos,after,guard⟩:=o
 simp only at g
 unfold U8 at g
 split at g
 all_goals try simp only[Option.bind_eq_some_iff,Option.map_eq_some_iff]at g
 ·obtain⟨y,l,rfl⟩:=g
  simp only[YO]at hr
  obtain⟨rfl,rfl⟩:=Zu hr
  exact Zj s (ZK r l)
 ·obtain⟨y,l,rfl⟩:=g
  simp only[YO]at hr
  obtain⟨rfl,rfl⟩:=Zu hr
  exact Zj s (ZK r l)
 ·obtain⟨y1,h1,y2,h2,y3,h3,rfl⟩:=g
  obtain⟨v,w',U,r2⟩:=d0h (P:=P) s (ZK r h1) (ZK r h2) (ZK r h3) hr
  simp only[Sem.run_bind]at U
  simp only[WI,execOp,Sem.run_bind]
  cases B:(asBool (a.eval _)).run P w with
  | ok b w1=>
   simp only[B,Result.andThen_ok,Sem.run_pure]at U ⊢
   cases U
   exact r2
  | halt h w1=>simp[B]at U
 ·-- box
  obtain⟨i,hi,y,l,rfl⟩:=g
  exact(d5a (P:=P) s (ZK r l) hr).gives
 ·-- alloc
  obtain⟨i,hi,z,A,q,B,rfl⟩:=g
  exact(c0o (P:=P) hi A B s hr).gives
 ·-- build
  obtain⟨i,hi,z,A,q,B,g⟩:=g
  split at g
  ·rename_i fs ht
   simp only[Option.bind_eq_some_iff,Option.map_eq_some_iff]at g
   obtain⟨pl,hpl,qs,D,rfl⟩:=g
   obtain⟨J,K⟩:=XM D
   refine(b5a (P:=P) ht hi A B hpl s (by simpa using J) ?_ hr).gives
   intro j pa M ha hb
   rw[Array.getElem?_map,Option.map_eq_some_iff]at ha
   obtain⟨⟨n,o⟩,ho,rfl⟩:=ha
   have:=K j (n,o) M (by simpa using ho) hb
   simp only[Option.bind_eq_some_iff,Option.map_eq_some_iff]at this
   obtain⟨⟨o1,n1⟩,k1,y,S,rfl⟩:=this
   exact⟨k1,ZK r S⟩
  ·rename_i len e ht
   simp only[Option.bind_eq_some_iff,Option.map_eq_some_iff]at g
   obtain⟨ie,hie,qs,D,rfl⟩:=g
   obtain⟨J,K⟩:=XM D
   refine(a7x (P:=P) ht hi hie A B s (by simpa using J) ?_ hr).gives
   intro j pa M ha hb
   rw[Array.getElem?_map,Option.map_eq_some_iff]at ha
   obtain⟨⟨n,o⟩,ho,rfl⟩:=ha
   have:=K j (n,o) M (by simpa using ho) hb
   simp only[Option.map_eq_some_iff]at this
   obtain⟨y,S,rfl⟩:=this
   exact⟨rfl,ZK r S⟩
  ·cases g
 ·-- buildSlice
  split at g
  ·rename_i e ht
   simp only[Option.bind_eq_some_iff]at g
   obtain⟨i,hi,z,A,q,B,g⟩:=g
   split at g
   ·rename_i Q
    simp only[Option.map_eq_some_iff]at g
    obtain⟨qs,D,rfl⟩:=g
    obtain⟨J,K⟩:=XM D
    refine(vs_bslice (P:=P) ht hi A B Q.1 Q.2 s (by simpa using J) ?_ hr).gives
    intro j pa M ha hb
    rw[Array.getElem?_map,Option.map_eq_some_iff]at ha
    obtain⟨⟨n,o⟩,ho,rfl⟩:=ha
    have:=K j (n,o) M (by simpa using ho) hb
    simp only[Option.map_eq_some_iff]at this
    obtain⟨y,S,rfl⟩:=this
    exact⟨rfl,ZK r S⟩
   ·cases g
  ·cases g
 ·-- load
  split at g
  ·rename_i hu
   simp only[Option.bind_eq_some_iff]at g
   obtain⟨i,hi,g⟩:=g
   split at g
   ·rename_i W
    simp only[Option.map_eq_some_iff]at g
    obtain⟨y,l,rfl⟩:=g
    exact(c4r (P:=P) hu hi W s (ZK r l) hr).gives
   ·cases g
  ·cases g
 ·-- store
  obtain⟨i,hi,y,l,z,A,rfl⟩:=g
  exact DL (b9b (P:=P) hi s (ZK r l) (ZK r A) hr)
 ·-- nilCheck
  obtain⟨y,l,rfl⟩:=g
  exact a8k (P:=P) s (ZK r l) hr _ a.eval _ rfl rfl
 ·-- binOp
  obtain⟨kd,O,y,l,z,A,rfl⟩:=g
  exact(e0b (P:=P) O s (ZK r l) (ZK r A) hr).gives
 ·-- unOp
  obtain⟨y,l,rfl⟩:=g
  exact(e0j (P:=P) s (ZK r l) hr).gives
 ·-- convert
  split at g
  ·rename_i hs
   split at g
   ·rename_i k hd
    simp only[Option.map_eq_some_iff]at g
    obtain⟨y,l,rfl⟩:=g
    exact(c7s (P:=P) hs hd s (ZK r l) hr).gives
   ·rename_i hd
    split at g
    ·rename_i e X
     split at g
     ·rename_i F
      simp only[Option.map_eq_some_iff]at g
      obtain⟨y,l,rfl⟩:=g
      exact(c8b (P:=P) X hd (Oi F) s (ZK r l) hr).gives
     ·cases g
    ·simp only[Option.map_eq_some_iff]at g
     obtain⟨y,l,rfl⟩:=g
     exact(c1d (P:=P) hs hd s (ZK r l) hr).gives
   ·rename_i e hd
    split at g
    ·rename_i F
     split at g
     ·rename_i V
      subst V
      simp only[Option.map_eq_some_iff]at g
      obtain⟨y,l,rfl⟩:=g
      exact(b0n (P:=P) hd (Oi F) s (ZK r l) hr).gives
     ·simp only[Option.map_eq_some_iff]at g
      obtain⟨y,l,rfl⟩:=g
      exact(a8d (P:=P) hs hd (Oi F) s (ZK r l) hr).gives
    ·cases g
   ·cases g
  ·cases g
 ·-- makeFunc
  obtain⟨xs,Z,ys,hys,rfl⟩:=g
  exact(c5q (P:=P) s (Sa r Z) (Sa r hys) hr).gives
 ·-- makeMap
  cases g
  exact(b8z (P:=P) s hr).gives
 ·-- makeSlice
  split at g
  ·rename_i e ht
   simp only[Option.bind_eq_some_iff]at g
   obtain⟨i,hi,z,A,q,B,y,l,u,hu,g⟩:=g
   split at g
   ·rename_i hs
    cases g
    exact(c7u (P:=P) ht hi A B hs s (ZK r l) (ZK r hu) hr).gives
   ·cases g
  ·cases g
 ·-- slice
  rename_i t o lo hi mx
  split at g
  ·rename_i ht
   split at g
   ·rename_i C
    simp only[Option.bind_eq_some_iff,Option.map_eq_some_iff]at g
    obtain⟨y,l,Y,I,hi',E,rfl⟩:=g
    have:mx=none:=by simpa using C
    subst this
    exact(a8i (P:=P) ht (fun n hn=>Bv r I 0 n hn) (fun d n hn=>Bv r E d n hn) s (ZK r l) hr).gives
   ·cases g
  ·rename_i e ht
   simp only[Option.bind_eq_some_iff,Option.map_eq_some_iff]at g
   obtain⟨i,hi0,y,l,Y,I,hi',E,mx',C,rfl⟩:=g
   refine(d5f (P:=P) ht hi0 (fun n hn=>Bv r I 0 n hn) (fun d n hn=>Bv r E d n hn) ?_ ?_ ?_ s (ZK r l) hr).gives
   ·rintro rfl
    cases mx with
    | none=>rfl
    | some z=>simp[Gh]at C
   ·intro h
    cases hi with
    | none=>simp[Gh]at E;exact absurd E.symm h
    | some z=>simp
   ·rintro m rfl
    cases mx with
    | none=>simp[Gh]at C
    | some z=>exact⟨a.eval z,rfl,fun d n hn=>Bv r (o:=some z) C d n hn⟩
  ·cases g
 ·-- fieldAddr
  split at g
  ·rename_i fs ht
   simp only[Option.bind_eq_some_iff]at g
   obtain⟨f,hf,i,hi,g⟩:=g
   split at g
   ·rename_i A
    simp only[Option.map_eq_some_iff]at g
    obtain⟨y,l,rfl⟩:=g
    exact(b7u (P:=P) ht hf hi A s (ZK r l) hr).gives
   ·cases g
  ·cases g
 ·-- field
  split at g
  ·rename_i fs ht
   simp only[Option.bind_eq_some_iff]at g
   obtain⟨f,hf,i,hi,g⟩:=g
   split at g
   ·rename_i hu
    simp only[Option.map_eq_some_iff]at g
    obtain⟨y,l,rfl⟩:=g
    exact(b8d (P:=P) ht hf hu hi s (ZK r l) hr).gives
   ·cases g
  ·cases g
 ·-- indexAddr
  split at g
  ·rename_i e ht
   simp only[Option.bind_eq_some_iff,Option.map_eq_some_iff]at g
   obtain⟨i,hi,y,l,z,A,rfl⟩:=g
   exact(b6w (P:=P) ht hi s (ZK r l) (ZK r A) hr).gives
  ·rename_i n e ht
   split at g
   ·rename_i k z
    simp only[Option.bind_eq_some_iff]at g
    obtain⟨ie,hi,g⟩:=g
    split at g
    ·rename_i A
     simp only[Option.map_eq_some_iff]at g
     obtain⟨y,l,rfl⟩:=g
     exact(b4z (P:=P) (k:=k) ht hi A s (ZK r l) hr).gives
    ·cases g
   ·simp only[Option.bind_eq_some_iff,Option.map_eq_some_iff]at g
    obtain⟨ie,hi,y,l,z,A,rfl⟩:=g
    exact(a7b (P:=P) ht hi s (ZK r l) (ZK r A) hr).gives
  ·cases g
 ·-- index
  split at g
  ·rename_i ht
   simp only[Option.bind_eq_some_iff,Option.map_eq_some_iff]at g
   obtain⟨y,l,z,A,rfl⟩:=g
   exact(b7a (P:=P) ht s (ZK r l) (ZK r A) hr).gives
  ·rename_i n e ht
   simp only[Option.bind_eq_some_iff]at g
   obtain⟨ie,hi,g⟩:=g
   split at g
   ·rename_i N
    simp only[Option.bind_eq_some_iff,Option.map_eq_some_iff]at g
    obtain⟨y,l,z,A,rfl⟩:=g
    exact(a7e (P:=P) ht hi N.1 N.2 s (ZK r l) (ZK r A) hr).gives
   ·cases g
  ·cases g
 ·-- lookup
  split at g
  ·rename_i kt et ht
   simp only[Option.bind_eq_some_iff,Option.map_eq_some_iff]at g
   obtain⟨st,H,i,hi,z,A,q,B,y,l,u,hu,rfl⟩:=g
   obtain⟨d,hd,O⟩:=a3p H
   exact(a8t (P:=P) ht hd O hi A B s (ZK r l) (ZK r hu) hr).gives
  ·cases g
 ·-- mapUpdate
  split at g
  ·rename_i kt et ht
   simp only[Option.bind_eq_some_iff,Option.map_eq_some_iff]at g
   obtain⟨st,H,y,l,u,hu,z,A,rfl⟩:=g
   obtain⟨d,hd,O⟩:=a3p H
   exact DL (a9w (P:=P) ht hd O s (ZK r l) (ZK r hu) (ZK r A) hr)
  ·cases g
 ·-- extract
  obtain⟨y,l,rfl⟩:=g
  exact(Eh (P:=P) s (ZK r l) hr).gives
 ·-- call
  exact b7y g hc s r hr T
 ·cases g
end
end
def Bq:List Nat->Bool
 | []=>true
 | x::xs=> !xs.contains x&&Bq xs
theorem Dn{ls:List Nat}{l i:Nat}(h:fwd ls l=some i):ls[i]? = some l:=by
 unfold fwd at h
 rw[List.idxOf?,List.findIdx?_eq_some_iff_getElem]at h
 obtain⟨hi,h1,_⟩:=h
 rw[List.getElem?_eq_getElem hi]
 simp at h1
 rw[h1]
theorem Hz{ρ:Nat->Option Nat}: ∀ {xs ys:List AV},GZ ρ xs=some ys->xs.length=ys.length∧ ∀ (j:Nat) x y,xs[j]? = some x->ys[j]? = some y->x.ren ρ=some y:=by
 intro xs
 induction xs with
 | nil=>intro ys h;simp[GZ]at h;subst h;simp
 | cons x xs ih=>
  intro ys h
  simp only[GZ,Option.bind_eq_some_iff,Option.map_eq_some_iff]at h
  obtain⟨y,g,ys',e,rfl⟩:=h
  obtain⟨h1,h2⟩:=ih e
  refine⟨by simp[h1],?_⟩
  intro j a b ha hb
  cases j with
  | zero=>simp at ha hb;subst ha hb;exact g
  | succ j=>simp at ha hb;exact h2 j a b ha hb
theorem d2a{μ μ':Mu}{Φ:ZM}{ρ:Nat->Option Nat}(r : ∀ l i,ρ l=some i-> ∀ n z,μ l n=some z->μ' i n=some z){v:Value}{x:AV}(h:R μ Φ v x): ∀ {y:AV},x.ren ρ=some y->R μ' Φ v y:=by
 induction h with
 | pv v p h=>intro y b;simp[AV.ren]at b;subst b;exact .pv v p h
 | junk v=>intro y b;simp[AV.ren]at b;subst b;exact .junk v
 | undef=>intro y b;simp[AV.ren]at b;subst b;exact .undef
 | agg cs xs hn ho h ih=>
  intro y b
  simp only[AV.ren,Option.map_eq_some_iff]at b
  obtain⟨ys,g,rfl⟩:=b
  obtain⟨h1,h2⟩:=Hz g
  refine .agg cs ys (by omega) ho (fun j v y q b=> ?_)
  have e:j<xs.length:=by have:=(List.getElem?_eq_some_iff.1 b).1;omega
  exact ih j v xs[j] q (List.getElem?_eq_getElem e) (h2 j _ _ (List.getElem?_eq_getElem e) b)
 | tup cs xs hn h ih=>
  intro y b
  simp only[AV.ren,Option.map_eq_some_iff]at b
  obtain⟨ys,g,rfl⟩:=b
  obtain⟨h1,h2⟩:=Hz g
  refine .tup cs ys (by omega) (fun j v y q b=> ?_)
  have e:j<xs.length:=by have:=(List.getElem?_eq_some_iff.1 b).1;omega
  exact ih j v xs[j] q (List.getElem?_eq_getElem e) (h2 j _ _ (List.getElem?_eq_getElem e) b)
 | ptr l o B C S h=>
  intro y b
  simp only[AV.ren,Option.map_eq_some_iff]at b
  obtain⟨i,hi,rfl⟩:=b
  exact .ptr i o B C S (r l i hi _ _ h)
 | row l n lo hi B C S a h h1 h2 h3 ha=>
  intro y b
  simp only[AV.ren,Option.map_eq_some_iff]at b
  obtain⟨i,hi,rfl⟩:=b
  exact .row i n lo _ B C S a (r l i hi _ _ h) h1 h2 h3 ha
 | eptr l n i o B C S h=>
  intro y b
  simp only[AV.ren,Option.map_eq_some_iff]at b
  obtain⟨k,D,rfl⟩:=b
  exact .eptr k n i o B C S (r l k D _ _ h)
 | map l B C S h=>
  intro y b
  simp only[AV.ren,Option.map_eq_some_iff]at b
  obtain⟨i,hi,rfl⟩:=b
  exact .map i B C S (r l i hi _ _ h)
 | fn f cs ds xs ys hn hm h k ih1 ih2=>
  intro y b
  simp only[AV.ren,Option.bind_eq_some_iff,Option.map_eq_some_iff]at b
  obtain⟨s,A,u,g,rfl⟩:=b
  obtain⟨h1,h2⟩:=Hz A
  obtain⟨k1,E⟩:=Hz g
  refine .fn f cs ds s u (by omega) (by omega) (fun j v y q b=> ?_) (fun j v y q b=> ?_)
  ·have e:j<xs.length:=by have:=(List.getElem?_eq_some_iff.1 b).1;omega
   exact ih1 j v xs[j] q (List.getElem?_eq_getElem e) (h2 j _ _ (List.getElem?_eq_getElem e) b)
  ·have e:j<ys.length:=by have:=(List.getElem?_eq_some_iff.1 b).1;omega
   exact ih2 j v ys[j] q (List.getElem?_eq_getElem e) (E j _ _ (List.getElem?_eq_getElem e) b)
 | yld l=>
  intro y b
  simp only[AV.ren,Option.some.injEq]at b
  subst b
  exact .yld l
theorem Eu{μ μ':Mu}{Φ:ZM}{ρ:Nat->Option Nat}(e : ∀ l i,ρ l=some i-> ∀ n z,μ l n=some z->μ' i n=some z){vs:List Value}{xs ys:List AV}(h:RL μ Φ vs xs)(a:GZ ρ xs=some ys):RL μ' Φ vs ys:=by
 obtain⟨h1,h2⟩:=Hz a
 refine⟨by rw[h.1,h1],fun j v y g a=> ?_⟩
 have b:j<xs.length:=by have:=(List.getElem?_eq_some_iff.1 a).1;omega
 exact d2a e (h.2 j v xs[j] g (List.getElem?_eq_getElem b)) (h2 j _ _ (List.getElem?_eq_getElem b) a)
theorem Xf{μ μ':Mu}{Φ:ZM}{w:World}{ρ:Nat->Option Nat}(j : ∀ l i,ρ l=some i-> ∀ n z,μ l n=some z->μ' i n=some z){l i:Nat}(a : ∀ n,μ' i n=μ l n){o o':AObj}(h:Ur μ Φ w l o)(ho:o.ren ρ=some o'):
  Ur μ' Φ w i o'∧blk μ' i o'=blk μ l o:=by
 cases o with
 | box xs=>
  simp only[AObj.ren,Option.map_eq_some_iff]at ho
  obtain⟨ys,b,rfl⟩:=ho
  obtain⟨B,C,S,T,cs,h1,h2,h3,e,g⟩:=h
  exact⟨⟨B,C,S,T,cs,by rw[a];exact h1,h2,Eu j h3 b,e,g⟩,by simp[blk,a]⟩
 | row fz ty sz xs=>
  simp only[AObj.ren,Option.some.injEq]at ho
  subst ho
  obtain⟨B,C,cs,h1,h2,h3⟩:=h
  exact⟨⟨B,C,cs,by rw[a];exact h1,fun n hn=>by rw[a];exact h2 n hn,h3⟩,by simp[blk,a]⟩
 | map es=>
  simp only[AObj.ren,Option.some.injEq]at ho
  subst ho
  obtain⟨B,C,S,m,k,h1,h2⟩:=h
  exact⟨⟨B,C,S,m,k,by rw[a];exact h1,h2⟩,by simp[blk,a]⟩
theorem a7t: ∀ {l:List Nat},Bq l=true-> ∀ (i j:Nat) x,l[i]? = some x->l[j]? = some x->i=j:=by
 intro l
 induction l with
 | nil=>intro _ i j x h;simp at h
 | cons a l ih=>
  intro h i j x hi b
  simp only[Bq,Bool.and_eq_true,Bool.not_eq_true']at h
  have e:a ∉ l:=by simpa using h.1
  cases i with
  | zero=>
   cases j with
   | zero=>rfl
   | succ j=>
    simp at hi b
    subst hi
    exact absurd (List.mem_of_getElem? b) e
  | succ i=>
   cases j with
   | zero=>
    simp at hi b
    subst b
    exact absurd (List.mem_of_getElem? hi) e
   | succ j=>
    simp at hi b
    rw[ih h.2 i j x hi b]
def Mu.ren(μ:Mu)(ls:List Nat):Mu:=fun i n=>match ls[i]? with|some l=>μ l n|none=>none
theorem a0w{α:Type}{σ:Zw}{k:List (Nat×AObj)->HM α}{r:α×Zw}: ∀ (n:Nat) {ls:List Nat} {e:List (Nat×AObj)},(GU n ls e k).run σ=some r->(∀ p∈e,σ[p.1]? = some (.obj p.2))->(e.map (·.1)).Nodup ->
  ∃ g,(∀ p∈g,σ[p.1]? = some (.obj p.2))∧(g.map (·.1)).Nodup∧(k g).run σ=some r:=by
 intro n
 induction n with
 | zero=>intro ls e h _ _;simp[GU,HM.run]at h
 | succ n ih=>
  intro ls e h h1 h2
  cases ls with
  | nil=>exact⟨e,h1,h2,h⟩
  | cons l ls=>
   unfold GU at h
   split at h
   ·exact ih h h1 h2
   ·rename_i q
    obtain⟨x,σ'⟩:=r
    obtain⟨o,ho,h3⟩:=Xc h
    refine ih h3 ?_ ?_
    ·intro p j
     rw[List.mem_append]at j
     rcases j with j|j
     ·exact h1 p j
     ·simp at j;subst j;exact ho
    ·rw[List.map_append,List.nodup_append]
     refine⟨h2,by simp,?_⟩
     intro a ha b hb
     simp at hb
     subst hb
     rintro rfl
     exact q (by simpa using ha)
theorem Ey{α:Type}{k:HM α}{r:α×Zw}: ∀ {ps:List (Nat×AObj)} {σ:Zw},(Aw ps k).run σ=some r->(ps.map (·.1)).Nodup ->
  ∃ b,k.run b=some r∧(∀ p∈ps,b[p.1]? = some (.obj p.2))∧ ∀ l,l ∉ ps.map (·.1)->b[l]? = σ[l]? :=by
 intro ps
 induction ps with
 | nil=>intro σ h _;exact⟨σ,h,by simp,fun _ _=>rfl⟩
 | cons p ps ih=>
  intro σ h hn
  obtain⟨l,o⟩:=p
  obtain⟨x,σ'⟩:=r
  simp only[Aw]at h
  obtain⟨⟨o',e⟩,h1⟩:=UR h
  simp only[List.map_cons,List.nodup_cons]at hn
  obtain⟨b,k1,k2,k3⟩:=ih h1 hn.2
  refine⟨b,k1,?_,?_⟩
  ·intro p g
   rcases List.mem_cons.1 g with rfl|g
   ·rw[k3 _ hn.1]
    exact ZI e
   ·exact k2 p g
  ·intro l' a
   simp only[List.map_cons,List.mem_cons,not_or]at a
   rw[k3 l' a.2,ZE a.1]
theorem OC{α:Type}{k:HM α}{r:α×Zw}: ∀ {os:List AObj} {L:Nat} {σ:Zw},(Bd L os k).run σ=some r ->
  ∃ g,k.run g=some r∧(∀ (j:Nat) o,os[j]? = some o->σ[L+j]? = some .fresh∧g[L+j]? = some (.obj o))∧ ∀ l,(l<L∨L+os.length<=l)->g[l]? = σ[l]? :=by
 intro os
 induction os with
 | nil=>intro L σ h;exact⟨σ,h,by simp,fun _ _=>rfl⟩
 | cons o os ih=>
  intro L σ h
  obtain⟨x,σ'⟩:=r
  simp only[Bd]at h
  obtain⟨u,h1⟩:=QQ h
  obtain⟨g,k1,k2,k3⟩:=ih h1
  refine⟨g,k1,?_,?_⟩
  ·intro j y q
   cases j with
   | zero=>
    simp at q
    subst q
    refine⟨u,?_⟩
    rw[Nat.add_zero,k3 L (.inl (by omega))]
    exact ZI u
   | succ j=>
    simp at q
    obtain⟨a,b⟩:=k2 j y q
    have e:L+1+j=L+(j+1):=by omega
    rw[e]at a b
    refine⟨?_,b⟩
    rwa [ZE (by omega)]at a
  ·intro l s
   rw[k3 l (by simp at s;omega),ZE (by simp at s;omega)]
theorem Ql{ρ:Nat->Option Nat}: ∀ {xs ys:List AObj},Qh ρ xs=some ys->xs.length=ys.length∧ ∀ (j:Nat) x y,xs[j]? = some x->ys[j]? = some y->x.ren ρ=some y:=by
 intro xs
 induction xs with
 | nil=>intro ys h;simp[Qh]at h;subst h;simp
 | cons x xs ih=>
  intro ys h
  simp only[Qh,Option.bind_eq_some_iff,Option.map_eq_some_iff]at h
  obtain⟨y,g,ys',e,rfl⟩:=h
  obtain⟨h1,h2⟩:=ih e
  refine⟨by simp[h1],?_⟩
  intro j a b ha hb
  cases j with
  | zero=>simp at ha hb;subst ha hb;exact g
  | succ j=>simp at ha hb;exact h2 j a b ha hb
def Mu.back(μ a:Mu)(ls:List Nat)(L k:Nat):Mu:=fun l n=>
 if L<=l∧l<L+k then a (ls.length+(l - L)) n
 else match ls.idxOf? l with|some i=>a i n|none=>μ l n
section
def Xh(P:Program)(f:Nat)(pre:List PV->Bool)(val:List PV->PV):Prop:=
 ∀ ps,pre ps=true-> ∀ Φ w (vs:Array Value),GlobOK Φ->WH Φ w->XW Φ vs.toList ps ->
  Calls P f vs w fun e w'=> ∃ v Φ',e = .returned v∧ZM.le Φ Φ'∧WH Φ' w'∧RP Φ' v (val ps)∧Below w.heap.size w w'∧ ∀ b cs,Φ' b=some cs->Φ b=some cs∨w.heap.size<=b
def entry(μ:Mu)(Φ:ZM)(σ:Zw)(w:World):Ctx:=⟨w,fun b=> ∃ l o,σ[l]? = some (.obj o)∧blk μ l o=b,Φ,μ⟩
def Yt(os:List AObj):Zw:=os.map .obj
def Ym(P:Program)(f:Nat)(pre:List AV->List AObj->Bool)(val:List AV->List AObj->AV×List AObj×List AObj):Prop:=
 ∀ args os x b ext,pre args os=true->val args os=(x,b,ext)->b.length=os.length∧ ∀ μ Φ w (vs:Array Value),Good (entry μ Φ (Yt os) w) μ Φ (Yt os) w->RL μ Φ vs.toList args ->
  Calls P f vs w fun e w'=> ∃ v g Φ',e = .returned v∧Good (entry μ Φ (Yt os) w) g Φ' (Yt (b++ext)) w'∧R g Φ' v x
def a2z(P:Program)(f:Nat):Den->Prop
 | .pure pre val=>Xh P f pre val
 | .own pre val=>Ym P f pre val
def Z8(P:Program)(T:ZC):Prop:= ∀ f D,T f=some D->(∃ fn,P.funcs[f]? = some fn∧fn.body.isSome=true∧(fn.name == "runtime.NumGoroutine")=false)∧a2z P f D
section
variable {P:Program} {c:Ctx} {μ:Mu} {Φ:ZM} {σ σ':Zw} {w:World} {a:Act} {env:List AV} {L:Nat} {x:AV}
theorem Uh{f:FuncId}{fn:Func}{args:Array Value}(hf:P.funcs[f]? = some fn)(hb:fn.body.isSome=true)(hn:(fn.name == "runtime.NumGoroutine")=false):(callFunc f args).run P w = .ok (.enter f args) w:=by
 have hb':fn.body.isNone=false:=by cases h:fn.body <;> simp_all
 unfold callFunc
 simp only[Sem.run_bind,run_program,Result.andThen_ok,hf,hn,hb',if_false,Bool.false_eq_true]
 rfl
theorem b9m{f:Nat}{pre:List PV->Bool}{val:List PV->PV}(g:Xh P f pre val){vs:Array Value}{args:List AV}(k:Good c μ Φ σ w)(q:RL μ Φ vs.toList args)
  (hr:((VL args).bind fun ps=>HM.req (pre ps) (.ret (.pv (val ps)))).run σ=some (x,σ')):Calls P f vs w fun e w'=> ∃ v,e = .returned v∧Z0 c μ Φ σ' x v w':=by
 rw[HM.run_bind,Option.bind_eq_some_iff]at hr
 obtain⟨⟨ps,σ1⟩,h1,h2⟩:=hr
 obtain⟨h3,b⟩:=ZZ h2
 obtain⟨rfl,rfl⟩:=Zu b
 obtain⟨Φ1,f1,f2,f3⟩:=Vu args h1 k q
 refine(g ps h3 Φ1 w vs (f2.laid.mono f2.Φle) f2.phi f3).mono ?_
 rintro e w' ⟨v,Φ2,rfl,k1,l,k3,j,h⟩
 exact⟨v,rfl,μ,Φ2,Mu.le.refl _,f1.trans k1,f2.below j k1 l h,.pv _ _ k3⟩
theorem Good.μ_fresh(h:Good c μ Φ σ w){l n:Nat}{z:Nat×Nat×Nat}(b:μ l n=some z): ∃ s,σ[l]? = some s∧s ≠ .fresh:=by
 cases hs:σ[l]? with
 | none=>rw[h.fresh l n (.inl hs)]at b;cases b
 | some s=>
  refine⟨s,rfl,?_⟩
  rintro rfl
  rw[h.fresh l n (.inr hs)]at b
  cases b
theorem b3x{ls:List Nat}{os:List AObj}{r ext D A:List AObj}{σ1 σ2:Zw}{B:Mu}{Φ2:ZM}{w':World}(q:Good c μ Φ σ w)(hnd:ls.Nodup)
  (hls : ∀ (i l:Nat) o,ls[i]? = some l->os[i]? = some o->σ[l]? = some (.obj o)) (hlen:os.length=ls.length) {M:List AObj} (hren:Qh (fwd ls) os=some M)
  (y:Good (entry (μ.ren ls) Φ (Yt M) w) B Φ2 (Yt (r++ext)) w') (h2:r.length=ls.length) (r1:Qh (bwd ls L) r=some D) (r2:Qh (bwd ls L) ext=some A)
  (a1 : ∀ (i l:Nat) o,ls[i]? = some l->D[i]? = some o->σ1[l]? = some (.obj o)) (a2 : ∀ l,l ∉ ls->σ1[l]? = σ[l]?)
  (b1 : ∀ (j:Nat) o,A[j]? = some o->σ1[L+j]? = some .fresh∧σ2[L+j]? = some (.obj o)) (b2 : ∀ l,(l<L∨L+A.length<=l)->σ2[l]? = σ1[l]?) :
  Mu.le μ (μ.back B ls L ext.length)∧Good c (μ.back B ls L ext.length) Φ2 σ2 w'∧ ∀ (i l:Nat),bwd ls L i=some l-> ∀ n z,B i n=some z->μ.back B ls L ext.length l n=some z:=by
 obtain⟨e1,q1⟩:=Ql r1
 obtain⟨e2,q2⟩:=Ql r2
 obtain⟨e3,q3⟩:=Ql hren
 have hidx : ∀ (i l:Nat),ls[i]? = some l->ls.idxOf? l=some i:=by
  intro i l g
  have hi:i<ls.length:=(List.getElem?_eq_some_iff.1 g).1
  have hm:l∈ls:=List.mem_of_getElem? g
  cases hx:ls.idxOf? l with
  | none=>rw[List.idxOf?_eq_none_iff]at hx;exact absurd hm hx
  | some j=>
   have hj:=Dn (ls:=ls) (l:=l) (i:=j) hx
   have hj':j<ls.length:=(List.getElem?_eq_some_iff.1 hj).1
   rw[List.getElem?_eq_getElem hi]at g
   rw[List.getElem?_eq_getElem hj']at hj
   have:ls[i]=ls[j]:=by rw[Option.some.injEq]at g hj;rw[g,hj]
   rw[(List.getElem_inj hnd).1 this]
 have hnone : ∀ (l:Nat),l ∉ ls->ls.idxOf? l=none:=fun l g=>by rw[List.idxOf?_eq_none_iff];exact g
 -- the new places are not among the old ones
 have hL : ∀ (j:Nat),j<ext.length->L+j ∉ ls∧σ[L+j]? = some .fresh:=by
  intro j hj
  obtain⟨f1,_⟩:=b1 j A[j] (List.getElem?_eq_getElem (by omega))
  have hn:L+j ∉ ls:=by
   intro hm
   obtain⟨i,hi,e⟩:=List.getElem_of_mem hm
   have:=a1 i (L+j) D[i] (by rw[List.getElem?_eq_getElem hi,e]) (List.getElem?_eq_getElem (by omega))
   rw[f1]at this
   cases this
  exact⟨hn,by rw[<- a2 _ hn];exact f1⟩
 have hin : ∀ (i l:Nat),ls[i]? = some l-> ¬ (L<=l∧l<L+ext.length):=by
  intro i l g ⟨h3,E⟩
  have:=(hL (l - L) (by omega)).1
  rw[show L+(l - L)=l by omega]at this
  exact this (List.mem_of_getElem? g)
 have bk1 : ∀ (i l n:Nat),ls[i]? = some l->μ.back B ls L ext.length l n=B i n:=by
  intro i l n g
  simp only[Mu.back,if_neg (hin i l g),hidx i l g]
 have bk2 : ∀ (j n:Nat),j<ext.length->μ.back B ls L ext.length (L+j) n=B (ls.length+j) n:=by
  intro j n hj
  simp only[Mu.back]
  rw[if_pos ⟨by omega,by omega⟩,show ls.length+(L+j - L)=ls.length+j by omega]
 have N : ∀ (l n:Nat),l ∉ ls-> ¬ (L<=l∧l<L+ext.length)->μ.back B ls L ext.length l n=μ l n:=by
  intro l n g hr
  simp only[Mu.back,if_neg hr,hnone l g]
 have hρ : ∀ (i l:Nat),bwd ls L i=some l-> ∀ n z,B i n=some z->μ.back B ls L ext.length l n=some z:=by
  intro i l g n z S
  unfold bwd at g
  split at g
  ·rw[bk1 i l n g];exact S
  ·rename_i hi
   simp only[Option.some.injEq]at g
   subst g
   obtain⟨s,hs,_⟩:=y.μ_fresh S
   have:i<(Yt (r++ext)).length:=(List.getElem?_eq_some_iff.1 hs).1
   simp[Yt]at this
   rw[bk2 (i - ls.length) n (by omega),show ls.length+(i - ls.length)=i by omega]
   exact S
 have Y:Mu.le μ (μ.back B ls L ext.length):=by
  intro l n z S
  by_cases hm:l∈ls
  ·obtain⟨i,hi,e⟩:=List.getElem_of_mem hm
   have g:ls[i]? = some l:=by rw[List.getElem?_eq_getElem hi,e]
   rw[bk1 i l n g]
   refine y.μle i n z ?_
   simp[entry,Mu.ren,g,S]
  ·by_cases hr:L<=l∧l<L+ext.length
   ·have:=(hL (l - L) (by omega)).2
    rw[show L+(l - L)=l by omega]at this
    rw[q.fresh l n (.inr this)]at S
    cases S
   ·rw[N l n hm hr];exact S
 -- which objects there are
 have u : ∀ (l:Nat) (o:AObj),σ2[l]? = some (.obj o)->(∃ (i:Nat) (p:AObj),(r++ext)[i]? = some p∧bwd ls L i=some l∧p.ren (bwd ls L)=some o∧(∀ n,μ.back B ls L ext.length l n=B i n))∨(l ∉ ls∧ ¬ (L<=l∧l<L+ext.length)∧σ[l]? = some (.obj o)):=by
  intro l o g
  by_cases hr:L<=l∧l<L+ext.length
  ·left
   obtain⟨_,f2⟩:=b1 (l - L) A[l - L] (List.getElem?_eq_getElem (by omega))
   rw[show L+(l - L)=l by omega,g]at f2
   cases f2
   refine⟨ls.length+(l - L),ext[l - L],?_,?_,?_,?_⟩
   ·rw[List.getElem?_append_right (by omega),show ls.length+(l - L) - r.length=l - L by omega]
    exact List.getElem?_eq_getElem (by omega)
   ·simp only[bwd]
    rw[if_neg (by omega)]
    congr 1
    omega
   ·exact q2 (l - L) _ _ (List.getElem?_eq_getElem (by omega)) (List.getElem?_eq_getElem (by omega))
   ·intro n
    have:=bk2 (l - L) n (by omega)
    rwa [show L+(l - L)=l by omega]at this
  ·rw[b2 l (by omega)]at g
   by_cases hm:l∈ls
   ·left
    obtain⟨i,hi,e⟩:=List.getElem_of_mem hm
    have K:ls[i]? = some l:=by rw[List.getElem?_eq_getElem hi,e]
    have:=a1 i l D[i] K (List.getElem?_eq_getElem (by omega))
    rw[g]at this
    cases this
    refine⟨i,r[i],?_,?_,q1 i _ _ (List.getElem?_eq_getElem (by omega)) (List.getElem?_eq_getElem (by omega)),fun n=>bk1 i l n K⟩
    ·rw[List.getElem?_append_left (by omega)]
     exact List.getElem?_eq_getElem (by omega)
    ·simp only[bwd]
     rw[if_pos hi]
     exact K
   ·right
    rw[a2 l hm]at g
    exact⟨hm,hr,g⟩
 have C : ∀ (i:Nat) (p:AObj),(r++ext)[i]? = some p->(Yt (r++ext))[i]? = some (.obj p):=by
  intro i p h
  simp only[Yt,List.getElem?_map,h,Option.map_some]
 -- whose blocks the callee may turn
 have H : ∀ b,(entry (μ.ren ls) Φ (Yt M) w).own b-> ∃ (l:Nat) (o:AObj),l∈ls∧σ[l]? = some (.obj o)∧blk μ l o=b:=by
  rintro b ⟨i,o',ho',hb⟩
  simp only[Yt,List.getElem?_map,Option.map_eq_some_iff]at ho'
  obtain⟨X,ho1,e⟩:=ho'
  cases e
  have hi:i<M.length:=(List.getElem?_eq_some_iff.1 ho1).1
  have g:ls[i]? = some ls[i]:=List.getElem?_eq_getElem (by omega)
  have ho:os[i]? = some os[i]:=List.getElem?_eq_getElem (by omega)
  have hσ:=hls i _ _ g ho
  refine⟨ls[i],os[i],List.getElem_mem _,hσ,?_⟩
  rw[<- hb]
  exact(Xf (μ':=μ.ren ls) (i:=i) (ρ:=fwd ls) (fun l i hi n z S=>by simp[Mu.ren,Dn hi,S]) (fun n=>by simp[Mu.ren,g]) (q.obj _ _ hσ) (q3 i _ _ ho ho1)).2.symm
 have O : ∀ (i:Nat) (p:AObj),(r++ext)[i]? = some p->w.heap.size<=blk B i p ∨ ∃ (l:Nat) (o:AObj),l∈ls∧σ[l]? = some (.obj o)∧blk μ l o=blk B i p:=by
  intro i p h
  rcases y.own i p (C i p h)with k|k
  ·exact .inl k
  ·exact .inr (H _ k)
 refine⟨Y,⟨y.phi,?_,?_,?_,?_,y.os.trans q.os,y.tape.trans q.tape,y.output.trans q.output,Nat.le_trans q.size y.size,?_,q.Φle.trans y.Φle,q.μle.trans Y,?_,q.laid⟩,hρ⟩
 ·intro l o g
  rcases u l o g with ⟨i,p,h3,E,F,h6⟩|⟨h3,E,F⟩
  ·exact(Xf hρ h6 (y.obj i p (C i p h3)) F).1
  ·have hox:=q.obj l o F
   have I : ¬ (entry (μ.ren ls) Φ (Yt M) w).own (blk μ l o):=by
    intro k
    obtain⟨l',o',k1,U,k3⟩:=H _ k
    exact q.apart l' l o' o (fun e=>h3 (e▸k1)) U F k3
   refine(hox.keep Y (fun n=>N l n h3 E) y.Φle ?_ (y.frame _ hox.blk_lt I)).1
   cases hp:Φ2 (blk μ l o)with
   | none=>
    cases hq:Φ (blk μ l o)with
    | none=>rfl
    | some cs=>rw[y.Φle _ _ hq]at hp;cases hp
   | some cs=>
    rcases y.dom _ _ hp with hd|hd|hd
    ·exact hd.symm
    ·have:=hox.blk_lt
     have hd':w.heap.size<=blk μ l o:=hd
     omega
    ·exact absurd hd I
 ·intro l l' o o' hne g hl'
  have Q : ∀ (l:Nat) (o:AObj),l ∉ ls->σ[l]? = some (.obj o)-> ∀ (i:Nat) (p:AObj),(r++ext)[i]? = some p->blk μ l o≠blk B i p:=by
   intro l o h3 E i p F e
   rcases O i p F with k|⟨l1,X,k1,U,k3⟩
   ·have:=(q.obj l o E).blk_lt
    omega
   ·exact q.apart l1 l X o (fun e=>h3 (e▸k1)) U E (k3.trans e.symm)
  have J : ∀ (l:Nat) (o:AObj),l ∉ ls-> ¬ (L<=l∧l<L+ext.length)->blk (μ.back B ls L ext.length) l o=blk μ l o:=by
   intro l o h3 E
   simp only[blk,N l _ h3 E]
  rcases u l o g with ⟨i,p,h3,E,F,h6⟩|⟨h3,E,F⟩
  ·rw[(Xf hρ h6 (y.obj i p (C i p h3)) F).2]
   rcases u l' o' hl' with ⟨V,W,k3,k4,Z,k6⟩|⟨k3,k4,Z⟩
   ·rw[(Xf hρ k6 (y.obj V W (C V W k3)) Z).2]
    refine y.apart i V p W ?_ (C i p h3) (C V W k3)
    rintro rfl
    rw[E]at k4
    cases k4
    exact hne rfl
   ·rw[J l' o' k3 k4]
    exact fun e=>Q l' o' k3 Z i p h3 e.symm
  ·rw[J l o h3 E]
   rcases u l' o' hl' with ⟨V,W,k3,k4,Z,k6⟩|⟨k3,k4,Z⟩
   ·rw[(Xf hρ k6 (y.obj V W (C V W k3)) Z).2]
    exact Q l o h3 F V W k3
   ·rw[J l' o' k3 k4]
    exact q.apart l l' o o' hne F Z
 ·intro l n T
  have hm:l ∉ ls:=by
   intro hm
   obtain⟨i,hi,e⟩:=List.getElem_of_mem hm
   have g:ls[i]? = some l:=by rw[List.getElem?_eq_getElem hi,e]
   have hnr:=hin i l g
   have:=a1 i l D[i] g (List.getElem?_eq_getElem (by omega))
   rw[<- b2 l (by omega)]at this
   rcases T with k|k <;> rw[k]at this <;> cases this
  have hnr : ¬ (L<=l∧l<L+ext.length):=by
   intro hr
   obtain⟨_,f2⟩:=b1 (l - L) A[l - L] (List.getElem?_eq_getElem (by omega))
   rw[show L+(l - L)=l by omega]at f2
   rcases T with k|k <;> rw[k]at f2 <;> cases f2
  rw[N l n hm hnr]
  rw[b2 l (by omega),a2 l hm]at T
  exact q.fresh l n T
 ·intro l o g
  rcases u l o g with ⟨i,p,h3,E,F,h6⟩|⟨h3,E,F⟩
  ·rw[(Xf hρ h6 (y.obj i p (C i p h3)) F).2]
   rcases O i p h3 with k|⟨l1,X,k1,U,k3⟩
   ·exact .inl (Nat.le_trans q.size k)
   ·rw[<- k3]
    exact q.own l1 X U
  ·have:blk (μ.back B ls L ext.length) l o=blk μ l o:=by simp only[blk,N l _ h3 E]
   rw[this]
   exact q.own l o F
 ·intro b hb I
  rw[y.frame b (Nat.lt_of_lt_of_le hb q.size) ?_]
  ·exact q.frame b hb I
  ·intro k
   obtain⟨l1,X,k1,U,k3⟩:=H _ k
   rcases q.own l1 X U with m|m
   ·omega
   ·rw[k3]at m;exact I m
 ·intro b cs hcs
  rcases y.dom b cs hcs with k|k|k
  ·exact q.dom b cs k
  ·exact .inr (.inl (Nat.le_trans q.size k))
  ·obtain⟨l1,X,k1,U,k3⟩:=H _ k
   rcases q.own l1 X U with m|m
   ·rw[k3]at m;exact .inr (.inl m)
   ·rw[k3]at m;exact .inr (.inr m)
theorem a7u{ls:List Nat}{os g:List AObj}(r:Good c μ Φ σ w)(I:ls.Nodup)(D : ∀ (i l:Nat) o,ls[i]? = some l->os[i]? = some o->σ[l]? = some (.obj o))(hlen:os.length=ls.length)(B:Qh (fwd ls) os=some g):
  Good (entry (μ.ren ls) Φ (Yt g) w) (μ.ren ls) Φ (Yt g) w:=by
 obtain⟨e3,Y⟩:=Ql B
 have E : ∀ l i,fwd ls l=some i-> ∀ n z,μ l n=some z->μ.ren ls i n=some z:=fun l i hi n z W=>by simp[Mu.ren,Dn hi,W]
 have k : ∀ (i:Nat) (o':AObj),(Yt g)[i]? = some (.obj o')-> ∃ (l:Nat) (o:AObj),ls[i]? = some l∧σ[l]? = some (.obj o)∧o.ren (fwd ls)=some o':=by
  intro i o' s
  simp only[Yt,List.getElem?_map,Option.map_eq_some_iff]at s
  obtain⟨S,u,e⟩:=s
  cases e
  have hi:i<g.length:=(List.getElem?_eq_some_iff.1 u).1
  have C:ls[i]? = some ls[i]:=List.getElem?_eq_getElem (by omega)
  have ho:os[i]? = some os[i]:=List.getElem?_eq_getElem (by omega)
  exact⟨_,_,C,D i _ _ C ho,Y i _ _ ho u⟩
 refine⟨r.phi,?_,?_,?_,?_,rfl,rfl,rfl,Nat.le_refl _,fun _ _ _=>rfl,ZM.le.refl _,Mu.le.refl _,fun b cs h=>.inl h,r.laid.mono r.Φle⟩
 ·intro i o' ho
  obtain⟨l,o,C,Z,hr⟩:=k i o' ho
  exact(Xf E (fun n=>by simp[Mu.ren,C]) (r.obj l o Z) hr).1
 ·intro i j S U H k1 X
  obtain⟨Q,J,y,N,m3⟩:=k i S k1
  obtain⟨K,M,A,O,V⟩:=k j U X
  rw[(Xf E (fun n=>by simp[Mu.ren,y]) (r.obj Q J N) m3).2,(Xf E (fun n=>by simp[Mu.ren,A]) (r.obj K M O) V).2]
  refine r.apart Q K J M ?_ N O
  rintro rfl
  have hi:=(List.getElem?_eq_some_iff.1 y).1
  have T:=(List.getElem?_eq_some_iff.1 A).1
  rw[List.getElem?_eq_getElem hi]at y
  rw[List.getElem?_eq_getElem T]at A
  rw[Option.some.injEq]at y A
  exact H ((List.getElem_inj I).1 (y.trans A.symm))
 ·intro i n F
  have:ls[i]? = none:=by
   have h:(Yt g)[i]? = none:=by
    rcases F with h|h
    ·exact h
    ·simp only[Yt,List.getElem?_map,Option.map_eq_some_iff]at h
     obtain⟨q,hq,e⟩:=h
     cases e
   simp only[Yt,List.getElem?_map,Option.map_eq_none_iff,List.getElem?_eq_none_iff]at h
   rw[List.getElem?_eq_none_iff]
   omega
  simp[Mu.ren,this]
 ·intro i o' ho
  exact .inr ⟨i,o',ho,rfl⟩
theorem a5l{f:Nat}{pre:List AV->List AObj->Bool}{val:List AV->List AObj->AV×List AObj×List AObj}(X:Ym P f pre val){vs:Array Value}{args:List AV}(Q:Good c μ Φ σ w)(W:RL μ Φ vs.toList args)
  (hr:(Hu L pre val args).run σ=some (x,σ')):Calls P f vs w fun e w'=> ∃ v,e = .returned v∧Z0 c μ Φ σ' x v w':=by
 unfold Hu at hr
 obtain⟨E,h1,h2,h3⟩:=a0w 64 hr (by simp) (by simp)
 clear hr
 simp only at h3
 generalize j:E.map (·.1)=ls at h2 h3
 generalize r:E.map (·.2)=os at h3
 have s:os.length=ls.length:=by rw[<- j,<- r];simp
 have D : ∀ (i l:Nat) o,ls[i]? = some l->os[i]? = some o->σ[l]? = some (.obj o):=by
  intro i l o A ho
  rw[<- j,List.getElem?_map,Option.map_eq_some_iff]at A
  rw[<- r,List.getElem?_map,Option.map_eq_some_iff]at ho
  obtain⟨p,N,rfl⟩:=A
  obtain⟨q,S,rfl⟩:=ho
  rw[N]at S
  cases S
  exact h1 p (List.mem_of_getElem? N)
 split at h3
 ·rename_i b h y g
  obtain⟨C,u⟩:=ZZ h3
  generalize B:val b h=q at u
  obtain⟨U,J,ext⟩:=q
  simp only at u
  split at u
  ·rename_i x' H ext' hx k F
   split at u
   ·rename_i hl2
    obtain⟨k1,V⟩:=X b h U J ext C B
    have K:=a7u Q h2 D s g
    have M:RL (μ.ren ls) Φ vs.toList b:=Eu (fun l i hi n z I=>by simp[Mu.ren,Dn hi,I]) W y
    refine(V (μ.ren ls) Φ w vs K M).mono ?_
    rintro e w' ⟨v,μ2,Φ2,rfl,O,Y⟩
    have I:(ls.zip H).map (·.1)=ls:=by rw[List.map_fst_zip];omega
    obtain⟨σ1,n1,n2,n3⟩:=Ey u (by rw[I];exact h2)
    obtain⟨σ2,o1,o2,o3⟩:=OC n1
    obtain⟨rfl,rfl⟩:=Zu o1
    have eos:=(Ql k).1
    have eob:=(Ql g).1
    obtain⟨Z,T,r3⟩:=b3x (L:=L) Q h2 D s g O (by omega) k F
     (fun i l o A ho=>n2 (l,o) (List.mem_of_getElem? (i:=i) (by rw[List.getElem?_zip_eq_some];exact⟨A,ho⟩))) (fun l A=>n3 l (by rw[I];exact A)) o2 o3
    exact⟨v,rfl,_,Φ2,Z,O.Φle,T,d2a r3 Y hx⟩
   ·exact(Zh u).elim
  ·exact(Zh u).elim
 ·exact(Zh h3).elim
theorem RL.app{cs ds:Array Value}{xs ys:List AV}(h:RL μ Φ cs.toList xs)(k:RL μ Φ ds.toList ys):RL μ Φ (cs++ds).toList (xs++ys):=by
 rw[Array.toList_append]
 exact h.append k
theorem Rc{T:ZC}(hT:Z8 P T){g:Nat}{vs:Array Value}{args:List AV}(hg:Good c μ Φ σ w)(hv:RL μ Φ vs.toList args)(hr:(a4h T L g args).run σ=some (x,σ')):
  (∃ fn,P.funcs[g]? = some fn∧fn.body.isSome=true∧(fn.name == "runtime.NumGoroutine")=false)∧Calls P g vs w fun e w'=> ∃ v,e = .returned v∧Z0 c μ Φ σ' x v w':=by
 unfold a4h at hr
 split at hr
 ·rename_i F F' hF
  exact⟨(hT g _ hF).1,b9m (hT g _ hF).2 hg hv hr⟩
 ·rename_i G G' hG
  exact⟨(hT g _ hG).1,a5l (hT g _ hG).2 hg hv hr⟩
 ·exact(Zh hr).elim
theorem a3z{T:ZC}(J:Z8 P T){o:Oper}{p:POp}(b:U8 P o.op=some p)(C:Good c μ Φ σ w)(B:YI μ Φ a.tmps env)(hr:(Xx T L env p).run σ=some (x,σ')):
  WI P (execOp a.eval o) w (Z0 c μ Φ σ' x):=by
 cases hc:p.isCall with
 | false=>
  refine d6d b hc C B ?_ (L:=L)
  cases p <;> first|exact hr|simp[POp.isCall]at hc
 | true=>
  cases p <;> simp[POp.isCall]at hc
  rename_i f xs
  obtain⟨dst,op,type,pos,after,guard⟩:=o
  simp only at b
  -- only a call of a function value is translated so
  have z : ∃ y args s,op = .call {callee:=.value y,args:=args,argTypes:=s}∧Z5 y=some f∧LC args=some xs:=by
   unfold U8 at b
   split at b
   all_goals try simp only[Option.bind_eq_some_iff,Option.map_eq_some_iff,reduceCtorEq,and_false,exists_false]at b
   all_goals first
    | (obtain⟨_,_,_,_,_,_,b⟩:=b;(repeat' split at b) <;> simp[Option.bind_eq_some_iff,Option.map_eq_some_iff]at b;done)
    | ((repeat' split at b) <;> simp[Option.bind_eq_some_iff,Option.map_eq_some_iff]at b;done)
    | skip
   rename_i K
   obtain⟨callee,args,s⟩:=K
   unfold Gw at b
   simp only at b
   split at b
   ·rename_i y
    simp only[Option.bind_eq_some_iff,Option.map_eq_some_iff]at b
    obtain⟨f2,l,xs',r,e⟩:=b
    cases e
    exact⟨y,args,s,rfl,l,r⟩
   all_goals ((repeat' split at b) <;> simp[Option.bind_eq_some_iff,Option.map_eq_some_iff]at b;done)
  obtain⟨y,args,s,rfl,I,u⟩:=z
  have l:=ZK B I
  have r:=Sa B u
  simp only[Xx]at hr
  split at hr
  ·rename_i g A
   rw[A]at l
   obtain⟨⟨fn,k1,D,k3⟩,k4⟩:=Rc J C r hr
   replace l:=Yk l
   generalize E:a.eval y=q at l
   cases l
   have e:(args.map a.eval)++ #[]=args.map a.eval:=by simp
   simp only[WI,execOp,Sem.run_bind,resolve,E,Deferred.ofValue,Sem.run_pure,Result.andThen_ok,invoke,Array.empty_append,e,Uh k1 D k3]
   exact k4
  ·rename_i g fst cap A
   rw[A]at l
   generalize E:a.eval y=q at l
   cases l with
   | fn _ cs ds _ _ hn hm h k=>
    have h1:RL μ Φ cs.toList fst:=⟨by simpa using hn,fun j v x F H=>h j v x (by simpa using F) H⟩
    have h2:RL μ Φ ds.toList cap:=⟨by simpa using hm,fun j v x F H=>k j v x (by simpa using F) H⟩
    obtain⟨⟨fn,k1,D,k3⟩,k4⟩:=Rc J C ((h1.app r).app h2) hr
    simp only[WI,execOp,Sem.run_bind,resolve,E,Deferred.ofValue,Sem.run_pure,Result.andThen_ok,invoke,Uh k1 D k3]
    exact k4
  ·exact(Zh hr).elim
end
end
def HM.runF{α:Type}:HM α->Zw->Option (α×Zw×List Nat×List Nat)
 | .ret a,σ=>some (a,σ,[],[])
 | .fail,_=>none
 | .get l k,σ=>match σ[l]? with
  | some (.obj o)=>((k o).runF σ).map fun(a,σ',R,W)=>(a,σ',l::R,W)
  | _=>none
 | .put l o k,σ=>match σ[l]? with
  | some (.obj _)=>(k.runF (σ.set l (.obj o))).map fun(a,σ',R,W)=>(a,σ',R,l::W)
  | _=>none
 | .new l o k,σ=>match σ[l]? with
  | some .fresh=>(k.runF (σ.set l (.obj o))).map fun(a,σ',R,W)=>(a,σ',R,l::W)
  | _=>none
 | .ask b k,σ=>(k b).runF σ
 | .req b k,σ=>match b with|true=>k.runF σ|false=>none
theorem HM.run_of_runF{α:Type}(m:HM α): ∀ {σ:Zw} {a:α} {e:Zw} {R W:List Nat},m.runF σ=some (a,e,R,W)->m.run σ=some (a,e):=by
 induction m with
 | ret a=>intro σ b e R W h;simp only[HM.runF,Option.some.injEq,Prod.mk.injEq]at h;simp[HM.run,h.1,h.2.1]
 | fail=>intro σ b e R W h;simp[HM.runF]at h
 | get l k ih=>
  intro σ b e R W h
  simp only[HM.runF]at h
  simp only[HM.run]
  split at h
  ·rename_i o ho
   rw[Option.map_eq_some_iff]at h
   obtain⟨⟨g,σ1,R1,W1⟩,h1,h2⟩:=h
   simp only[Prod.mk.injEq]at h2
   obtain⟨rfl,rfl,_,_⟩:=h2
   try simp only[ho]
   exact ih o h1
  ·cases h
 | put l o k ih=>
  intro σ b e R W h
  simp only[HM.runF]at h
  simp only[HM.run]
  split at h
  ·rename_i o' ho
   rw[Option.map_eq_some_iff]at h
   obtain⟨⟨g,σ1,R1,W1⟩,h1,h2⟩:=h
   simp only[Prod.mk.injEq]at h2
   obtain⟨rfl,rfl,_,_⟩:=h2
   try simp only[ho]
   exact ih h1
  ·cases h
 | new l o k ih=>
  intro σ b e R W h
  simp only[HM.runF]at h
  simp only[HM.run]
  split at h
  ·rename_i ho
   rw[Option.map_eq_some_iff]at h
   obtain⟨⟨g,σ1,R1,W1⟩,h1,h2⟩:=h
   simp only[Prod.mk.injEq]at h2
   obtain⟨rfl,rfl,_,_⟩:=h2
   try simp only[ho]
   exact ih h1
  ·cases h
 | ask b k ih=>intro σ a e R W h;exact ih b h
 | req b k ih=>
  intro σ a e R W h
  cases b
  ·simp[HM.runF]at h
  ·exact ih h
theorem HM.local_{α:Type}(m:HM α): ∀ {σ:Zw} {a:α} {r:Zw} {R W:List Nat},m.runF σ=some (a,r,R,W) ->
  (∀ l,l ∉ W->r[l]? = σ[l]?)∧r.length=σ.length ∧
  ∀ τ:Zw,τ.length=σ.length->(∀ l,l∈R∨l∈W->τ[l]? = σ[l]?)-> ∃ s,m.runF τ=some (a,s,R,W)∧(∀ l,l∈W->s[l]? = r[l]?)∧(∀ l,l ∉ W->s[l]? = τ[l]?):=by
 induction m with
 | ret a=>
  intro σ b r R W h
  simp only[HM.runF,Option.some.injEq,Prod.mk.injEq]at h
  obtain⟨rfl,rfl,rfl,rfl⟩:=h
  exact⟨fun _ _=>rfl,rfl,fun τ _ _=>⟨τ,rfl,fun l A=>by simp at A,fun _ _=>rfl⟩⟩
 | fail=>intro σ b r R W h;simp[HM.runF]at h
 | get l k ih=>
  intro σ b r R W h
  simp only[HM.runF]at h
  split at h
  ·rename_i o ho
   rw[Option.map_eq_some_iff]at h
   obtain⟨⟨z,σ1,R1,W1⟩,h1,h2⟩:=h
   simp only[Prod.mk.injEq]at h2
   obtain⟨rfl,rfl,rfl,rfl⟩:=h2
   obtain⟨k1,y,k3⟩:=ih o h1
   refine⟨k1,y,fun τ u j=> ?_⟩
   obtain⟨s,m1,m2,m3⟩:=k3 τ u (fun l' g=>j l' (g.imp (fun h=>by simp[h]) id))
   refine⟨s,?_,m2,m3⟩
   simp only[HM.runF]
   rw[j l (.inl (by simp)),ho]
   simp[m1]
  ·cases h
 | put l o k ih=>
  intro σ b r R W h
  simp only[HM.runF]at h
  split at h
  ·rename_i o' ho
   rw[Option.map_eq_some_iff]at h
   obtain⟨⟨z,σ1,R1,W1⟩,h1,h2⟩:=h
   simp only[Prod.mk.injEq]at h2
   obtain⟨rfl,rfl,rfl,rfl⟩:=h2
   obtain⟨k1,y,k3⟩:=ih h1
   refine⟨fun l' g=> ?_,by simpa using y,fun τ u j=> ?_⟩
   ·simp only[List.mem_cons,not_or]at g
    rw[k1 l' g.2,ZE g.1]
   ·have q:=j l (.inr (by simp))
    obtain⟨s,m1,m2,m3⟩:=k3 (τ.set l (.obj o)) (by simpa using u) (fun l' g=>by
     by_cases e:l'=l
     ·subst e;rw[ZI (q.trans ho),ZI ho]
     ·rw[ZE e,ZE e]
      exact j l' (g.imp id (fun h=>by simp[h])))
    refine⟨s,?_,?_,?_⟩
    ·simp only[HM.runF]
     rw[q,ho]
     simp[m1]
    ·intro l' g
     by_cases hw:l'∈W1
     ·exact m2 l' hw
     ·simp only[List.mem_cons,hw,or_false]at g
      subst g
      rw[m3 l' hw,k1 l' hw,ZI (q.trans ho),ZI ho]
    ·intro l' g
     simp only[List.mem_cons,not_or]at g
     rw[m3 l' g.2,ZE g.1]
  ·cases h
 | new l o k ih=>
  intro σ b r R W h
  simp only[HM.runF]at h
  split at h
  ·rename_i ho
   rw[Option.map_eq_some_iff]at h
   obtain⟨⟨z,σ1,R1,W1⟩,h1,h2⟩:=h
   simp only[Prod.mk.injEq]at h2
   obtain⟨rfl,rfl,rfl,rfl⟩:=h2
   obtain⟨k1,y,k3⟩:=ih h1
   refine⟨fun l' g=> ?_,by simpa using y,fun τ u j=> ?_⟩
   ·simp only[List.mem_cons,not_or]at g
    rw[k1 l' g.2,ZE g.1]
   ·have q:=j l (.inr (by simp))
    obtain⟨s,m1,m2,m3⟩:=k3 (τ.set l (.obj o)) (by simpa using u) (fun l' g=>by
     by_cases e:l'=l
     ·subst e;rw[ZI (q.trans ho),ZI ho]
     ·rw[ZE e,ZE e]
      exact j l' (g.imp id (fun h=>by simp[h])))
    refine⟨s,?_,?_,?_⟩
    ·simp only[HM.runF]
     rw[q,ho]
     simp[m1]
    ·intro l' g
     by_cases hw:l'∈W1
     ·exact m2 l' hw
     ·simp only[List.mem_cons,hw,or_false]at g
      subst g
      rw[m3 l' hw,k1 l' hw,ZI (q.trans ho),ZI ho]
    ·intro l' g
     simp only[List.mem_cons,not_or]at g
     rw[m3 l' g.2,ZE g.1]
  ·cases h
 | ask b k ih=>intro σ a r R W h;exact ih b h
 | req b k ih=>
  intro σ a r R W h
  cases b
  ·simp[HM.runF]at h
  ·exact ih h
def Sv(xs ys:List Nat):Bool:=xs.all fun x=> !ys.contains x
theorem Gy{xs ys:List Nat}(h:Sv xs ys=true){l:Nat}(h1:l∈xs)(h2:l∈ys):False:=by
 have:=List.all_eq_true.1 h l h1
 simp at this
 exact this h2
theorem HM.comm{α β:Type}{m:HM α}{n:HM β}{σ A r:Zw}{a:α}{b:β}{y k u j:List Nat}(h1:m.runF σ=some (a,A,y,k))(h2:n.runF A=some (b,r,u,j))
  (D:Sv k u=true) (s:Sv k j=true) (H:Sv y j=true) : ∃ τ,n.runF σ=some (b,τ,u,j)∧m.runF τ=some (a,r,y,k):=by
 obtain⟨z,I,C⟩:=HM.local_ m h1
 obtain⟨B,q2,F⟩:=HM.local_ n h2
 obtain⟨τ,t1,t2,t3⟩:=F σ I.symm (fun l g=>(z l (fun q=>by
  rcases g with g|g
  ·exact Gy D q g
  ·exact Gy s q g)).symm)
 have E:=(HM.local_ n t1).2.1
 obtain⟨τ',u1,u2,u3⟩:=C τ E (fun l g=>t3 l (fun q=>by
  rcases g with g|g
  ·exact Gy H g q
  ·exact Gy s g q))
 refine⟨τ,t1,?_⟩
 have:τ'=r:=by
  apply List.ext_getElem?
  intro l
  by_cases hw1:l∈k
  ·have e:l ∉ j:=fun h=>Gy s hw1 h
   rw[u2 l hw1,B l e]
  ·rw[u3 l hw1]
   by_cases e:l∈j
   ·rw[t2 l e]
   ·rw[t3 l e,B l e,z l hw1]
 rw[<- this]
 exact u1
structure PI where
 dst:Option Nat
 op:POp
 L:Nat
 gd:Option (Nat×Bool)
def Y2(env:List AV):Option (Nat×Bool)->Option Bool
 | none=>some true
 | some (s,b)=>match env[s]? with
  | some (.pv (.bool v))=>some (v==b)
  | some .undef=>some false
  | _=>none
def Yl(env:List AV)(d:Option Nat)(v:AV):List AV:=
 match d with
 | some d=>env.set d v
 | none=>env
def XB(T:ZC)(a:Nat)(p:PI)(st:St):Option (St×List Nat×List Nat):=
 match Y2 st.env p.gd with
 | none=>none
 | some false=>some (⟨Yl st.env p.dst .undef,st.heap⟩,[],[])
 | some true=>((Xx T (a+p.L) st.env p.op).runF st.heap).map fun(v,σ,R,W)=>(⟨Yl st.env p.dst v,σ⟩,R,W)
def IOp.slot:IOp->List Nat
 | .t n=>[n]
 | .c _=>[]
def Jq(x:Option IOp):List Nat:=x.toList.flatMap IOp.slot
def POp.slots:POp->List Nat
 | .mv x | .box _ x | .load _ _ x | .nilchk x | .un _ x | .conv _ x | .faddr _ x | .field _ _ _ x | .extract x _ | .len _ x | .strid x | .sbytes x | .sslice x | .bstr x=>x.slot
 | .pick a b c | .mapupd _ a b c=>a.slot++b.slot++c.slot
 | .alloc _ | .mkmap=>[]
 | .build _ ps=>ps.flatMap fun q=>q.2.2.slot
 | .bslice _ _ _ _ ps=>ps.flatMap fun q=>q.2.slot
 | .store _ a b | .bin _ _ a b | .mm _ a b | .mksl _ _ _ _ a b | .iaddr _ a b | .index a b | .indexA _ _ a b | .iaddrA _ _ a b | .lookup _ _ _ _ a b | .append _ _ _ a b | .appz _ _ _ _ a b | .apps _ _ _ a b=>a.slot++b.slot
 | .mkfn _ xs ys=>(xs++ys).flatMap IOp.slot
 | .strslc x lo hi=>x.slot++Jq lo++Jq hi
 | .slc _ x lo hi mx=>x.slot++Jq lo++Jq hi++Jq mx
 | .call f xs=>f.slot++xs.flatMap IOp.slot
def PI.looks(p:PI):List Nat:=p.op.slots++(match p.gd with|some (s,_)=>[s]|none=>[])
theorem Yb{env:List AV}{d:Option Nat}{v:AV}{x:IOp}(h : ∀ n,d=some n->n ∉ x.slot):ev (Yl env d v) x=ev env x:=by
 cases d with
 | none=>rfl
 | some d=>
  cases x with
  | c p=>rfl
  | t n=>
   have a:d≠n:=by
    have:=h d rfl
    simpa [IOp.slot]using this
   simp[ev,Yl,List.getD,a]
theorem Hr{env:List AV}{d:Option Nat}{v:AV}{m:Nat}{x:Option IOp}(h : ∀ n,d=some n->n ∉ Jq x):Sm (Yl env d v) m x=Sm env m x:=by
 cases x with
 | none=>rfl
 | some x=>
  simp only[Sm]
  rw[Yb (fun n hn=>by have:=h n hn;simpa [Jq]using this)]
theorem PT{env:List AV}{d:Option Nat}{v:AV}{xs:List IOp}(h : ∀ n,d=some n->n ∉ xs.flatMap IOp.slot):xs.map (ev (Yl env d v))=xs.map (ev env):=by
 apply List.map_congr_left
 intro x a
 exact Yb (fun n hn hs=>h n hn (List.mem_flatMap.2 ⟨x,a,hs⟩))
theorem a5x{T:ZC}{L:Nat}{env:List AV}{d:Option Nat}{v:AV}{p:POp}(h : ∀ n,d=some n->n ∉ p.slots):Xx T L (Yl env d v) p=Xx T L env p:=by
 cases p with
 | build z ps=>
  have e:(ps.map fun(x:Nat×Nat×IOp)=>(x.1,x.2.1,ev (Yl env d v) x.2.2))=ps.map fun(x:Nat×Nat×IOp)=>(x.1,x.2.1,ev env x.2.2):=by
   apply List.map_congr_left
   intro q g
   rw[Yb (fun n hn hs=>h n hn (List.mem_flatMap.2 ⟨q,g,hs⟩))]
  simp only[Xx,YO]
  rw[e]
 | bslice ty sz n z ps=>
  have e:(ps.map fun(x:Nat×IOp)=>ev (Yl env d v) x.2)=ps.map fun(x:Nat×IOp)=>ev env x.2:=by
   apply List.map_congr_left
   intro q g
   rw[Yb (fun n hn hs=>h n hn (List.mem_flatMap.2 ⟨q,g,hs⟩))]
  simp only[Xx,YO]
  rw[e]
 | mkfn f xs ys=>
  have h1:xs.map (ev (Yl env d v))=xs.map (ev env):=PT (fun n hn hs=>h n hn (by simp only[POp.slots,List.flatMap_append,List.mem_append];exact .inl hs))
  have h2:ys.map (ev (Yl env d v))=ys.map (ev env):=PT (fun n hn hs=>h n hn (by simp only[POp.slots,List.flatMap_append,List.mem_append];exact .inr hs))
  simp only[Xx,YO]
  cases xs with
  | nil=>
   cases ys with
   | nil=>rfl
   | cons y ys=>show HM.ret (AV.fn f _ _)=HM.ret (AV.fn f _ _);rw[h1,h2]
  | cons x xs=>show HM.ret (AV.fn f _ _)=HM.ret (AV.fn f _ _);rw[h1,h2]
 | strslc x lo hi=>
  simp only[POp.slots,List.mem_append,not_or]at h
  simp only[Xx,YO]
  rw[Yb (fun n hn=>(h n hn).1.1)]
  simp only[Hr (fun n hn=>(h n hn).1.2),Hr (fun n hn=>(h n hn).2)]
 | slc sz x lo hi mx=>
  simp only[POp.slots,List.mem_append,not_or]at h
  simp only[Xx,YO]
  rw[Yb (fun n hn=>(h n hn).1.1.1)]
  simp only[Hr (fun n hn=>(h n hn).1.1.2),Hr (fun n hn=>(h n hn).1.2)]
  cases mx with
  | none=>rfl
  | some m=>
   have : ∀ k,Sm (Yl env d v) k (some m)=Sm env k (some m):=fun k=>Hr (fun n hn=>(h n hn).2)
   simp only[this]
 | call f xs=>
  simp only[POp.slots,List.mem_append,not_or]at h
  simp only[Xx]
  rw[Yb (fun n hn=>(h n hn).1),PT (fun n hn=>(h n hn).2)]
 | pick a b c=>
  simp only[POp.slots,List.mem_append,not_or]at h
  simp only[Xx,YO]
  rw[Yb (fun n hn=>(h n hn).1.1),Yb (x:=b) (fun n hn=>(h n hn).1.2),Yb (x:=c) (fun n hn=>(h n hn).2)]
 | mapupd st a b c=>
  simp only[POp.slots,List.mem_append,not_or]at h
  simp only[Xx,YO]
  rw[Yb (fun n hn=>(h n hn).1.1),Yb (x:=b) (fun n hn=>(h n hn).1.2),Yb (x:=c) (fun n hn=>(h n hn).2)]
 | alloc z=>rfl
 | mkmap=>rfl
 | store n a b=>
  simp only[POp.slots,List.mem_append,not_or]at h
  simp only[Xx,YO]
  rw[Yb (x:=a) (fun n hn=>(h n hn).1),Yb (x:=b) (fun n hn=>(h n hn).2)]
 | bin kd op a b=>
  simp only[POp.slots,List.mem_append,not_or]at h
  simp only[Xx,YO]
  rw[Yb (x:=a) (fun n hn=>(h n hn).1),Yb (x:=b) (fun n hn=>(h n hn).2)]
 | mm mx a b=>
  simp only[POp.slots,List.mem_append,not_or]at h
  simp only[Xx,YO]
  rw[Yb (x:=a) (fun n hn=>(h n hn).1),Yb (x:=b) (fun n hn=>(h n hn).2)]
 | mksl ty sz by_ z a b=>
  simp only[POp.slots,List.mem_append,not_or]at h
  simp only[Xx,YO]
  rw[Yb (x:=a) (fun n hn=>(h n hn).1),Yb (x:=b) (fun n hn=>(h n hn).2)]
 | iaddr sz a b=>
  simp only[POp.slots,List.mem_append,not_or]at h
  simp only[Xx,YO]
  rw[Yb (x:=a) (fun n hn=>(h n hn).1),Yb (x:=b) (fun n hn=>(h n hn).2)]
 | index a b=>
  simp only[POp.slots,List.mem_append,not_or]at h
  simp only[Xx,YO]
  rw[Yb (x:=a) (fun n hn=>(h n hn).1),Yb (x:=b) (fun n hn=>(h n hn).2)]
 | indexA n sz a b=>
  simp only[POp.slots,List.mem_append,not_or]at h
  simp only[Xx,YO]
  rw[Yb (x:=a) (fun n hn=>(h n hn).1),Yb (x:=b) (fun n hn=>(h n hn).2)]
 | iaddrA n sz a b=>
  simp only[POp.slots,List.mem_append,not_or]at h
  simp only[Xx,YO]
  rw[Yb (x:=a) (fun n hn=>(h n hn).1),Yb (x:=b) (fun n hn=>(h n hn).2)]
 | lookup st sh z ok a b=>
  simp only[POp.slots,List.mem_append,not_or]at h
  simp only[Xx,YO]
  rw[Yb (x:=a) (fun n hn=>(h n hn).1),Yb (x:=b) (fun n hn=>(h n hn).2)]
 | apps ty sz by_ a b=>
  simp only[POp.slots,List.mem_append,not_or]at h
  simp only[Xx,YO]
  rw[Yb (x:=a) (fun n hn=>(h n hn).1),Yb (x:=b) (fun n hn=>(h n hn).2)]
 | appz ty sz by_ z a b=>
  simp only[POp.slots,List.mem_append,not_or]at h
  simp only[Xx,YO]
  rw[Yb (x:=a) (fun n hn=>(h n hn).1),Yb (x:=b) (fun n hn=>(h n hn).2)]
 | append ty sz by_ a b=>
  simp only[POp.slots,List.mem_append,not_or]at h
  simp only[Xx,YO]
  rw[Yb (x:=a) (fun n hn=>(h n hn).1),Yb (x:=b) (fun n hn=>(h n hn).2)]
 | _=>
  simp only[POp.slots]at h
  simp only[Xx,YO]
  rw[Yb h]
section
abbrev FP:=Nat×List Nat×List Nat
def runF(T:ZC)(a:Nat):List (Nat×PI)->St->Option (St×List FP)
 | [],st=>some (st,[])
 | (i,p)::r,st=>(XB T a p st).bind fun(st',R,W)=>(runF T a r st').map fun(st'',tr)=>(st'',(i,R,W)::tr)
def Gj(T:ZC)(a:Nat)(p:PI)(st:St):Option St:=
 match Y2 st.env p.gd with
 | none=>none
 | some false=>some ⟨Yl st.env p.dst .undef,st.heap⟩
 | some true=>((Xx T (a+p.L) st.env p.op).run st.heap).map fun(v,σ)=>⟨Yl st.env p.dst v,σ⟩
def VX(T:ZC)(a:Nat):List PI->St->Option St
 | [],st=>some st
 | p::r,st=>(Gj T a p st).bind (VX T a r)
theorem Jz{T:ZC}{a:Nat}{p:PI}{st st':St}{R W:List Nat}(h:XB T a p st=some (st',R,W)):Gj T a p st=some st':=by
 unfold XB at h
 unfold Gj
 split at h
 ·cases h
 ·rename_i b
  simp only[Option.some.injEq,Prod.mk.injEq]at h
  simp[b,h.1]
 ·rename_i b
  rw[Option.map_eq_some_iff]at h
  obtain⟨⟨v,σ,R1,W1⟩,h1,h2⟩:=h
  simp only[Prod.mk.injEq]at h2
  simp[b,HM.run_of_runF _ h1,h2.1]
def fpOK(x y:FP):Bool:=Sv x.2.2 y.2.1&&Sv x.2.2 y.2.2&&Sv x.2.1 y.2.2
def apartP(p q:PI):Bool:=
 (match p.dst with|some d=> !q.looks.contains d&&q.dst != some d|none=>true)&&(match q.dst with|some d=> !p.looks.contains d|none=>true)
theorem FZ{p q:PI}(h:apartP p q=true):(∀ d,p.dst=some d->d ∉ q.looks)∧(∀ d,p.dst=some d->q.dst≠some d)∧(∀ d,q.dst=some d->d ∉ p.looks):=by
 refine⟨fun d hd=> ?_,fun d hd=> ?_,fun d hd=> ?_⟩ <;> simp[apartP,hd]at h
 ·exact h.1.1
 ·exact h.1.2
 ·exact h.2
theorem Mf{env:List AV}{d:Option Nat}{v:AV}{g:Option (Nat×Bool)}(h : ∀ n,d=some n-> ∀ s b,g=some (s,b)->n≠s):Y2 (Yl env d v) g=Y2 env g:=by
 cases g with
 | none=>rfl
 | some g=>
  obtain⟨s,b⟩:=g
  cases d with
  | none=>rfl
  | some d=>
   have:=h d rfl s b rfl
   simp[Y2,Yl,List.getElem?_set_ne this]
theorem b4p{env:List AV}{d e:Option Nat}{u v:AV}(h : ∀ n,d=some n->e≠some n):Yl (Yl env d u) e v=Yl (Yl env e v) d u:=by
 cases d with
 | none=>rfl
 | some d=>
  cases e with
  | none=>rfl
  | some e=>
   have:d≠e:=fun x=>h d rfl (by rw[x])
   simp only[Yl]
   exact List.set_comm u v this
theorem DN{p:PI}{n s:Nat}{b:Bool}(h:n ∉ p.looks)(a:p.gd=some (s,b)):n≠s:=by
 intro e
 subst e
 apply h
 simp[PI.looks,a]
theorem Lx{p:PI}{n:Nat}(h:n ∉ p.looks):n ∉ p.op.slots:=by
 intro e
 exact h (by simp[PI.looks,e])
theorem e6n{T:ZC}{g:Nat}{p q:PI}{st k l:St}{D z B r:List Nat}(j:XB T g p st=some (k,D,z))(a:XB T g q k=some (l,B,r))(ha:apartP p q=true)
  (M:Sv z B=true) (K:Sv z r=true) (N:Sv D r=true) : ∃ st',XB T g q st=some (st',B,r)∧XB T g p st'=some (l,D,z):=by
 obtain⟨H,O,F⟩:=FZ ha
 -- the slots
 have E : ∀ v,Y2 (Yl st.env p.dst v) q.gd=Y2 st.env q.gd:=fun v=>Mf (fun n hn s b C=>DN (H n hn) C)
 have A : ∀ v,Y2 (Yl st.env q.dst v) p.gd=Y2 st.env p.gd:=fun v=>Mf (fun n hn s b C=>DN (F n hn) C)
 have J : ∀ v L,Xx T L (Yl st.env p.dst v) q.op=Xx T L st.env q.op:=fun v L=>a5x (fun n hn=>Lx (H n hn))
 have I : ∀ v L,Xx T L (Yl st.env q.dst v) p.op=Xx T L st.env p.op:=fun v L=>a5x (fun n hn=>Lx (F n hn))
 have y : ∀ u v,Yl (Yl st.env q.dst v) p.dst u=Yl (Yl st.env p.dst u) q.dst v:=fun u v=>(b4p (fun n hn=>O n hn)).symm
 unfold XB at j
 split at j
 ·cases j
 ·rename_i h
  simp only[Option.some.injEq,Prod.mk.injEq]at j
  obtain⟨rfl,rfl,rfl⟩:=j
  unfold XB at a
  simp only[E]at a
  split at a
  ·cases a
  ·rename_i e
   simp only[Option.some.injEq,Prod.mk.injEq]at a
   obtain⟨rfl,rfl,rfl⟩:=a
   exact⟨⟨Yl st.env q.dst .undef,st.heap⟩,by simp[XB,e],by simp[XB,A,h,y]⟩
  ·rename_i e
   rw[Option.map_eq_some_iff]at a
   obtain⟨⟨v,σ,R,W⟩,h1,h2⟩:=a
   simp only[Prod.mk.injEq]at h2
   obtain⟨rfl,rfl,rfl⟩:=h2
   rw[J]at h1
   exact⟨⟨Yl st.env q.dst v,σ⟩,by simp[XB,e,h1],by simp[XB,A,h,y]⟩
 ·rename_i h
  rw[Option.map_eq_some_iff]at j
  obtain⟨⟨u,σ1,R,W⟩,h1,h2⟩:=j
  simp only[Prod.mk.injEq]at h2
  obtain⟨rfl,rfl,rfl⟩:=h2
  unfold XB at a
  simp only[E]at a
  split at a
  ·cases a
  ·rename_i e
   simp only[Option.some.injEq,Prod.mk.injEq]at a
   obtain⟨rfl,rfl,rfl⟩:=a
   exact⟨⟨Yl st.env q.dst .undef,st.heap⟩,by simp[XB,e],by simp[XB,A,h,I,h1,y]⟩
  ·rename_i e
   rw[Option.map_eq_some_iff]at a
   obtain⟨⟨v,σ2,R',W'⟩,k1,k2⟩:=a
   simp only[Prod.mk.injEq]at k2
   obtain⟨rfl,rfl,rfl⟩:=k2
   rw[J]at k1
   obtain⟨τ,t1,t2⟩:=HM.comm h1 k1 M K N
   exact⟨⟨Yl st.env q.dst v,τ⟩,by simp[XB,e,t1],by simp[XB,A,h,I,t2,y]⟩
theorem d2t{T:ZC}{e i:Nat}{p:PI}{B:List (Nat×PI)}{dep:Nat->Nat->Bool}: ∀ (A:List (Nat×PI)) {st l:St} {s:List FP},runF T e (A++(i,p)::B) st=some (l,s) ->
  (∀ q∈A,dep q.1 i=false∧apartP q.2 p=true)->s.Pairwise (fun x y=>dep x.1 y.1=true∨fpOK x y=true) ->
  ∃ b R W g,XB T e p st=some (b,R,W)∧runF T e (A++B) b=some (l,g)∧g.Sublist s∧(i,R,W)∈s:=by
 intro A
 induction A with
 | nil=>
  intro st l s h _ _
  simp only[List.nil_append,runF,Option.bind_eq_some_iff,Option.map_eq_some_iff]at h
  obtain⟨⟨b,R,W⟩,h1,⟨C,u⟩,h2,h3⟩:=h
  simp only[Prod.mk.injEq]at h3
  obtain⟨rfl,rfl⟩:=h3
  exact⟨b,R,W,u,h1,h2,List.sublist_cons_self _ _,by simp⟩
 | cons a A ih=>
  intro st l s h F r
  obtain⟨j,q⟩:=a
  simp only[List.cons_append,runF,Option.bind_eq_some_iff,Option.map_eq_some_iff]at h
  obtain⟨⟨b,R1,W1⟩,h1,⟨C,u⟩,h2,h3⟩:=h
  simp only[Prod.mk.injEq]at h3
  obtain⟨rfl,rfl⟩:=h3
  rw[List.pairwise_cons]at r
  obtain⟨st3,R,W,g,k1,J,k3,E⟩:=ih h2 (fun z I=>F z (by simp[I])) r.2
  have D:=F (j,q) (by simp)
  have k:=(r.1 (i,R,W) E).resolve_left (by simp only at D ⊢;simp[D.1])
  simp only[fpOK,Bool.and_eq_true]at k
  obtain⟨st',H,K⟩:=e6n h1 k1 D.2 k.1.1 k.1.2 k.2
  refine⟨st',R,W,(j,R1,W1)::g,H,?_,List.Sublist.cons_cons _ k3,by simp[E]⟩
  simp[runF,K,J]
def WW(P:Program)(ops:Array Oper)(L:Nat)(o:Oper):Option PI:=
 match o.guard with
 | none=>(U8 P o.op).map fun p=>⟨o.dst,p,L,none⟩
 | some (j,b)=>((ops[j]?).bind (·.dst)).bind fun s=>(U8 P o.op).map fun p=>⟨o.dst,p,L,some (s,b)⟩
section
variable {P:Program} {c:Ctx} {T:ZC}
theorem Wl{μ:Mu}{Φ:ZM}{a:Act}{env:List AV}{d:Option Nat}{u:Value}{v:AV}(h:YI μ Φ a.tmps env)(l:R μ Φ u v):YI μ Φ (a.put d u).tmps (Yl env d v):=by
 cases d with
 | none=>exact h
 | some d=>
  refine⟨by have:=h.1;simpa [Act.put,Yl]using this,?_⟩
  intro j x y g b
  simp only[Act.put,Array.getElem?_toList]at g
  simp only[Yl]at b
  by_cases hjd:d=j
  ·subst hjd
   have k:d<env.length:=by
    have:=(List.getElem?_eq_some_iff.1 b).1
    simpa using this
   have e:d<a.tmps.size:=by have:=h.1;simp at this;omega
   rw[List.getElem?_set,if_pos rfl,if_pos k]at b
   rw[Array.getElem?_setIfInBounds_self_of_lt e]at g
   cases g
   cases b
   exact l
  ·rw[List.getElem?_set_ne hjd]at b
   rw[Array.getElem?_setIfInBounds_ne hjd]at g
   exact h.2 j x y (by simpa using g) b
theorem Yw(a:Act)(d:Option Nat)(v:Value):(a.put d v).defers=a.defers:=by cases d <;> rfl
theorem CG{μ:Mu}{Φ:ZM}{ops:Array Oper}{o:Oper}{L:Nat}{p:PI}{a:Act}{env:List AV}{b:Bool}(g:WW P ops L o=some p)(y:YI μ Φ a.tmps env)(e:Y2 env p.gd=some b):Region.wanted o (yielded ops a.tmps)=b:=by
 unfold WW at g
 split at g
 ·rename_i l
  rw[Option.map_eq_some_iff]at g
  obtain⟨q,z,rfl⟩:=g
  simp[Y2]at e
  simp[Region.wanted,l,e]
 ·rename_i j bb l
  simp only[Option.bind_eq_some_iff,Option.map_eq_some_iff]at g
  obtain⟨s,⟨o',k,hs⟩,q,z,rfl⟩:=g
  simp only[Y2]at e
  simp only[Region.wanted,l,yielded,k,Option.bind_some,hs]
  split at e
  ·rename_i v r
   cases e
   obtain⟨u,hu,h⟩:=y.at_ r
   have h:=Yk h
   cases h
   have:a.tmps[s]? = some (.bool v):=by simpa using hu
   simp[this]
  ·rename_i r
   cases e
   obtain⟨u,hu,h⟩:=y.at_ r
   cases h
   have:a.tmps[s]? = some Go.undef:=by simpa using hu
   rw[this]
   simp[Go.undef]
  ·cases e
theorem Lh(B:Z8 P T){ops:Array Oper}{Q:Exit->Act->World->Prop}{i L k:Nat}{o:Oper}{p:PI}{K:Act->World->Prop}{st st':St}{a:Act}{w:World}(ho:ops[i]? = some o)(j:WW P ops L o=some p)
  (hr:XL c st a w) (hs:Gj T k p st=some st') (z : ∀ a' w',XL c st' a' w'->K a' w'):wpOp P ops Q i K a w:=by
 obtain⟨μ,Φ,hg,he,hd⟩:=hr
 have r : ∃ q,U8 P o.op=some q∧p.op=q∧p.dst=o.dst:=by
  unfold WW at j
  split at j
  ·rw[Option.map_eq_some_iff]at j
   obtain⟨q,l,rfl⟩:=j
   exact⟨q,l,rfl,rfl⟩
  ·simp only[Option.bind_eq_some_iff,Option.map_eq_some_iff]at j
   obtain⟨s,_,q,l,rfl⟩:=j
   exact⟨q,l,rfl,rfl⟩
 obtain⟨q,l,C,A⟩:=r
 unfold wpOp
 simp only[ho]
 unfold Gj at hs
 split at hs
 ·cases hs
 ·rename_i y
  cases hs
  rw[CG j he y]
  simp only[Bool.false_eq_true,if_false]
  refine z _ _ ⟨μ,Φ,hg,?_,by rw[Yw];exact hd⟩
  rw[<- A]
  exact Wl he .undef
 ·rename_i y
  rw[Option.map_eq_some_iff]at hs
  obtain⟨⟨v,σ⟩,h1,rfl⟩:=hs
  rw[CG j he y]
  simp only[if_true]
  left
  rw[C]at h1
  have b:=a3z B l hg he h1
  have fin : ∀ u w',Z0 c μ Φ σ v u w'->K (a.put o.dst u) w':=by
   rintro u w' ⟨μ',Φ',k1,k2,k3,k4⟩
   refine z _ _ ⟨μ',Φ',k3,?_,by rw[Yw];exact hd⟩
   rw[<- A]
   exact Wl (he.mono k1 k2) k4
  unfold Oper.wp
  unfold WI at b
  cases g:(execOp a.eval o).run P w with
  | halt h w'=>rw[g]at b;exact b.elim
  | ok n w'=>
   rw[g]at b
   cases n <;> simp only at b
   ·exact fin _ _ b
   ·exact fin _ _ b
   ·refine Calls.mono b ?_
    rintro e w'' ⟨u,rfl,hu⟩
    exact fin _ _ hu
   all_goals exact b.elim
theorem a9v(u:Z8 P T){ops:Array Oper}{Q:Exit->Act->World->Prop}{b:Nat}{e:St}(s : ∀ a w,XL c e a w->Q .normal a w): ∀ (l:List (Nat×PI)) (st:St) (a:Act) (w:World),
  (∀ q∈l,∃ o L,ops[q.1]? = some o∧WW P ops L o=some q.2)->XL c st a w->VX T b (l.map (·.2)) st=some e->wpOps P ops Q (l.map (·.1)) a w:=by
 intro l
 induction l with
 | nil=>
  intro st a w _ hr h
  simp[VX]at h
  subst h
  exact s a w hr
 | cons q l ih=>
  intro st a w k hr h
  simp only[List.map_cons,VX,Option.bind_eq_some_iff]at h
  obtain⟨g,h1,h2⟩:=h
  obtain⟨o,L,ho,y⟩:=k q (by simp)
  rw[List.map_cons,wpOps_cons]
  exact Lh u ho y hr h1 (fun a' w' j=>ih g a' w' (fun z r=>k z (by simp[r])) j h2)
end
end
end Go.Pl
