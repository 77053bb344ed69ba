/-
  Texts of mine that belong together (packed by pack.py), for every input: Glob, PlA, PlB, PlC, PlD, PlE, PlF, PlG, PlH, PlI, PlJ, PlK, PlL, PlM, PlNx, PlN, PlV, PlW, PlO, PlP, PlQ, PlR, PlS.
-/
import Derived.Below
import Derived.Laws.CopyRow
import Derived.Laws.Concat
import Derived.Laws.AppendOwn
import Derived.Laws.MakeOwn
import Derived.WalkSpells
import Derived.Laws.StructEq
import Derived.ArgAppend
import Derived.Lib.AppendStr
import Derived.Lib.ConvBytes
import Derived.Laws.BytesString
import Derived.Laws.BytesArg
import Derived.Laws.IdiomStrings
import Derived.Orders
open Array renaming getElem?_eq_getElem->Ik,getD_eq_getD_getElem?->Iq,getElem?_eq_some_iff->Ir,getElem?_setIfInBounds_ne->aC,getElem?_setIfInBounds_self_of_lt->aO,getElem?_toList->ah,getElem?_modify->ai,toList_zipIdx->bB,foldl_toList->bJ,getElem?_map->bK,toList_setIfInBounds->bN,getElem?_eq_none->bv,range->cu,length_toList->dS,toList_push->dz,all_eq_true->eF
open BitVec renaming ofInt->I8
open Bool renaming and_eq_true->Ie,false_eq_true->IA,or_eq_true->au,not_eq_true'->eD
open Go renaming undef->aL,sizeOf->dw
open Go.Builtin renaming append_->IX,len_->aB,lenOf->dN,firstCells->dn,max_->fH,min_->fI
open Go.ByteArray renaming toList_eq->bA
open Go.Instr renaming sliceBounds->IM,findNow->IQ,indexAt->aD,sureAddr->aK,sliceAt->aN,checkKey->bE,index->bI,fieldAt->bM,findKey->bO,loadAt->bT,buildSlice->bX,mapUpdate->bu,slice->cO,build->cZ,sameBits->dB,fill->dF,extract->dK,storeAt->dL,sameNow->dM,lookup->dZ,keyThatStays->di,field->eH,sliceBound->eY,alloc->fP,box->fe
open Go.Lib renaming bytesWorld->bF,bytesCells->dC,bytesWorld_at_old->dE
open Go.Op renaming equalIn->aF,equal->bD,bytesLess->bQ,intArith->bz,eqFields->cB,intDiv->fZ
open Go.Region renaming binds->ax,ready->bZ,wanted->dQ
open Go.Result renaming andThen_ok->Il
open Go.Sem renaming run_bind->Ig,run_pure->IW,run->fD
open Go.Value renaming cells->aH,int->af,oneCell'->fC
open Go.World renaming freeze->aV,cell?->bH,alloc_eq->dD,drew_eq->dP,alloc->eP,drew->fB,frozen?->fF
open List renaming getElem?_eq_getElem->Ia,getElem?_eq_some_iff->Ic,mem_append->Ij,getElem?_map->Im,getElem?_take->Ip,mem_of_getElem?->Iu,getElem?_drop->Iw,replicate->Iy,mem_of_mem_drop->IB,mem_of_mem_take->IE,map_cons->IG,getElem?_append_left->IK,length_cons->IL,mem_map->IP,mem_cons->IR,length_append->IU,ext_getElem?->IY,getElem_of_mem->IZ,take_of_length_le->I1,getD->I4,getElem?_append_right->I6,drop_eq_getElem_cons->I7,map_append->aG,getElem?_eq_none->aI,drop_take->aJ,all_eq_true->aM,toList_toArray->aQ,getElem?_eq_none_iff->aS,eq_of_mem_replicate->aU,toArray->aW,range->aX,getElem?_set->aZ,getElem?_append->aj,mem_filter->az,map_congr_left->bC,mem_zipIdx_iff_getElem?->bG,pairwise_cons->bL,zipIdx_cons->bW,mem_flatMap->bY,idxOf?_eq_none_iff->bf,append_nil->bn,length_set->bq,drop_eq_nil_of_le->cK,sublist_cons_self->cz,take_take->dA,range_eq_range'->dG,getElem?_zipIdx->dH,getElem?_set_ne->dI,pairwise_append->dJ,take_succ_cons->dR,flatMap_append->dU,mem_singleton->dh,flatMap_cons->dx,nodup_append->d9,size_toArray->eB,length->eO,drop_append->eT,take_append->eU,getElem_mem->eX,length_drop->eZ,getElem_inj->ed,length_nil->fA,mem_range->fE,map_nil->fG,map_map->fK,map->fu
open List.cons renaming injEq->bi
open Nat renaming le_trans->Iz,add_mul->II,le_refl->IJ,mul_le_mul_right->IV,add_assoc->I5,one_mul->aP,lt_of_lt_of_le->aT,zero_le->ae,lt_or_ge->bU,add_zero->bV,min_eq_left->bg,zero_add->dV,add_comm->dW,sub_self->dX,zero_mul->dY,le_of_not_lt->eQ,sub_zero->fJ
open Ne renaming symm->aY
open Option renaming map_eq_some_iff->Cm,bind_eq_some_iff->Ib,isSome_iff_exists->I9,map_some->aR,getD_some->eu
open Option.some renaming injEq->Ii,inj->fw
open Prod.mk renaming injEq->Ih
set_option linter.unusedVariables false
set_option linter.unusedSimpArgs false
set_option linter.defProp false
namespace Go.Pl
def a3d(cs:Array Value):Prop:= ∃ v,cs[0]? = some v∧(v = .nilIface ∨ ∃ t p,v = .iface t p)
def a3b:Array Value:=((aX 20).map λi=>af .u64 ((10 ^ i:Nat):Int)).toArray
structure GlobOK (Φ:Nat->Option (Array Value)):Prop where
 syn : ∃ cs,Φ 1=some cs∧a3d cs
 rng : ∃ cs,Φ 2=some cs∧a3d cs
 pow:Φ 5=some a3b
 mx : ∃ cs m,Φ 0=some cs∧cs[0]? = some (af .i64 m)
def GlobOK.mono{Φ Φ':Nat->Option (Array Value)}(h:GlobOK Φ)(k : ∀ b cs,Φ b=some cs->Φ' b=some cs):GlobOK Φ':=by obtain⟨⟨a,h1,h2⟩,⟨b,h3,e⟩,h5,d,m,h6,h7⟩:=h;exact⟨⟨a,k _ _ h1,h2⟩,⟨b,k _ _ h3,e⟩,k _ _ h5,d,m,k _ _ h6,h7⟩
open Go.RowKit
inductive PV where
 | bool (b:Bool)|int (k:IntKind) (n:Int)|str (s:List UInt8)
 | sl (sz:Nat) (t:Bool) (xs:List PV)
 | agg (xs:List PV)|tup (xs:List PV)
 | nilp|nilmap|nilfn|nili|ifc
 | fn (f:Nat)
 | rptr (xs:List PV)
 | raw (v:Value)
 deriving Inhabited
inductive AV where
 | pv (p:PV)|junk|undef
 | agg (xs:List AV)|tup (xs:List AV)
 | ptr (l o:Nat)|row (l n lo hi:Nat)|eptr (l n i o:Nat)|map (l:Nat)
 | fn (f:Nat) (fst cap:List AV)
 | yld (l:Nat)
 deriving Inhabited
inductive AObj where
 | box (xs:List AV)
 | row (fz:Bool) (ty sz:Nat) (xs:List PV)
 | map (es:List (PV×PV))
 deriving Inhabited
inductive Slot where
 | fresh|dead|obj (o:AObj)
 deriving Inhabited
abbrev ZN:=List Slot
inductive HM (α:Type) where
 | ret (a:α)
 | fail
 | get (l:Nat) (k:AObj->HM α)
 | put (l:Nat) (o:AObj) (k:HM α)
 | new (l:Nat) (o:AObj) (k:HM α)
 | ask (b:Bool) (k:Bool->HM α)
 | req (b:Bool) (k:HM α)
def HM.bind{α β:Type}:HM α->(α->HM β)->HM β
 | .ret a,f=>f a
 | .fail,_=>.fail
 | .get l k,f=>.get l λo=>(k o).bind f
 | .put l o k,f=>.put l o (k.bind f)
 | .new l o k,f=>.new l o (k.bind f)
 | .ask b k,f=>.ask b λd=>(k d).bind f
 | .req b k,f=>.req b (k.bind f)
def HM.run{α:Type}:HM α->ZN->Option (α×ZN)
 | .ret a,σ=>some (a,σ)
 | .fail,_=>none
 | .get l k,σ=>match σ[l]? with|some (.obj o)=>(k o).run σ|_=>none
 | .put l o k,σ=>match σ[l]? with|some (.obj _)=>k.run (σ.set l (.obj o))|_=>none
 | .new l o k,σ=>match σ[l]? with|some .fresh=>k.run (σ.set l (.obj o))|_=>none
 | .ask b k,σ=>(k b).run σ
 | .req b k,σ=>match b with|true=>k.run σ|false=>none
def HM.ofOpt{α:Type}:Option α->HM α
 | some a=>.ret a
 | none=>.fail
def HM.run_bind{α β:Type}(m:HM α)(f:α->HM β): ∀ σ,(m.bind f).run σ=(m.run σ).bind λp=>(f p.1).run p.2:=by
 induction m with
 | ret a=>intro σ;rfl
 | fail=>intro σ;rfl
 | get l k ih=>intro σ;simp only[HM.bind,HM.run];split <;> simp_all
 | put l o k ih=>intro σ;simp only[HM.bind,HM.run];split <;> simp_all
 | new l o k ih=>intro σ;simp only[HM.bind,HM.run];split <;> simp_all
 | ask b k ih=>intro σ;simp only[HM.bind,HM.run];exact ih b σ
 | req b k ih=>intro σ;cases b <;> simp_all[HM.bind,HM.run]
def PV.cells:PV->List PV
 | .agg xs=>xs
 | p=>[p]
def AV.cells:AV->List AV
 | .pv (.agg xs)=>xs.map .pv
 | .agg xs=>xs
 | x=>[x]
def flat(xs:List PV):List PV:=xs.flatMap PV.cells
abbrev Ye:=Nat->Option (Array Value)
abbrev Mu:=Nat->Nat->Option (Nat×Nat×Nat)
inductive RP (Φ:Ye):Value->PV->Prop
 | bool (b:Bool):RP Φ (.bool b) (.bool b)
 | int (k:IntKind) (n:Int):RP Φ (.int k n) (.int k n)
 | str (s:ByteArray):RP Φ (.string s) (.str s.data.toList)
 | sl0 (a:Option Addr) (c sz:Nat) (t:Bool) (h:t=true->c=0):RP Φ (.slice a 0 c) (.sl sz t [])
 | sl (b off:Nat) (cs:Array Value) (c sz:Nat) (t:Bool) (xs:List PV) (u:Nat->Value) (hb:Φ b=some cs) (hc:xs.length<=c) (ht:t=true->c=xs.length)
   (hs : ∀ x∈xs,x.cells.length=sz) (hu : ∀ (j:Nat) p,(flat xs)[j]? = some p->cs[off+j]? = some (u j)∧(u j).oneCell'=true) (hr : ∀ (j:Nat) p,(flat xs)[j]? = some p->RP Φ (u j) p) :
   RP Φ (.slice (some ⟨b,off,none⟩) xs.length c) (.sl sz t xs)
 | agg (cs:Array Value) (xs:List PV) (hn:cs.size=xs.length) (ho : ∀ v∈cs,v.oneCell'=true) (h : ∀ (j:Nat) v x,cs[j]? = some v->xs[j]? = some x->RP Φ v x):RP Φ (.agg cs) (.agg xs)
 | tup (cs:Array Value) (xs:List PV) (hn:cs.size=xs.length) (h : ∀ (j:Nat) v x,cs[j]? = some v->xs[j]? = some x->RP Φ v x):RP Φ (.tuple cs) (.tup xs)
 | nilp:RP Φ (.pointer none) .nilp
 | nilmap:RP Φ (.map none) .nilmap
 | nilfn:RP Φ .nilFunc .nilfn
 | nili:RP Φ .nilIface .nili
 | ifc (t:TypeId) (v:Value):RP Φ (.iface t v) .ifc
 | fn (f:Nat):RP Φ (.func (.func f) #[] #[]) (.fn f)
 | rptr (b off:Nat) (cs:Array Value) (xs:List PV) (u:Nat->Value) (hb:Φ b=some cs) (hu : ∀ (j:Nat) p,xs[j]? = some p->cs[off+j]? = some (u j)∧(u j).oneCell'=true) (hr : ∀ (j:Nat) p,xs[j]? = some p->RP Φ (u j) p) :
   RP Φ (.pointer (some ⟨b,off,none⟩)) (.rptr xs)
 | raw (v:Value) (h:v.oneCell'=true):RP Φ v (.raw v)
inductive R (μ:Mu) (Φ:Ye):Value->AV->Prop
 | pv (v:Value) (p:PV) (h:RP Φ v p):R μ Φ v (.pv p)
 | junk (v:Value):R μ Φ v .junk
 | undef:R μ Φ undef .undef
 | agg (cs:Array Value) (xs:List AV) (hn:cs.size=xs.length) (ho : ∀ v∈cs,v.oneCell'=true) (h : ∀ (j:Nat) v x,cs[j]? = some v->xs[j]? = some x->R μ Φ v x):R μ Φ (.agg cs) (.agg xs)
 | tup (cs:Array Value) (xs:List AV) (hn:cs.size=xs.length) (h : ∀ (j:Nat) v x,cs[j]? = some v->xs[j]? = some x->R μ Φ v x):R μ Φ (.tuple cs) (.tup xs)
 | ptr (l o B C S:Nat) (h:μ l 0=some (B,C,S)):R μ Φ (.pointer (some ⟨B,o,none⟩)) (.ptr l o)
 | row (l n lo hi B C S:Nat) (a:Option Addr) (h:μ l n=some (B,C,S)) (h1:lo<=hi) (h2:hi<=n) (h3:n<=C) (ha:lo<hi∨lo=0->a=some ⟨B,lo*S,none⟩):R μ Φ (.slice a (hi - lo) (C - lo)) (.row l n lo hi)
 | eptr (l n i o B C S:Nat) (h:μ l n=some (B,C,S)):R μ Φ (.pointer (some ⟨B,i*S+o,none⟩)) (.eptr l n i o)
 | map (l B C S:Nat) (h:μ l 0=some (B,C,S)):R μ Φ (.map (some B)) (.map l)
 | fn (f:Nat) (cs ds:Array Value) (xs ys:List AV) (hn:cs.size=xs.length) (hm:ds.size=ys.length) (h : ∀ (j:Nat) v x,cs[j]? = some v->xs[j]? = some x->R μ Φ v x) (k : ∀ (j:Nat) v x,ds[j]? = some v->ys[j]? = some x->R μ Φ v x) :
   R μ Φ (.func (.func f) cs ds) (.fn f xs ys)
 | yld (l:Nat):R μ Φ (.func (.yield l) #[] #[]) (.yld l)
def Ye.le(Φ Φ':Ye):Prop:= ∀ b cs,Φ b=some cs->Φ' b=some cs
def Mu.le(μ μ':Mu):Prop:= ∀ l n x,μ l n=some x->μ' l n=some x
def Ye.le.refl(Φ:Ye):Φ.le Φ:=λ_ _ h=>h
def Ye.le.trans{a b c:Ye}(h:a.le b)(k:b.le c):a.le c:=λx y e=>k _ _ (h _ _ e)
def Mu.le.refl(μ:Mu):μ.le μ:=λ_ _ _ h=>h
def Mu.le.trans{a b c:Mu}(h:a.le b)(k:b.le c):a.le c:=λx y z e=>k _ _ _ (h _ _ _ e)
def RP.mono{Φ Φ':Ye}(e:Φ.le Φ'){v:Value}{p:PV}(h:RP Φ v p):RP Φ' v p:=by
 induction h with
 | bool b=>exact .bool b
 | int k n=>exact .int k n
 | str s=>exact .str s
 | sl0 a c sz t h=>exact .sl0 a c sz t h
 | sl b off cs c sz t xs u hb hc ht hs hu hr ih=>exact .sl b off cs c sz t xs u (e _ _ hb) hc ht hs hu ih
 | agg cs xs hn ho h ih=>exact .agg cs xs hn ho ih
 | tup cs xs hn h ih=>exact .tup cs xs hn ih
 | nilp=>exact .nilp
 | nilmap=>exact .nilmap
 | nilfn=>exact .nilfn
 | nili=>exact .nili
 | ifc t v=>exact .ifc t v
 | fn f=>exact .fn f
 | rptr b off cs xs u hb hu hr ih=>exact .rptr b off cs xs u (e _ _ hb) hu ih
 | raw v h=>exact .raw v h
def R.mono{μ μ':Mu}{Φ Φ':Ye}(b:μ.le μ')(e:Φ.le Φ'){v:Value}{x:AV}(h:R μ Φ v x):R μ' Φ' v x:=by
 induction h with
 | pv v p h=>exact .pv v p (h.mono e)
 | junk v=>exact .junk v
 | undef=>exact .undef
 | agg cs xs hn ho h ih=>exact .agg cs xs hn ho ih
 | tup cs xs hn h ih=>exact .tup cs xs hn ih
 | ptr l o B C S h=>exact .ptr l o B C S (b _ _ _ h)
 | row l n lo hi B C S a h h1 h2 h3 ha=>exact .row l n lo hi B C S a (b _ _ _ h) h1 h2 h3 ha
 | eptr l n i o B C S h=>exact .eptr l n i o B C S (b _ _ _ h)
 | map l B C S h=>exact .map l B C S (b _ _ _ h)
 | fn f cs ds xs ys hn hm h k ih1 ih2=>exact .fn f cs ds xs ys hn hm ih1 ih2
 | yld l=>exact .yld l
def RL(μ:Mu)(Φ:Ye)(cs:List Value)(xs:List AV):Prop:=cs.length=xs.length∧ ∀ (j:Nat) v x,cs[j]? = some v->xs[j]? = some x->R μ Φ v x
def Ub(Φ:Ye)(cs:List Value)(xs:List PV):Prop:=cs.length=xs.length∧ ∀ (j:Nat) v x,cs[j]? = some v->xs[j]? = some x->RP Φ v x
def X5(cs:List Value):Prop:= ∀ v∈cs,v.oneCell'=true
def a4s(b:Array MapEntry)(a:Nat):Prop:=(∀ x∈b.toList,x.born<a)∧(b.toList.map (·.born)).Nodup
def Qa(w:World)(B:Nat)(cs:Array Value)(ty n C:Nat):Prop:= ∃ z,w.heap[B]? = some (.cells cs ty z)∧(z=(0,0)∨ty=5∧cs.size<=z.1)
def Qa.eq{w w':World}{B:Nat}{cs:Array Value}{ty n C:Nat}(h:Qa w B cs ty n C)(e:w'.heap[B]? = w.heap[B]?):Qa w' B cs ty n C:=by obtain⟨z,h1,h2⟩:=h;exact⟨z,e.trans h1,h2⟩
def Qa.of{w:World}{B:Nat}{cs:Array Value}{ty n C:Nat}(h:w.heap[B]? = some (.cells cs ty (0,0))):Qa w B cs ty n C:=⟨_,h,.inl rfl⟩
def Qa.other{w:World}{B:Nat}{cs:Array Value}{ty n C:Nat}(h:Qa w B cs ty n C)(ht:ty≠5):w.heap[B]? = some (.cells cs ty (0,0)):=by
 obtain⟨z,h1,h2⟩:=h;rcases h2 with rfl|⟨h3,_⟩
 ·exact h1
 ·exact absurd h3 ht
def H5(μ:Mu)(Φ:Ye)(w:World)(l:Nat):AObj->Prop
 | .box xs=> ∃ B C S T cs,μ l 0=some (B,C,S)∧w.heap[B]? = some (.cells cs T (0,0))∧RL μ Φ cs.toList xs∧X5 cs.toList∧Φ B=none
 | .row fz ty sz xs=> ∃ B C cs,μ l xs.length=some (B,C,sz)∧(∀ n,xs.length<n->μ l n=none)∧Qa w B cs ty xs.length C∧cs.size=C*sz∧xs.length<=C∧C<=maxLen∧(∀ x∈xs,x.cells.length=sz) ∧
   Ub Φ (cs.toList.take (xs.length*sz)) (flat xs)∧X5 (cs.toList.take (xs.length*sz))∧Φ B=(if fz then some cs else none)
 | .map es=> ∃ B C S b a,μ l 0=some (B,C,S)∧w.heap[B]? = some (.map b a)∧b.size=es.length ∧
   (∀ (j:Nat) e p,b[j]? = some e->es[j]? = some p->RP Φ e.key p.1∧RP Φ e.val p.2)∧Φ B=none∧a4s b a
def blk(μ:Mu)(l:Nat)(o:AObj):Nat:=
 match μ l (match o with | .row _ _ _ xs=>xs.length|_=>0)with
 | some (B,_,_)=>B
 | none=>0
def Qg(Φ:Ye)(w:World):Prop:= ∀ b cs,Φ b=some cs-> ∃ T fz,w.heap[b]? = some (.cells cs T fz)
structure Ctx where
 w0:World
 own:Nat->Prop
 Φ0:Ye
 μ0:Mu
structure Good (c:Ctx) (μ:Mu) (Φ:Ye) (σ:ZN) (w:World):Prop where
 phi:Qg Φ w
 obj : ∀ l o,σ[l]? = some (.obj o)->H5 μ Φ w l o
 apart : ∀ l l' o o',l≠l'->σ[l]? = some (.obj o)->σ[l']? = some (.obj o')->blk μ l o≠blk μ l' o'
 fresh : ∀ l n,(σ[l]? = none∨σ[l]? = some .fresh)->μ l n=none
 own : ∀ l o,σ[l]? = some (.obj o)->c.w0.heap.size<=blk μ l o∨c.own (blk μ l o)
 os:w.os=c.w0.os
 tape:w.tape=c.w0.tape
 output:w.output=c.w0.output
 size:c.w0.heap.size<=w.heap.size
 frame : ∀ b,b<c.w0.heap.size-> ¬ c.own b->w.heap[b]? = c.w0.heap[b]?
 Φle:c.Φ0.le Φ
 μle:c.μ0.le μ
 dom : ∀ b cs,Φ b=some cs->c.Φ0 b=some cs∨c.w0.heap.size<=b∨c.own b
 laid:GlobOK c.Φ0
structure St where
 env:List AV
 heap:ZN
def XN(μ:Mu)(Φ:Ye)(tmps:Array Value)(env:List AV):Prop:=RL μ Φ tmps.toList env
def VL(c:Ctx)(st:St)(a:Act)(w:World):Prop:=∃ μ Φ,Good c μ Φ st.heap w∧XN μ Φ a.tmps st.env∧a.defers=[]
section
inductive IOp where
 | t (n:Nat)|c (p:PV)
 deriving Inhabited
def ev(env:List AV):IOp->AV
 | .t n=>env.getD n .undef
 | .c p=>.pv p
inductive Kd where
 | num|bool|ptr|ifc|agg (ks:List Nat)
 deriving Inhabited,DecidableEq
inductive Sh where
 | int (k:IntKind)|str|bool|sl (sz:Nat)|any
 deriving Inhabited
def PV.asInt:PV->Int | .int _ n=>n|_=>0
def PV.asStr:PV->List UInt8 | .str s=>s|_=>[]
def PV.asBool:PV->Bool | .bool b=>b|_=>false
def PV.asXs:PV->List PV | .sl _ _ xs=>xs|_=>[]
def PV.asT:PV->Bool | .sl _ t _=>t|_=>false
def Sh.fit:Sh->PV->Bool
 | .int k,.int k' _=>k==k'
 | .str,.str _=>true
 | .bool,.bool _=>true
 | .sl sz,.sl sz' _ xs=>sz'==sz||xs.isEmpty
 | .any,_=>true
 | _,_=>false
def Sh.co:Sh->PV->PV
 | .int k,p=>.int k p.asInt
 | .str,p=>.str p.asStr
 | .bool,p=>.bool p.asBool
 | .sl sz,p=>.sl sz p.asT p.asXs
 | .any,p=>p
inductive POp where
 | mv (x:IOp)
 | pick (c a b:IOp)
 | box (n:Nat) (x:IOp)
 | alloc (z:PV)
 | build (z:List PV) (ps:List (Nat×Nat×IOp))
 | bslice (ty sz n:Nat) (z:PV) (ps:List (Nat×IOp))
 | load (ag:Bool) (shs:List Sh) (x:IOp)
 | store (n:Nat) (x v:IOp)
 | nilchk (x:IOp)
 | bin (kd:Kd) (op:BinOp) (x y:IOp)
 | mm (mx:Bool) (x y:IOp)
 | un (op:UnOp) (x:IOp)
 | conv (k:IntKind) (x:IOp)
 | mkfn (f:Nat) (fst cap:List IOp)
 | mkmap
 | mksl (ty sz by_:Nat) (z:PV) (l c:IOp)
 | strslc (x:IOp) (lo hi:Option IOp)
 | slc (sz:Nat) (x:IOp) (lo hi mx:Option IOp)
 | faddr (off:Nat) (x:IOp)
 | field (ag:Bool) (off n:Nat) (x:IOp)
 | iaddr (sz:Nat) (x i:IOp)
 | index (x i:IOp)
 | lookup (st:Bool) (sh:Sh) (z:PV) (ok:Bool) (m k:IOp)
 | mapupd (st:Bool) (m k v:IOp)
 | extract (x:IOp) (i:Nat)
 | len (k:Nat) (x:IOp)
 | strid (x:IOp)
 | append (ty sz by_:Nat) (x y:IOp)
 | apps (ty sz by_:Nat) (x y:IOp)
 | sbytes (x:IOp)
 | sslice (x:IOp)
 | bstr (x:IOp)
 | indexA (n sz:Nat) (x i:IOp)
 | call (f:IOp) (xs:List IOp)
 deriving Inhabited
inductive Den where
 | pure (pre:List PV->Bool) (val:List PV->PV)
 | own (pre:List AV->List AObj->Bool) (val:List AV->List AObj->AV×List AObj×List AObj)
abbrev ZO:=Nat->Option Den
mutual
def frz:AV->HM PV
 | .pv p=>.ret p
 | .row l n lo hi=>.get l fun
  | .row _ ty sz xs=>HM.req (xs.length==n) (.put l (.row true ty sz xs) (.ret (.sl sz false ((xs.take hi).drop lo))))
  | _=>.fail
 | .agg xs=>(KM xs).bind λps=>.ret (.agg ps)
 | .tup xs=>(KM xs).bind λps=>.ret (.tup ps)
 | .fn f [] []=>.ret (.fn f)
 | _=>.fail
def KM:List AV->HM (List PV)
 | []=>.ret []
 | x::xs=>(frz x).bind λp=>(KM xs).bind λps=>.ret (p::ps)
end
def AV.one:AV->Bool
 | .pv (.agg _) | .pv (.tup _) | .agg _ | .tup _ | .junk | .undef=>false
 | _=>true
def PV.one:PV->Bool
 | .agg _ | .tup _=>false
 | _=>true
def AV.cellsOk:AV->Bool
 | .pv (.tup _) | .tup _ | .junk | .undef=>false
 | _=>true
def PV.cellsOk:PV->Bool
 | .tup _=>false
 | _=>true
def e1l:List AV->Option (List PV)
 | []=>some []
 | .pv p::xs=>(e1l xs).map (p:: ·)
 | _::_=>none
def d7p(xs:List AV):AV:=
 match e1l xs with
 | some ps=>.pv (.agg ps)
 | none=>.agg xs
def splice{α:Type}(cs:List α)(o:Nat)(vs:List α):List α:=cs.take o++vs++cs.drop (o+vs.length)
def FW:List AV->List (Nat×Nat×AV)->Option (List AV)
 | cs,[]=>some cs
 | cs,(o,n,v)::r=>if v.cells.length=n∧o+n<=cs.length∧v.cellsOk=true then FW (splice cs o v.cells) r else none
def j4s(op:BinOp)(x y:Int):Option Bool:=
 match op with
 | .eql=>some (x==y) | .neq=>some (x != y) | .lss=>some (x<y) | .leq=>some (x<=y) | .gtr=>some (x>y) | .geq=>some (x ≥ y)
 | _=>none
def i4a(op:BinOp)(k:IntKind)(x y:Int):Option (Bool×PV):=
 match op with
 | .add=>some (true,.int k (k.wrap (x+y)))
 | .sub=>some (true,.int k (k.wrap (x - y)))
 | .mul=>some (true,.int k (k.wrap (x*y)))
 | .quo=>some (y != 0,.int k (k.wrap (x.tdiv y)))
 | .rem=>some (y != 0,.int k (x.tmod y))
 | .and=>some (true,.int k (k.wrap (I8 k.bits x &&& I8 k.bits y).toNat))
 | .or=>some (true,.int k (k.wrap (I8 k.bits x ||| I8 k.bits y).toNat))
 | .xor=>some (true,.int k (k.wrap (I8 k.bits x ^^^ I8 k.bits y).toNat))
 | .andNot=>some (true,.int k (k.wrap (I8 k.bits x &&& ~~~I8 k.bits y).toNat))
 | op=>(j4s op x y).map λb=>(true,.bool b)
def c7k(op:BinOp)(k:IntKind)(x y:Int):Option (Bool×PV):=
 match op with
 | .shl=>some (decide (0<=y),.int k (k.wrap (x*2 ^ (min y.toNat k.bits))))
 | .shr=>some (decide (0<=y),.int k (x.fdiv (2 ^ (min y.toNat k.bits))))
 | _=>none
def i0o(op:BinOp)(x y:List UInt8):Option (Bool×PV):=
 match op with
 | .add=>some (decide (x.length+y.length<=1099511627776),.str (x++y))
 | .eql=>some (true,.bool (x==y))
 | .neq=>some (true,.bool (!(x==y)))
 | .lss=>some (true,.bool (bQ x y))
 | .leq=>some (true,.bool (bQ x y||x==y))
 | .gtr=>some (true,.bool (!(bQ x y||x==y)))
 | .geq=>some (true,.bool (!(bQ x y)))
 | _=>none
def eqB(op:BinOp)(r:Bool):Option (Bool×PV):=match op with | .eql=>some (true,.bool r) | .neq=>some (true,.bool (!r))|_=>none
def e0m:BinOp->Bool
 | .shl | .shr=>true
 | _=>false
def TU:IntKind->IntKind->Bool
 | .i8,.i8 | .i16,.i16 | .i32,.i32 | .i64,.i64 | .u8,.u8 | .u16,.u16 | .u32,.u32 | .u64,.u64=>true
 | _,_=>false
def QC:PV->Bool
 | .nili=>true
 | _=>false
def Oj:PV->Bool
 | .nili | .ifc=>true
 | _=>false
def eqL:List Nat->List PV->List PV->Option Bool
 | [],[],[]=>some true
 | 0::ks,.int k a::ps,.int k' b::qs=>match TU k k' with|true=>(eqL ks ps qs).map λr=>a==b&&r|false=>none
 | 1::ks,.str a::ps,.str b::qs=>(eqL ks ps qs).map λr=>a==b&&r
 | 2::ks,.bool a::ps,.bool b::qs=>(eqL ks ps qs).map λr=>a==b&&r
 | _,_,_=>none
def j4p(kd:Kd)(op:BinOp)(x y:AV):Option (Bool×PV):=
 match kd,x,y with
 | .num,.pv (.int k a),.pv (.int k' b)=>
  match e0m op with
  | true=>c7k op k a b
  | false=>match TU k k' with|true=>i4a op k a b|false=>none
 | .num,.pv (.str a),.pv (.str b)=>i0o op a b
 | .bool,.pv (.bool a),.pv (.bool b)=>eqB op (a==b)
 | .ptr,.pv .nilp,.pv .nilp=>eqB op true
 | .ptr,.ptr _ _,.pv .nilp=>eqB op false
 | .ptr,.pv (.rptr _),.pv .nilp=>eqB op false
 | .ifc,.pv p,.pv .nili=>(eqB op (QC p)).map λq=>(Oj p&&q.1,q.2)
 | .agg ks,.pv (.agg ps),.pv (.agg qs)=>(eqL ks ps qs).bind λr=>eqB op r
 | _,_,_=>none
def unB(op:UnOp)(x:PV):Option PV:=
 match op,x with
 | .not,.bool b=>some (.bool (!b))
 | .neg,.int k n=>some (.int k (k.wrap (-n)))
 | _,_=>none
def bnd(env:List AV)(d:Nat):Option IOp->Option (Bool×Nat)
 | none=>some (true,d)
 | some x=>match ev env x with
  | .pv (.int _ i)=>some (decide (0<=i),i.toNat)
  | _=>none
def PV.isKey(st:Bool):PV->Bool
 | .str _=>st
 | .int _ _=> !st
 | _=>false
def c1v:PV->PV->Option Bool
 | .int k a,.int k' b=>if k=k' then some (a==b)else none
 | .str a,.str b=>some (a==b)
 | _,_=>none
def a5h(k:PV):List (PV×PV)->Option (Option PV)
 | []=>some none
 | (a,v)::r=>match c1v k a with
  | some true=>some (some v)
  | some false=>a5h k r
  | none=>none
def ML(k:PV)(es:List (PV×PV)):Bool:=(a5h k es).isSome
def Ca(k:PV)(es:List (PV×PV)):Bool:=match a5h k es with|some (some _)=>true|_=>false
def KU(k z:PV)(es:List (PV×PV)):PV:=match a5h k es with|some (some v)=>v|_=>z
def upd(k v:PV):List (PV×PV)->Option (List (PV×PV))
 | []=>some [(k,v)]
 | (a,u)::r=>match c1v k a with
  | some true=>some ((k,v)::r)
  | some false=>(upd k v r).map ((a,u):: ·)
  | none=>none
def h9b(k v:PV)(es:List (PV×PV)):Bool:=(upd k v es).isSome
def e6v(k v:PV)(es:List (PV×PV)):List (PV×PV):=(upd k v es).getD []
def e5o:PV->Bool
 | .int .u8 n=>decide (0<=n)&&decide (n<256)
 | _=>false
def Y7(s:List UInt8):List PV:=s.map λc=>.int .u8 c.toNat
def KC(xs:List PV):List UInt8:=xs.map λp=>UInt8.ofNat p.asInt.toNat
def Nq(ag:Bool)(n:Nat)(cs:List AV)(o:Nat):Option AV:=
 match ag with
 | true=>if o+n<=cs.length then some (d7p ((cs.drop o).take n))else none
 | false=>cs[o]?
def EC(ps:List PV):Nat->List Sh->List PV
 | _,[]=>[]
 | o,sh::r=>sh.co (ps.getD o default)::EC ps (o+1) r
def VJ(ps:List PV):Nat->List Sh->Bool
 | _,[]=>true
 | o,sh::r=>sh.fit (ps.getD o default)&&VJ ps (o+1) r
def e1c(ag:Bool)(shs:List Sh)(ps:List PV)(o:Nat):HM AV:=
 .req (decide (o+shs.length<=ps.length)&&VJ ps o shs)
  (match ag with
  | true=>.ret (.pv (.agg (EC ps o shs)))
  | false=>match shs with
   | [sh]=>.ret (.pv (sh.co (ps.getD o default)))
   | _=>.fail)
def PV.withCells(x:PV)(cs:List PV):PV:=
 match x with
 | .agg _=>.agg cs
 | x=>cs.headD x
mutual
def AV.refs:AV->List Nat
 | .ptr l _ | .row l _ _ _ | .eptr l _ _ _ | .map l=>[l]
 | .agg xs | .tup xs=>Ho xs
 | .fn _ xs ys=>Ho xs++Ho ys
 | _=>[]
def Ho:List AV->List Nat
 | []=>[]
 | x::xs=>x.refs++Ho xs
end
mutual
def AV.ren(ρ:Nat->Option Nat):AV->Option AV
 | .pv p=>some (.pv p) | .junk=>some .junk | .undef=>some .undef
 | .ptr l o=>(ρ l).map (.ptr · o)
 | .row l n lo hi=>(ρ l).map (.row · n lo hi)
 | .eptr l n i o=>(ρ l).map (.eptr · n i o)
 | .map l=>(ρ l).map .map
 | .agg xs=>(MI ρ xs).map .agg
 | .tup xs=>(MI ρ xs).map .tup
 | .fn f xs ys=>(MI ρ xs).bind λa=>(MI ρ ys).map λb=>.fn f a b
 | .yld l=>some (.yld l)
def MI(ρ:Nat->Option Nat):List AV->Option (List AV)
 | []=>some []
 | x::xs=>(x.ren ρ).bind λy=>(MI ρ xs).map (y:: ·)
end
def AObj.refs:AObj->List Nat
 | .box xs=>Ho xs
 | _=>[]
def AObj.ren(ρ:Nat->Option Nat):AObj->Option AObj
 | .box xs=>(MI ρ xs).map .box
 | o=>some o
def Dx(ρ:Nat->Option Nat):List AObj->Option (List AObj)
 | []=>some []
 | o::os=>(o.ren ρ).bind λo'=>(Dx ρ os).map (o':: ·)
def Fq{α:Type}:Nat->List Nat->List (Nat×AObj)->(List (Nat×AObj)->HM α)->HM α
 | 0,_,_,_=>.fail
 | _+1,[],acc,k=>k acc
 | n+1,l::ls,acc,k=>if (acc.map (·.1)).contains l then Fq n ls acc k else .get l λo=>Fq n (ls++o.refs) (acc++[(l,o)]) k
def a1l{α:Type}:List (Nat×AObj)->HM α->HM α
 | [],k=>k
 | (l,o)::r,k=>.put l o (a1l r k)
def a0i{α:Type}:Nat->List AObj->HM α->HM α
 | _,[],k=>k
 | L,o::r,k=>.new L o (a0i (L+1) r k)
def fwd(ls:List Nat)(l:Nat):Option Nat:=ls.idxOf? l
def bwd(ls:List Nat)(L:Nat)(i:Nat):Option Nat:=if i<ls.length then ls[i]? else some (L+(i - ls.length))
def PQ(L:Nat)(pre:List AV->List AObj->Bool)(val:List AV->List AObj->AV×List AObj×List AObj)(args:List AV):HM AV:=
 Fq 64 (Ho args) [] λb=>
  let a:=b.map (·.1)
  match MI (fwd a) args,Dx (fwd a) (b.map (·.2))with
  | some args',some Xl=>.req (pre args' Xl) (match val args' Xl with
   | (x,os,ext)=>match x.ren (bwd a L),Dx (bwd a L) os,Dx (bwd a L) ext with
    | some x',some os',some ext'=>if os'.length=a.length then a1l (a.zip os') (a0i L ext' (.ret x'))else .fail
    | _,_,_=>.fail)
  | _,_=>.fail
def e1b(T:ZO)(L:Nat)(g:Nat)(args:List AV):HM AV:=
 match T g with
 | some (.pure pre val)=>(KM args).bind λps=>.req (pre ps) (.ret (.pv (val ps)))
 | some (.own pre val)=>PQ L pre val args
 | none=>.fail
def a4f(L ty sz by_:Nat)(x:AV)(ys:List PV):HM AV:=
 match x with
 | .pv (.sl sz' t xs)=>.req t (.ask ys.isEmpty fun
  | true=>.ret x
  | false=>.req ((xs.isEmpty||sz'==sz)&&decide ((xs.length+ys.length)*by_<=1099511627776)&&decide (xs.length+ys.length<=1099511627776))
    (.new L (.row false ty sz (xs++ys)) (.ret (.row L (xs.length+ys.length) 0 (xs.length+ys.length)))))
 | .row l n 0 hi=>.get l fun
  | .row false ty' sz' xs=>
   if ty'=ty∧sz'=sz then
    .req (xs.length==n&&hi==n&&decide ((n+ys.length)*by_<=1099511627776)&&decide (n+ys.length<=1099511627776))
     (.put l (.row false ty sz (xs++ys)) (.ret (.row l (n+ys.length) 0 (n+ys.length))))
   else .fail
  | _=>.fail
 | _=>.fail
def WJ(L:Nat)(env:List AV):POp->HM AV
 | .mv x=>.ret (ev env x)
 | .pick c a b=>match ev env c with
  | .pv (.bool d)=>.ask d fun
   | true=>.ret (ev env a)
   | false=>.ret (ev env b)
  | _=>.fail
 | .box n x=>if (ev env x).cells.length=n∧(ev env x).cellsOk=true then .new L (.box (ev env x).cells) (.ret (.ptr L 0))else .fail
 | .alloc z=>.new L (.box (AV.pv z).cells) (.ret (.ptr L 0))
 | .build z ps=>match FW (z.map .pv) (ps.map λ(o,n,x)=>(o,n,ev env x))with
  | some cs=>.ret (d7p cs)
  | none=>.fail
 | .bslice ty sz n z ps=>
  if ps.map (·.1)=aX n then
   (KM (ps.map λ(_,x)=>ev env x)).bind λxs=>.req (xs.all (λx=>x.cells.length==sz&&x.cellsOk)) (.new L (.row false ty sz xs) (.ret (.row L n 0 n)))
  else .fail
 | .load ag shs x=>match ev env x with
  | .pv (.rptr ps)=>e1c ag shs ps 0
  | .ptr l o=>.get l fun
   | .box cs=>.ofOpt (Nq ag shs.length cs o)
   | _=>.fail
  | .eptr l m i o=>.get l fun
   | .row _ _ _ xs=>.req (xs.length==m&&decide (i<xs.length)) (e1c ag shs (xs.getD i default).cells o)
   | _=>.fail
  | _=>.fail
 | .store n x v=>match ev env x with
  | .ptr l o=>.get l fun
   | .box cs=>if (ev env v).cells.length=n∧o+n<=cs.length∧(ev env v).cellsOk=true then .put l (.box (splice cs o (ev env v).cells)) (.ret .undef)else .fail
   | _=>.fail
  | .eptr l m i o=>(frz (ev env v)).bind λp=>.get l fun
   | .row false ty sz xs=>.req (xs.length==m&&decide (i<xs.length)&&p.cells.length==n&&decide (o+n<=(xs.getD i default).cells.length)&&p.cellsOk)
     (.put l (.row false ty sz (xs.set i ((xs.getD i default).withCells (splice (xs.getD i default).cells o p.cells)))) (.ret .undef))
   | _=>.fail
  | _=>.fail
 | .nilchk x=>match ev env x with
  | .ptr l o=>.ret (.ptr l o)
  | .pv (.rptr ps)=>.ret (.pv (.rptr ps))
  | .eptr l n i o=>.ret (.eptr l n i o)
  | .fn f xs ys=>.ret (.fn f xs ys)
  | .pv (.fn f)=>.ret (.pv (.fn f))
  | _=>.fail
 | .bin kd op x y=>match j4p kd op (ev env x) (ev env y)with
  | some (r,v)=>.req r (.ret (.pv v))
  | none=>.fail
 | .mm mx x y=>match ev env x,ev env y with
  | .pv (.int k a),.pv (.int k' b)=>match TU k k' with|true=>.ret (.pv (.int k (if mx then(if b>a then b else a)else(if b<a then b else a))))|false=>.fail
  | _,_=>.fail
 | .un op x=>match ev env x with
  | .pv p=>.ofOpt ((unB op p).map .pv)
  | _=>.fail
 | .conv k x=>match ev env x with
  | .pv (.int _ n)=>.ret (.pv (.int k (k.wrap n)))
  | _=>.fail
 | .mkfn f xs ys=>match xs,ys with
  | [],[]=>.ret (.pv (.fn f))
  | xs,ys=>.ret (.fn f (xs.map (ev env)) (ys.map (ev env)))
 | .mkmap=>.new L (.map []) (.ret (.map L))
 | .mksl ty sz by_ z l c=>match ev env l,ev env c with
  | .pv (.int .i64 n),.pv (.int .i64 m)=>.req (decide (0<=n)&&n==m&&decide (n*by_<=1099511627776)&&decide (n<=1099511627776)) (.new L (.row false ty sz (Iy n.toNat z)) (.ret (.row L n.toNat 0 n.toNat)))
  | _,_=>.fail
 | .strslc x lo hi=>match ev env x with
  | .pv (.str s)=>match bnd env 0 lo,bnd env s.length hi with
   | some (r1,l),some (r2,h)=>.req (r1&&r2&&decide (l<=h)&&decide (h<=s.length)) (.ret (.pv (.str ((s.take h).drop l))))
   | _,_=>.fail
  | _=>.fail
 | .slc sz x lo hi mx=>match ev env x with
  | .pv (.sl sz' t xs)=>match bnd env 0 lo,bnd env xs.length hi with
   | some (r1,l),some (r2,h)=>match mx with
     | none=>.req (r1&&r2&&(xs.isEmpty||sz'==sz)&&decide (l<=h)&&decide (h<=xs.length)) (.ret (.pv (.sl sz' (t&&decide (h=xs.length)) ((xs.take h).drop l))))
     | some m=>match hi,bnd env xs.length (some m)with
      | some _,some (r3,m)=>.req (r1&&r2&&r3&&(xs.isEmpty||sz'==sz)&&decide (l<=h)&&decide (h<=m)&&decide (m<=xs.length)) (.ret (.pv (.sl sz' (decide (h=m)) ((xs.take h).drop l))))
      | _,_=>.fail
   | _,_=>.fail
  | .row r n lo' hi'=>match bnd env 0 lo,bnd env (hi' - lo') hi,mx with
   | some (r1,l),some (r2,h),none=>.get r fun
     | .row _ _ sz' xs=>if sz'=sz then .req (r1&&r2&&decide (l<=h)&&decide (lo'+h<=hi')&&xs.length==n) (.ret (.row r n (lo'+l) (lo'+h)))else .fail
     | _=>.fail
   | _,_,_=>.fail
  | _=>.fail
 | .faddr off x=>match ev env x with
  | .ptr l o=>.ret (.ptr l (o+off))
  | .pv (.rptr ps)=>.ret (.pv (.rptr (ps.drop off)))
  | .eptr l n i o=>.ret (.eptr l n i (o+off))
  | _=>.fail
 | .field ag off n x=>match ev env x with
  | .pv (.agg ps)=>.ofOpt (Nq ag n (ps.map .pv) off)
  | .agg xs=>.ofOpt (Nq ag n xs off)
  | _=>.fail
 | .iaddr sz x i=>match ev env x,ev env i with
  | .pv (.sl sz' _ xs),.pv (.int _ i)=>.req (decide (0<=i)&&decide (i.toNat<xs.length)&&sz'==sz) (.ret (.pv (.rptr (xs.getD i.toNat default).cells)))
  | .row l n lo hi,.pv (.int _ i)=>.get l fun
    | .row _ _ sz' xs=>if sz'=sz then .req (decide (0<=i)&&decide (lo+i.toNat<hi)&&xs.length==n) (.ret (.eptr l n (lo+i.toNat) 0))else .fail
    | _=>.fail
  | _,_=>.fail
 | .index x i=>match ev env x,ev env i with
  | .pv (.str s),.pv (.int _ i)=>.req (decide (0<=i)&&decide (i.toNat<s.length)) (.ret (.pv (.int .u8 (s.getD i.toNat 0).toNat)))
  | _,_=>.fail
 | .indexA n sz x i=>match ev env x,ev env i with
  | .pv (.agg ps),.pv (.int _ i)=>match decide (2<=sz)with
   | true=>.req (decide (0<=i)&&decide (i.toNat<n)) (.ofOpt (Nq true sz (ps.map .pv) (i.toNat*sz)))
   | false=>.req (decide (0<=i)&&decide (i.toNat<ps.length)&&decide (i.toNat<n)&&sz==1) (.ret (.pv (ps.getD i.toNat default)))
  | _,_=>.fail
 | .sbytes x=>match ev env x with
  | .pv (.str s)=>.ret (.pv (.sl 1 false (Y7 s)))
  | _=>.fail
 | .sslice x=>match ev env x with
  | .row l n 0 hi=>.get l fun
   | .row false ty _ xs=>.req (xs.length==n&&ty==5) (.ret (.row l n 0 hi))
   | _=>.fail
  | _=>.fail
 | .bstr x=>match ev env x with
  | .pv (.sl sz _ xs)=>.req (xs.all e5o&&(xs.isEmpty||sz==1)) (.ret (.pv (.str (KC xs))))
  | .row l n lo hi=>.get l fun
   | .row _ _ sz xs=>.req (xs.length==n&&xs.all e5o&&sz==1) (.ret (.pv (.str (KC ((xs.take hi).drop lo)))))
   | _=>.fail
  | _=>.fail
 | .lookup st sh z ok m k=>match ev env k with
  | .pv k=>if k.isKey st then match ev env m with
    | .map l=>.get l fun
     | .map es=>.req (ML k es&&sh.fit (KU k z es)) (.ret (.pv (if ok then .tup [sh.co (KU k z es),.bool (Ca k es)]else sh.co (KU k z es))))
     | _=>.fail
    | _=>.fail
   else .fail
  | _=>.fail
 | .mapupd st m k v=>match ev env k with
  | .pv k=>if k.isKey st then match ev env m with
    | .map l=>(frz (ev env v)).bind λv=>.get l fun
     | .map es=>.req (h9b k v es) (.put l (.map (e6v k v es)) (.ret .undef))
     | _=>.fail
    | _=>.fail
   else .fail
  | _=>.fail
 | .extract x i=>match ev env x with
  | .pv (.tup ps)=>.ofOpt ((ps[i]?).map .pv)
  | .tup xs=>.ofOpt xs[i]?
  | _=>.fail
 | .len k x=>match k,ev env x with
  | 2,.map l=>.get l fun
   | .map es=>.ret (.pv (.int .i64 es.length))
   | _=>.fail
  | 2,.pv .nilmap=>.ret (.pv (.int .i64 0))
  | 0,.pv (.str s)=>.ret (.pv (.int .i64 s.length))
  | 1,.pv (.sl _ _ xs)=>.ret (.pv (.int .i64 xs.length))
  | 1,.pv (.raw (.slice _ n _))=>.ret (.pv (.int .i64 n))
  | 1,.row _ _ lo hi=>.ret (.pv (.int .i64 (hi - lo:Nat)))
  | _,_=>.fail
 | .strid x=>match ev env x with
  | .pv (.str s)=>.ret (.pv (.str s))
  | _=>.fail
 | .append ty sz by_ x y=>match ev env y with
  | .pv (.sl sz' _ ys)=>.req (ys.isEmpty||sz'==sz) (a4f L ty sz by_ (ev env x) ys)
  | .row l n lo hi=>.get l fun
   | .row _ _ sz' ys=>if sz'=sz then .req (ys.length==n) (a4f L ty sz by_ (ev env x) ((ys.take hi).drop lo))else .fail
   | _=>.fail
  | _=>.fail
 | .apps ty sz by_ x y=>match ev env y with
  | .pv (.str s)=>match ev env x with
   | .row l m 0 hi=>a4f L ty sz by_ (.row l m 0 hi) (Y7 s)
   | _=>.fail
  | _=>.fail
 | .call _ _=>.fail
def VA(T:ZO)(L:Nat)(env:List AV)(p:POp):HM AV:=
 match p with
 | .call f xs=>match ev env f with
  | .pv (.fn g)=>e1b T L g (xs.map (ev env))
  | .fn g fst cap=>e1b T L g (fst++xs.map (ev env)++cap)
  | _=>.fail
 | p=>WJ L env p
end
def RL.mono{μ μ':Mu}{Φ Φ':Ye}(e:μ.le μ')(g:Φ.le Φ'){cs:List Value}{xs:List AV}(h:RL μ Φ cs xs):RL μ' Φ' cs xs:=⟨h.1,λj v x a b=>(h.2 j v x a b).mono e g⟩
def Ub.mono{Φ Φ':Ye}(e:Φ.le Φ'){cs:List Value}{xs:List PV}(h:Ub Φ cs xs):Ub Φ' cs xs:=⟨h.1,λj v x a b=>(h.2 j v x a b).mono e⟩
def H5.blk_heap{μ:Mu}{Φ:Ye}{w:World}{l:Nat}{o:AObj}(h:H5 μ Φ w l o):(∃ ob,w.heap[blk μ l o]? = some ob):=by
 cases o with
 | box xs=>obtain⟨B,C,S,T,cs,h1,h2,_⟩:=h;exact⟨_,by simpa [blk,h1]using h2⟩
 | row fz ty sz xs=>obtain⟨B,C,cs,h1,_,⟨z,h2,_⟩,_⟩:=h;exact⟨_,by simpa [blk,h1]using h2⟩
 | map es=>obtain⟨B,C,S,m,k,h1,h2,_⟩:=h;exact⟨_,by simpa [blk,h1]using h2⟩
def H5.blk_lt{μ:Mu}{Φ:Ye}{w:World}{l:Nat}{o:AObj}(h:H5 μ Φ w l o):blk μ l o<w.heap.size:=by obtain⟨ob,h⟩:=h.blk_heap;exact(Ir.1 h).1
def AObj.live:AObj->Bool
 | .row fz _ _ _=> !fz
 | _=>true
def H5.phi_none{μ:Mu}{Φ:Ye}{w:World}{l:Nat}{o:AObj}(h:H5 μ Φ w l o)(a:o.live=true):Φ (blk μ l o)=none:=by
 cases o with
 | box xs=>obtain⟨B,C,S,T,cs,h1,_,_,_,h2⟩:=h;simpa [blk,h1]using h2
 | row fz ty sz xs=>obtain⟨B,C,cs,h1,_,_,_,_,_,_,_,_,h2⟩:=h;simp[AObj.live]at a;subst a;simpa [blk,h1]using h2
 | map es=>obtain⟨B,C,S,m,k,h1,_,_,_,h2,_⟩:=h;simpa [blk,h1]using h2
def H5.keep{μ μ':Mu}{Φ Φ':Ye}{w w':World}{l:Nat}{o:AObj}(h:H5 μ Φ w l o)(z:μ.le μ')(r : ∀ n,μ' l n=μ l n)(s:Φ.le Φ')
  (hb:Φ' (blk μ l o)=Φ (blk μ l o)) (i:w'.heap[blk μ l o]? = w.heap[blk μ l o]?):H5 μ' Φ' w' l o∧blk μ' l o=blk μ l o:=by
 refine⟨?_,by unfold blk;rw[r]⟩;cases o with
 | box xs=>obtain⟨B,C,S,T,cs,h1,h2,h3,g,q⟩:=h;simp only[blk,h1]at hb i;exact⟨B,C,S,T,cs,by rw[r];exact h1,by rw[i];exact h2,h3.mono z s,g,by rw[hb];exact q⟩
 | row fz ty sz xs=>obtain⟨B,C,cs,h1,h2,h3,g,q,E,y,A,D,u⟩:=h;simp only[blk,h1]at hb i;exact⟨B,C,cs,by rw[r];exact h1,λn hn=>by rw[r];exact h2 n hn,h3.eq i,g,q,E,y,A.mono s,D,by rw[hb];exact u⟩
 | map es=>obtain⟨B,C,S,m,k,h1,h2,h3,g,q⟩:=h;simp only[blk,h1]at hb i;exact⟨B,C,S,m,k,by rw[r];exact h1,by rw[i];exact h2,h3,λj e p a b=>⟨(g j e p a b).1.mono s,(g j e p a b).2.mono s⟩,by rw[hb];exact q.1,q.2⟩
def Z4{σ:ZN}{l l':Nat}{s:Slot}(h:l'≠l):(σ.set l s)[l']? = σ[l']? :=by rw[aZ];simp[aY h]
def Yb{σ:ZN}{l:Nat}{s u:Slot}(h:σ[l]? = some u):(σ.set l s)[l]? = some s:=by have:=(Ic.1 h).1;rw[aZ];simp[this]
def Good.put{c:Ctx}{μ μ':Mu}{Φ:Ye}{σ:ZN}{w w':World}{l:Nat}{o o':AObj}(h:Good c μ Φ σ w)(k:σ[l]? = some (.obj o))(q:o.live=true)
  (P:μ.le μ') (D : ∀ l',l'≠l-> ∀ n,μ' l' n=μ l' n) (L:w'.os=w.os) (r:w'.tape=w.tape) (z:w'.output=w.output) (s:w.heap.size<=w'.heap.size)
  (J : ∀ b,b<w.heap.size->b≠blk μ l o->w'.heap[b]? = w.heap[b]?) (N:H5 μ' Φ w' l o') (hb:blk μ' l o'=blk μ l o∨w.heap.size<=blk μ' l o') :
  Good c μ' Φ (σ.set l (.obj o')) w':=by
 have C:=h.obj l o k;have a : ∀ l' x,l'≠l->σ[l']? = some (.obj x)->H5 μ' Φ w' l' x∧blk μ' l' x=blk μ l' x:=by intro l' x g i;have F:=h.obj l' x i;exact F.keep P (D l' g) (Ye.le.refl _) rfl (J _ F.blk_lt (h.apart l' l x o g i k))
 constructor
 ·intro b cs y;have j:b≠blk μ l o:=by rintro rfl;rw[C.phi_none q]at y;cases y
  obtain⟨T,fz,Q⟩:=h.phi b cs y;have M:=(Ir.1 Q).1;exact⟨T,fz,by rw[J b M j];exact Q⟩
 ·intro l' x i;by_cases g:l'=l
  ·subst g;rw[Yb k]at i;cases i;exact N
  ·rw[Z4 g]at i;exact(a l' x g i).1
 ·have B : ∀ l' x,l'≠l->σ[l']? = some (.obj x)->blk μ' l' x≠blk μ' l o':=by
   intro l' x g i e;rw[(a l' x g i).2]at e;rcases hb with hb|hb
   ·rw[hb]at e;exact h.apart l' l x o g i k e
   ·have:=(h.obj l' x i).blk_lt;omega
  intro H I K O g h1 h2;by_cases e1:H=l
  ·subst e1;rw[Yb k]at h1;cases h1;rw[Z4 (aY g)]at h2;exact aY (B I O (aY g) h2)
  ·rw[Z4 e1]at h1;by_cases e2:I=l
   ·subst e2;rw[Yb k]at h2;cases h2;exact B H K e1 h1
   ·rw[Z4 e2]at h2;rw[(a H K e1 h1).2,(a I O e2 h2).2];exact h.apart H I K O g h1 h2
 ·intro l' n u;by_cases e1:l'=l
  ·subst e1;rw[Yb k]at u;rcases u with u|u <;> cases u
  ·rw[Z4 e1]at u;rw[D l' e1];exact h.fresh l' n u
 ·intro l' x i;by_cases e1:l'=l
  ·subst e1;rw[Yb k]at i;cases i;rcases hb with hb|hb
   ·rw[hb];exact h.own _ o k
   ·exact .inl (Iz h.size hb)
  ·rw[Z4 e1]at i;rw[(a l' x e1 i).2];exact h.own l' x i
 ·exact L.trans h.os
 ·exact r.trans h.tape
 ·exact z.trans h.output
 ·exact Iz h.size s
 ·intro b E A;have j:b≠blk μ l o:=by
   rintro rfl;rcases h.own l o k with h1|h1
   ·omega
   ·exact A h1
  rw[J b (aT E h.size) j];exact h.frame b E A
 ·exact h.Φle
 ·exact h.μle.trans P
 ·exact h.dom
 ·exact h.laid
def Mu.add(μ:Mu)(l v:Nat)(x:Nat×Nat×Nat):Mu:=λl' n=>if l'=l∧n=v then some x else μ l' n
def Mu.add_same(μ:Mu)(l v:Nat)(x:Nat×Nat×Nat):μ.add l v x l v=some x:=by simp[Mu.add]
def Mu.add_ne(μ:Mu)(l v:Nat)(x:Nat×Nat×Nat)(l' n:Nat)(h:l'≠l):μ.add l v x l' n=μ l' n:=by simp[Mu.add,h]
def Mu.add_ver(μ:Mu)(l v:Nat)(x:Nat×Nat×Nat)(n:Nat)(h:n≠v):μ.add l v x l n=μ l n:=by simp[Mu.add,h]
def Mu.le_add(μ:Mu)(l v:Nat)(x:Nat×Nat×Nat)(h:μ l v=none∨μ l v=some x):μ.le (μ.add l v x):=by
 intro l' n y a;unfold Mu.add;split
 ·rename_i e;obtain⟨rfl,rfl⟩:=e;rcases h with h|h <;> rw[h]at a
  ·cases a
  ·exact a
 ·exact a
def UO(w:World)(o:Obj)(b:Nat)(h:b<w.heap.size):(w.alloc o).heap[b]? = w.heap[b]? :=Below.heap_alloc w o b h
def Kw(w:World)(o:Obj):(w.alloc o).heap[w.heap.size]? = some o:=by show(w.heap.push o)[w.heap.size]? = _;simp
def Good.new{c:Ctx}{μ μ':Mu}{Φ:Ye}{σ:ZN}{w w':World}{l:Nat}{o:AObj}(h:Good c μ Φ σ w)(u:σ[l]? = some .fresh)
  (L:μ.le μ') (y : ∀ l',l'≠l-> ∀ n,μ' l' n=μ l' n) (H:w'.os=w.os) (j:w'.tape=w.tape) (r:w'.output=w.output) (k:w.heap.size<=w'.heap.size)
  (D : ∀ b,b<w.heap.size->w'.heap[b]? = w.heap[b]?) (ho:H5 μ' Φ w' l o) (hb:w.heap.size<=blk μ' l o) :
  Good c μ' Φ (σ.set l (.obj o)) w':=by
 have a : ∀ l' x,l'≠l->σ[l']? = some (.obj x)->H5 μ' Φ w' l' x∧blk μ' l' x=blk μ l' x:=by intro l' x g i;have A:=h.obj l' x i;exact A.keep L (y l' g) (Ye.le.refl _) rfl (D _ A.blk_lt)
 constructor
 ·intro b cs J;obtain⟨T,fz,M⟩:=h.phi b cs J;have I:=(Ir.1 M).1;exact⟨T,fz,by rw[D b I];exact M⟩
 ·intro l' x i;by_cases g:l'=l
  ·subst g;rw[Yb u]at i;cases i;exact ho
  ·rw[Z4 g]at i;exact(a l' x g i).1
 ·have s : ∀ l' x,l'≠l->σ[l']? = some (.obj x)->blk μ' l' x≠blk μ' l o:=by
   intro l' x g i e;rw[(a l' x g i).2]at e
   have:=(h.obj l' x i).blk_lt;omega
  intro B C F K g h1 h2;by_cases e1:B=l
  ·subst e1;rw[Yb u]at h1;cases h1;rw[Z4 (aY g)]at h2;exact aY (s C K (aY g) h2)
  ·rw[Z4 e1]at h1;by_cases e2:C=l
   ·subst e2;rw[Yb u]at h2;cases h2;exact s B F e1 h1
   ·rw[Z4 e2]at h2;rw[(a B F e1 h1).2,(a C K e2 h2).2];exact h.apart B C F K g h1 h2
 ·intro l' n q;by_cases e1:l'=l
  ·subst e1;rw[Yb u]at q;rcases q with q|q <;> cases q
  ·rw[Z4 e1]at q;rw[y l' e1];exact h.fresh l' n q
 ·intro l' x i;by_cases e1:l'=l
  ·subst e1;rw[Yb u]at i;cases i;exact .inl (Iz h.size hb)
  ·rw[Z4 e1]at i;rw[(a l' x e1 i).2];exact h.own l' x i
 ·exact H.trans h.os
 ·exact j.trans h.tape
 ·exact r.trans h.output
 ·exact Iz h.size k
 ·intro b z E;rw[D b (aT z h.size)];exact h.frame b z E
 ·exact h.Φle
 ·exact h.μle.trans L
 ·exact h.dom
 ·exact h.laid
def Good.drew{c:Ctx}{μ:Mu}{Φ:Ye}{σ:ZN}{w:World}(h:Good c μ Φ σ w):Good c μ Φ σ {w with drawn:=w.drawn+1}:=
 ⟨h.phi,λl o ho=>by
  have:=(h.obj l o ho).keep (w':={w with drawn:=w.drawn+1}) (Mu.le.refl _) (λ_=>rfl) (Ye.le.refl _) rfl rfl
  exact this.1,h.apart,h.fresh,h.own,h.os,h.tape,h.output,h.size,h.frame,h.Φle,h.μle,h.dom,h.laid⟩
def Ye.add(Φ:Ye)(b:Nat)(cs:Array Value):Ye:=λa=>if a=b then some cs else Φ a
def Good.freeze{c:Ctx}{μ:Mu}{Φ:Ye}{σ:ZN}{w:World}{l:Nat}{fz:Bool}{ty sz:Nat}{xs:List PV}(h:Good c μ Φ σ w)(r:σ[l]? = some (.obj (.row fz ty sz xs))):
  ∃ Φ' B C cs,Φ.le Φ'∧Good c μ Φ' (σ.set l (.obj (.row true ty sz xs))) w∧μ l xs.length=some (B,C,sz)∧Φ' B=some cs∧cs.size=C*sz∧xs.length<=C∧(∀ x∈xs,x.cells.length=sz) ∧
   Ub Φ (cs.toList.take (xs.length*sz)) (flat xs)∧X5 (cs.toList.take (xs.length*sz)):=by
 have A:=h.obj l _ r;obtain⟨B,C,cs,h1,h2,h3,F,N,X,M,J,H,D⟩:=A;have i:blk μ l (.row fz ty sz xs)=B:=by simp[blk,h1]
 have j:blk μ l (.row true ty sz xs)=B:=by simp[blk,h1]
 have q:Φ.le (Φ.add B cs):=by
  intro b x a;unfold Ye.add;split
  ·rename_i e;subst e;rw[D]at a;cases fz <;> simp_all
  ·exact a
 refine⟨Φ.add B cs,B,C,cs,q,?_,h1,by simp[Ye.add],F,N,M,J,H⟩;have k : ∀ l' x,l'≠l->σ[l']? = some (.obj x)->H5 μ (Φ.add B cs) w l' x:=by intro l' x g a;have E:=h.obj l' x a;have y:=h.apart l' l x _ g a r;rw[i]at y;exact(E.keep (Mu.le.refl _) (λ_=>rfl) q (by simp[Ye.add,y]) rfl).1
 constructor
 ·intro b x a;unfold Ye.add at a;split at a
  ·rename_i e;subst e;cases a;obtain⟨z,h3,_⟩:=h3;exact⟨_,_,h3⟩
  ·exact h.phi b x a
 ·intro l' x a;by_cases g:l'=l
  ·subst g;rw[Yb r]at a;cases a;exact⟨B,C,cs,h1,h2,h3,F,N,X,M,J.mono q,H,by simp[Ye.add]⟩
  ·rw[Z4 g]at a;exact k l' x g a
 ·intro K L S T g k1 Q;have I : ∀ l' o',(σ.set l (.obj (.row true ty sz xs)))[l']? = some (.obj o')-> ∃ o'',σ[l']? = some (.obj o'')∧blk μ l' o'=blk μ l' o'':=by
   intro l' o' a;by_cases e:l'=l
   ·subst e;rw[Yb r]at a;cases a;exact⟨_,r,by rw[i,j]⟩
   ·rw[Z4 e]at a;exact⟨_,a,rfl⟩
  obtain⟨P,U,u⟩:=I K S k1;obtain⟨V,O,W⟩:=I L T Q;rw[u,W];exact h.apart K L P V g U O
 ·intro l' n s;by_cases u:l'=l
  ·subst u;rw[Yb r]at s;rcases s with s|s <;> cases s
  ·rw[Z4 u]at s;exact h.fresh l' n s
 ·intro l' x a;by_cases u:l'=l
  ·subst u;rw[Yb r]at a;cases a;rw[j,<- i];exact h.own _ _ r
  ·rw[Z4 u]at a;exact h.own l' x a
 ·exact h.os
 ·exact h.tape
 ·exact h.output
 ·exact h.size
 ·exact h.frame
 ·exact h.Φle.trans q
 ·exact h.μle
 ·intro b x a;unfold Ye.add at a;split at a
  ·rename_i e;subst e
   have:=h.own l _ r;rw[i]at this;exact .inr this
  ·exact h.dom b x a
 ·exact h.laid
section
def Kh{α:Type}{o:Option α}{σ a:ZN}{x:α}(h:(HM.ofOpt o).run σ=some (x,a)):o=some x∧a=σ:=by
 cases o with
 | none=>simp[HM.ofOpt,HM.run]at h
 | some y=>simp[HM.ofOpt,HM.run]at h;simp[h.1,h.2]
def ZJ{α:Type}{y:α}{σ a:ZN}{x:α}(h:(HM.ret y).run σ=some (x,a)):x=y∧a=σ:=by simp[HM.run]at h;simp[h.1,h.2]
def Vx{α:Type}{l:Nat}{k:AObj->HM α}{σ a:ZN}{x:α}(h:(HM.get l k).run σ=some (x,a)): ∃ o,σ[l]? = some (.obj o)∧(k o).run σ=some (x,a):=by
 simp only[HM.run]at h;split at h
 ·rename_i o ho;exact⟨o,ho,h⟩
 ·cases h
def Td{α:Type}{l:Nat}{o:AObj}{k:HM α}{σ a:ZN}{x:α}(h:(HM.put l o k).run σ=some (x,a)):(∃ o',σ[l]? = some (.obj o'))∧k.run (σ.set l (.obj o))=some (x,a):=by
 simp only[HM.run]at h;split at h
 ·rename_i o ho;exact⟨⟨o,ho⟩,h⟩
 ·cases h
def Cc{α:Type}{l:Nat}{o:AObj}{k:HM α}{σ a:ZN}{x:α}(h:(HM.new l o k).run σ=some (x,a)):σ[l]? = some .fresh∧k.run (σ.set l (.obj o))=some (x,a):=by
 simp only[HM.run]at h;split at h
 ·rename_i ho;exact⟨ho,h⟩
 ·cases h
def Zy{α:Type}{σ a:ZN}{x:α}(h:(HM.fail:HM α).run σ=some (x,a)):False:=by simp[HM.run]at h
def YU{α:Type}{b:Bool}{k:HM α}{σ a:ZN}{x:α}(h:(HM.req b k).run σ=some (x,a)):b=true∧k.run σ=some (x,a):=by
 cases b
 ·simp[HM.run]at h
 ·exact⟨rfl,h⟩
def pv1:Value->Option PV
 | .bool b=>some (.bool b)
 | .int k n=>some (.int k n)
 | .string s=>some (.str s.data.toList)
 | .pointer none=>some .nilp
 | .slice none 0 0=>some (.sl 0 true [])
 | .map none=>some .nilmap
 | .nilFunc=>some .nilfn
 | .nilIface=>some .nili
 | .func (.func f) cs ds=>if cs.size=0∧ds.size=0 then some (.fn f)else none
 | _=>none
def Wz{α β:Type}(f:α->Option β):List α->Option (List β)
 | []=>some []
 | x::xs=>(f x).bind λy=>(Wz f xs).map (y:: ·)
def Dh:Value->Option PV
 | .agg cs=>(Wz pv1 cs.toList).map .agg
 | v=>pv1 v
def VM{α β:Type}{f:α->Option β}: ∀ {l:List α} {r:List β},Wz f l=some r->l.length=r.length∧ ∀ (j:Nat) x y,l[j]? = some x->r[j]? = some y->f x=some y:=by
 intro l
 induction l with
 | nil=>intro r h;cases h;simp
 | cons x xs ih=>
  intro r h;simp only[Wz,Ib,Cm]at h;obtain⟨y,g,ys,e,rfl⟩:=h;obtain⟨h1,h2⟩:=ih e;refine⟨by simp[h1],?_⟩;intro j a b ha hb;cases j with
  | zero=>simp at ha hb;subst ha hb;exact g
  | succ j=>simp at ha hb;exact h2 j a b ha hb
def b3p{Φ:Ye}{v:Value}{p:PV}(h:pv1 v=some p):RP Φ v p∧v.oneCell'=true∧p.one=true:=by
 unfold pv1 at h;split at h
 ·cases h;exact⟨.bool _,rfl,rfl⟩
 ·cases h;exact⟨.int _ _,rfl,rfl⟩
 ·cases h;exact⟨.str _,rfl,rfl⟩
 ·cases h;exact⟨.nilp,rfl,rfl⟩
 ·cases h;exact⟨.sl0 _ _ _ _ (λ_=>rfl),rfl,rfl⟩
 ·cases h;exact⟨.nilmap,rfl,rfl⟩
 ·cases h;exact⟨.nilfn,rfl,rfl⟩
 ·cases h;exact⟨.nili,rfl,rfl⟩
 ·rename_i f cs ds;split at h
  ·rename_i e;cases h;have a:cs = #[]:=by simpa using e.1
   have b:ds = #[]:=by simpa using e.2
   subst a b;exact⟨.fn _,rfl,rfl⟩
  ·cases h
 ·cases h
def Cq{Φ:Ye}{v:Value}{p:PV}(h:Dh v=some p):RP Φ v p:=by
 unfold Dh at h;split at h
 ·rename_i cs;rw[Cm]at h;obtain⟨ps,hps,rfl⟩:=h;obtain⟨h1,h2⟩:=VM hps;refine .agg _ _ (by simpa using h1) ?_ ?_
  ·intro v a;obtain⟨j,i,e⟩:=IZ (Array.mem_toList_iff.2 a);have b:j<ps.length:=by omega
   exact(b3p (Φ:=Φ) (h2 j v ps[j] (by rw[Ia i,e]) (by rw[Ia b]))).2.1
  ·intro j v x a g;exact(b3p (h2 j v x (by simpa using a) g)).1
 ·exact(b3p h).1
def Qq{v:Value}{p:PV}(h:Dh v=some p):p.cellsOk=true:=by
 unfold Dh at h;split at h
 ·rw[Cm]at h;obtain⟨ps,_,rfl⟩:=h;rfl
 ·have:=(b3p (Φ:=λ_=>none) h).2.2;cases p <;> simp_all[PV.one,PV.cellsOk]
def YL:Operand->Option IOp
 | .tmp t=>some (.t t)
 | .const v=>(Dh v).map .c
 | .func f=>some (.c (.fn f))
 | .global _=>none
section
variable {μ:Mu} {Φ:Ye}
theorem Xa{v:Value}{p:PV}(h:R μ Φ v (.pv p)):RP Φ v p:=by cases h;assumption
theorem RL.nil:RL μ Φ [] []:=⟨rfl,λj v x h=>by simp at h⟩
theorem RL.cons{v:Value}{x:AV}{cs:List Value}{xs:List AV}(h:R μ Φ v x)(k:RL μ Φ cs xs):RL μ Φ (v::cs) (x::xs):=
 ⟨by simp[k.1],λj a b ha hb=>by
  cases j with
  | zero=>simp at ha hb;subst ha hb;exact h
  | succ j=>simp at ha hb;exact k.2 j a b ha hb⟩
theorem RL.uncons{cs:List Value}{x:AV}{xs:List AV}(h:RL μ Φ cs (x::xs)): ∃ v vs,cs=v::vs∧R μ Φ v x∧RL μ Φ vs xs:=by
 cases cs with
 | nil=>have:=h.1;simp at this
 | cons v vs=>exact⟨v,vs,rfl,h.2 0 v x rfl rfl,by have:=h.1;simpa using this,λj a b ha hb=>h.2 (j+1) a b (by simpa using ha) (by simpa using hb)⟩
theorem RL.unnil{cs:List Value}(h:RL μ Φ cs []):cs=[]:=by have:=h.1;simpa using this
theorem RL.at_{cs:List Value}{xs:List AV}(h:RL μ Φ cs xs){j:Nat}{x:AV}(b:xs[j]? = some x): ∃ v,cs[j]? = some v∧R μ Φ v x:=by
 have e:=(Ic.1 b).1;have a:j<cs.length:=by rw[h.1];exact e
 exact⟨cs[j],by rw[Ia a],h.2 j _ x (by rw[Ia a]) b⟩
theorem Ub.at_{cs:List Value}{xs:List PV}(h:Ub Φ cs xs){j:Nat}{x:PV}(b:xs[j]? = some x): ∃ v,cs[j]? = some v∧RP Φ v x:=by
 have e:=(Ic.1 b).1;have a:j<cs.length:=by rw[h.1];exact e
 exact⟨cs[j],by rw[Ia a],h.2 j _ x (by rw[Ia a]) b⟩
theorem Ub.toRL{cs:List Value}{xs:List PV}(h:Ub Φ cs xs):RL μ Φ cs (xs.map .pv):=
 ⟨by simp[h.1],λj v x b a=>by
  rw[Im]at a;obtain⟨p,e,rfl⟩:=Cm.1 a
  exact .pv _ _ (h.2 j v p b e)⟩
theorem RL.drop{cs:List Value}{xs:List AV}(h:RL μ Φ cs xs)(n:Nat):RL μ Φ (cs.drop n) (xs.drop n):=⟨by simp[h.1],λj v x b a=>h.2 (n+j) v x (by simpa using b) (by simpa using a)⟩
theorem RL.take{cs:List Value}{xs:List AV}(h:RL μ Φ cs xs)(n:Nat):RL μ Φ (cs.take n) (xs.take n):=
 ⟨by simp[h.1],λj v x a b=>by
  rw[Ip]at a b;split at a
  ·rename_i e;rw[if_pos e]at b;exact h.2 j v x a b
  ·cases a⟩
theorem RL.append{cs ds:List Value}{xs ys:List AV}(h:RL μ Φ cs xs)(k:RL μ Φ ds ys):RL μ Φ (cs++ds) (xs++ys):=
 ⟨by simp[h.1,k.1],λj v x a b=>by
  rw[aj]at a b;rw[h.1]at a;split at a
  ·rename_i e;rw[if_pos e]at b;exact h.2 j v x a b
  ·rename_i e;rw[if_neg e]at b;exact k.2 _ v x a b⟩
theorem Ub.drop{cs:List Value}{xs:List PV}(h:Ub Φ cs xs)(n:Nat):Ub Φ (cs.drop n) (xs.drop n):=⟨by simp[h.1],λj v x b a=>h.2 (n+j) v x (by simpa using b) (by simpa using a)⟩
theorem Ub.take{cs:List Value}{xs:List PV}(h:Ub Φ cs xs)(n:Nat):Ub Φ (cs.take n) (xs.take n):=
 ⟨by simp[h.1],λj v x a b=>by
  rw[Ip]at a b;split at a
  ·rename_i e;rw[if_pos e]at b;exact h.2 j v x a b
  ·cases a⟩
theorem Ub.append{cs ds:List Value}{xs ys:List PV}(h:Ub Φ cs xs)(k:Ub Φ ds ys):Ub Φ (cs++ds) (xs++ys):=
 ⟨by simp[h.1,k.1],λj v x a b=>by
  rw[aj]at a b;rw[h.1]at a;split at a
  ·rename_i e;rw[if_pos e]at b;exact h.2 j v x a b
  ·rename_i e;rw[if_neg e]at b;exact k.2 _ v x a b⟩
theorem X5.drop{cs:List Value}(h:X5 cs)(n:Nat):X5 (cs.drop n):=λv a=>h v (IB a)
theorem X5.take{cs:List Value}(h:X5 cs)(n:Nat):X5 (cs.take n):=λv a=>h v (IE a)
theorem X5.append{cs ds:List Value}(h:X5 cs)(k:X5 ds):X5 (cs++ds):=λv a=>by
 rcases Ij.1 a with a|a
 ·exact h v a
 ·exact k v a
theorem Cx{v:Value}{p:PV}(h:RP Φ v p)(i:p.cellsOk=true):Ub Φ v.cells.toList p.cells∧X5 v.cells.toList:=by
 have e : ∀ (g:v.cells = #[v]) (hc:p.cells=[p]) (h1:v.oneCell'=true),Ub Φ v.cells.toList p.cells∧X5 v.cells.toList:=by
  intro g hc h1;rw[g,hc];refine⟨⟨rfl,λj a b ha hb=> ?_⟩,λa ha=>by simp at ha;subst ha;exact h1⟩;cases j with
  | zero=>simp at ha hb;subst ha hb;exact h
  | succ j=>simp at ha
 cases h with
 | agg cs xs hn ho h=>exact⟨⟨by simpa [aH,PV.cells]using hn,λj a b ha hb=>h j a b (by simpa [aH]using ha) hb⟩,λa ha=>ho a (by simpa [aH]using ha)⟩
 | tup cs xs hn h=>simp[PV.cellsOk]at i
 | raw v h1=>exact e (by cases v <;> first|rfl|simp[fC]at h1) rfl h1
 | _=>exact e rfl rfl rfl
theorem a4b{v:Value}{x:AV}(h:R μ Φ v x)(i:x.cellsOk=true):RL μ Φ v.cells.toList x.cells∧X5 v.cells.toList:=by
 have g : ∀ (l:v.cells = #[v]) (hc:x.cells=[x]) (h1:v.oneCell'=true),RL μ Φ v.cells.toList x.cells∧X5 v.cells.toList:=by intro l hc h1;rw[l,hc];exact⟨RL.cons h RL.nil,λa ha=>by simp at ha;subst ha;exact h1⟩
 cases h with
 | pv _ p h'=>
  have k:p.cellsOk=true:=by cases p <;> simp_all[AV.cellsOk,PV.cellsOk]
  obtain⟨h1,h2⟩:=Cx h' k;have e:AV.cells (.pv p)=p.cells.map .pv:=by cases p <;> rfl
  rw[e];exact⟨h1.toRL,h2⟩
 | agg cs xs hn ho h'=>exact⟨⟨by simpa [aH,AV.cells]using hn,λj a b ha hb=>h' j a b (by simpa [aH]using ha) hb⟩,λa ha=>ho a (by simpa [aH]using ha)⟩
 | tup cs xs hn h'=>simp[AV.cellsOk]at i
 | junk=>simp[AV.cellsOk]at i
 | undef=>simp[AV.cellsOk]at i
 | _=>exact g rfl rfl rfl
theorem c9a: ∀ {xs:List AV} {ps:List PV},e1l xs=some ps->xs=ps.map .pv:=by
 intro xs
 induction xs with
 | nil=>intro ps h;cases h;rfl
 | cons x xs ih=>intro ps h;cases x <;> simp[e1l]at h;obtain⟨qs,a,rfl⟩:=h;simp[ih a]
theorem a3w{cs:List Value}{xs:List AV}(h:RL μ Φ cs xs)(ho:X5 cs):R μ Φ (.agg cs.toArray) (d7p xs):=by
 unfold d7p;split
 ·rename_i ps hps;have e:=c9a hps;subst e;refine .pv _ _ (.agg _ _ (by simpa using h.1) (λv a=>ho v (by simpa using a)) ?_);intro j v p a g;exact Xa (h.2 j v (.pv p) (by simpa using a) (by simp[g]))
 ·exact .agg _ _ (by simpa using h.1) (λv a=>ho v (by simpa using a)) (λj v x a b=>h.2 j v x (by simpa using a) b)
theorem Yj{a:Act}{env:List AV}{x:Operand}{y:IOp}(h:XN μ Φ a.tmps env)(b:YL x=some y):R μ Φ (a.eval x) (ev env y):=by
 cases x with
 | tmp t=>
  simp[YL]at b;subst b;simp only[Act.eval,ev];by_cases ht:t<env.length
  ·obtain⟨v,l,hr⟩:=h.at_ (j:=t) (x:=env[t]) (Ia ht);have e:a.tmps.getD t aL=v:=by
    have:a.tmps[t]? = some v:=by simpa using l
    simp[Iq,this]
   have i:env.getD t .undef=env[t]:=by simp[I4,Ia ht]
   rw[e,i];exact hr
  ·have hl:=h.1;have e:a.tmps.getD t aL=aL:=by
    have h2:a.tmps.size=env.length:=by simpa using h.1
    have:a.tmps[t]? = none:=bv (by rw[h2];exact eQ ht);simp[Iq,this]
   have i:env.getD t .undef = .undef:=by simp[I4,aI (eQ ht)]
   rw[e,i];exact .undef
 | const v=>simp only[YL,Cm]at b;obtain⟨p,k,rfl⟩:=b;exact .pv _ _ (Cq k)
 | func f=>simp[YL]at b;subst b;exact .pv _ _ (.fn f)
 | global g=>simp[YL]at b
end
def Ku(w:World)(B a:Nat)(cs:List Value):Prop:= ∀ (j:Nat) v,cs[j]? = some v->w.cell? ⟨B,a+j,none⟩=some v
def VZ(B o n:Nat):(⟨B,o,none⟩:Addr).add n=⟨B,o+n,none⟩:=by unfold Addr.add;split <;> simp_all
def UW{w:World}{B:Nat}{cs:Array Value}{T:TypeId}{fz:Nat×Nat}(h:w.heap[B]? = some (.cells cs T fz))(o n:Nat):Ku w B o ((cs.toList.drop o).take n):=by
 intro j v a;rw[Ip]at a;split at a
 ·simp only[Iw,ah]at a;simp[bH,h,a]
 ·cases a
def Ve(P:Program)(t:TypeId):Bool:=
 match P.underlying t with
 | some (.struct _)|some (.array _ _)=>true
 | _=>false
def SH{P:Program}{w:World}{t:TypeId}(h:(P.underlying t).isSome=true):(isAgg t).run P w = .ok (Ve P t) w:=by
 cases hu:P.underlying t with
 | none=>simp[hu]at h
 | some d=>simp only[isAgg,Ig,run_underlying hu,Il,Ve,hu];cases d <;> rfl
def YH{P:Program}{w:World}{t:TypeId}{i:TypeInfo}(h:P.info? t=some i):(sizeOf t).run P w = .ok i.size w:=by simp[sizeOf,typeInfo,h]
def e0r{P:Program}{μ:Mu}{Φ:Ye}{w:World}{t:TypeId}{i:TypeInfo}{B a o:Nat}{cs:List Value}{xs:List AV}{y:AV}
  (hu:(P.underlying t).isSome=true) (hi:P.info? t=some i) (hc:Ku w B a cs) (hr:RL μ Φ cs xs) (ho:X5 cs)
  (b:Nq (Ve P t) i.size xs o=some y) : ∃ v,(loadVar t ⟨B,a+o,none⟩).run P w = .ok v w∧R μ Φ v y:=by
 unfold Nq at b;simp only[loadVar,Ig,SH hu,Il];cases h:Ve P t with
 | true=>
  simp only[h,if_true]at b ⊢;split at b
  ·rename_i hle;cases b;refine⟨.agg ((cs.drop o).take i.size).toArray,?_,?_⟩
   ·have g:((cs.drop o).take i.size).length=i.size:=by simp[hr.1];omega
    have:=run_loadCells_list (P:=P) w ⟨B,a+o,none⟩ ((cs.drop o).take i.size) (λj v e=>by
     rw[VZ];rw[Ip]at e;split at e
     ·rw[Iw]at e
      have:=hc (o+j) v e
      rwa [<- I5]at this
     ·cases e)
    rw[g]at this;simp[YH hi,this]
   ·exact a3w ((hr.drop o).take _) ((ho.drop o).take _)
  ·cases b
 | false=>simp only[h,if_false,IA]at b ⊢;obtain⟨v,e,k⟩:=hr.at_ b;exact⟨v,by simp[hc o v e],k⟩
def d9i{Φ:Ye}{v:Value}{sh:Sh}{p:PV}(h:RP Φ v p)(e:sh.fit p=true):RP Φ v (sh.co p):=by
 cases sh with
 | any=>exact h
 | int k=>cases p <;> simp[Sh.fit]at e;subst e;exact h
 | str=>cases p <;> simp[Sh.fit]at e;exact h
 | bool=>cases p <;> simp[Sh.fit]at e;exact h
 | sl sz=>
  cases p <;> simp[Sh.fit]at e;rename_i sz' t xs;rcases e with rfl|rfl
  ·exact h
  ·cases h with
   | sl0 a c _ _ h=>exact .sl0 a c _ _ h
   | sl b off cs c _ _ _ u hb hc ht hs hu hr=>exact .sl b off cs c sz t [] u hb hc ht (λx g=>by simp at g) hu hr
def g3f{Φ:Ye}{cs:List Value}{ps:List PV}(h:Ub Φ cs ps): ∀ (shs:List Sh) (o:Nat),o+shs.length<=ps.length->VJ ps o shs=true->Ub Φ ((cs.drop o).take shs.length) (EC ps o shs):=by
 intro shs
 induction shs with
 | nil=>intro o _ _;exact⟨by simp[EC],λj v x g=>by simp at g⟩
 | cons sh shs ih=>
  intro o ho k;simp only[VJ,Ie]at k;simp only[IL]at ho;have b:o<ps.length:=by omega
  have a:o<cs.length:=by rw[h.1];exact b
  have hd:ps.getD o default=ps[o]:=by simp[I4,Ia b]
  rw[hd]at k;obtain⟨h1,h2⟩:=ih (o+1) (by omega) k.2;have e:(cs.drop o).take (sh::shs).length=cs[o]::(cs.drop (o+1)).take shs.length:=by rw[I7 a,IL,dR]
  rw[e];simp only[EC,hd];refine⟨by simp only[IL,h1],?_⟩;intro j v x g i;cases j with
  | zero=>simp at g i;subst g i;exact d9i (h.2 o _ _ (Ia a) (Ia b)) k.1
  | succ j=>simp at g i;exact h2 j v x g i
def c2c{P:Program}{μ:Mu}{Φ:Ye}{σ u:ZN}{w:World}{t:TypeId}{i:TypeInfo}{B b o:Nat}{cs:List Value}{ps:List PV}{shs:List Sh}{y:AV}
  (hu:(P.underlying t).isSome=true) (hi:P.info? t=some i) (r:shs.length=i.size) (hc:Ku w B b cs) (hr:Ub Φ cs ps) (ho:X5 cs)
  (g:(e1c (Ve P t) shs ps o).run σ=some (y,u)):u=σ∧ ∃ v,(loadVar t ⟨B,b+o,none⟩).run P w = .ok v w∧R μ Φ v y:=by
 unfold e1c at g;obtain⟨s,g⟩:=YU g;simp only[Ie,decide_eq_true_eq]at s;obtain⟨k,a⟩:=s;simp only[loadVar,Ig,SH hu,Il];cases l:Ve P t with
 | true=>
  simp only[l,if_true]at g ⊢;obtain⟨rfl,rfl⟩:=ZJ g;refine⟨rfl,.agg ((cs.drop o).take i.size).toArray,?_,?_⟩
  ·have h:((cs.drop o).take i.size).length=i.size:=by simp[hr.1];omega
   have:=run_loadCells_list (P:=P) w ⟨B,b+o,none⟩ ((cs.drop o).take i.size) (λj v e=>by
    rw[VZ];rw[Ip]at e;split at e
    ·rw[Iw]at e
     have:=hc (o+j) v e
     rwa [<- I5]at this
    ·cases e)
   rw[h]at this;simp[YH hi,this]
  ·have h1:=g3f hr shs o k a;rw[r]at h1;exact .pv _ _ (.agg _ _ (by simpa using h1.1) (λv e=>(ho.drop o).take i.size v (by simpa using e)) (λj v x e A=>h1.2 j v x (by simpa using e) A))
 | false=>
  simp only[l,if_false,IA]at g ⊢;split at g
  ·rename_i sh;obtain⟨rfl,rfl⟩:=ZJ g;simp only[IL,fA,dV]at k;have q:o<ps.length:=by omega
   have hd:ps.getD o default=ps[o]:=by simp[I4,Ia q]
   simp only[VJ,Ie]at a;obtain⟨v,e,z⟩:=hr.at_ (Ia q);rw[hd]at a ⊢;exact⟨rfl,v,by simp[hc o v e],.pv _ _ (d9i z a.1)⟩
  ·exact(Zy g).elim
def Ul{xs:List PV}{sz:Nat}(h : ∀ x∈xs,x.cells.length=sz):(flat xs).length=xs.length*sz:=by
 induction xs with
 | nil=>simp[flat]
 | cons x xs ih=>have h1:=h x (by simp);have h2:=ih (λy a=>h y (by simp[a]));simp only[flat,dx,IU,IL,II,aP]at h2 ⊢;omega
def VK(x:PV)(xs:List PV):flat (x::xs)=x.cells++flat xs:=rfl
def BM(xs ys:List PV):flat (xs++ys)=flat xs++flat ys:=by simp[flat]
def D6{xs:List PV}{sz:Nat}(h : ∀ x∈xs,x.cells.length=sz): ∀ n,(flat xs).drop (n*sz)=flat (xs.drop n):=by
 induction xs with
 | nil=>intro n;simp[flat]
 | cons x xs ih=>
  intro n;have h1:=h x (by simp);cases n with
  | zero=>simp
  | succ n=>rw[VK,List.drop_succ_cons,<- ih (λy a=>h y (by simp[a])) n,II,aP,dW,<- h1,eT];simp
def Sk{xs:List PV}{sz:Nat}(h : ∀ x∈xs,x.cells.length=sz): ∀ n,(flat xs).take (n*sz)=flat (xs.take n):=by
 induction xs with
 | nil=>intro n;simp[flat]
 | cons x xs ih=>
  intro n;have h1:=h x (by simp);cases n with
  | zero=>simp[flat]
  | succ n=>rw[VK,dR,VK,<- ih (λy a=>h y (by simp[a])) n,II,aP,dW,<- h1,eU];rw[I1 (by omega)];simp
def Ee{xs:List PV}{sz i:Nat}{y:PV}(h : ∀ x∈xs,x.cells.length=sz)(a:xs[i]? = some y):((flat xs).drop (i*sz)).take sz=y.cells:=by
 have hi:=(Ic.1 a).1;have e:xs[i]=y:=by rw[Ia hi]at a;exact fw a
 rw[D6 h,I7 hi,e,VK,<- h y (e▸eX hi)];simp
def RP.sl_cells{Φ:Ye}{w:World}{v:Value}{sz:Nat}{t:Bool}{xs:List PV}(h:RP Φ v (.sl sz t xs))(y:Qg Φ w)(r:xs≠[]):
  ∃ b off c cs q,v = .slice (some ⟨b,off,none⟩) xs.length c∧Φ b=some cs∧xs.length<=c∧(t=true->c=xs.length)∧(∀ x∈xs,x.cells.length=sz)∧Ku w b off q∧Ub Φ q (flat xs)∧X5 q:=by
 cases h with
 | sl0=>exact absurd rfl r
 | sl b off cs c _ _ _ u hb hc ht hs hu hr=>
  obtain⟨T,fz,s⟩:=y b cs hb;refine⟨b,off,c,cs,(aX (flat xs).length).map u,rfl,hb,hc,ht,hs,?_,⟨by simp,?_⟩,?_⟩
  ·intro j v e;rw[Im]at e;obtain⟨k,g,rfl⟩:=Cm.1 e;obtain⟨i,rfl⟩:j<(flat xs).length∧j=k:=by have:=Ic.1 g;obtain⟨a,b⟩:=this;simp at a b;exact⟨a,b⟩
   have:=(hu j _ (Ia i)).1;simp[bH,s,this]
  ·intro j v x e l;rw[Im]at e;obtain⟨k,g,rfl⟩:=Cm.1 e;obtain⟨i,rfl⟩:j<(flat xs).length∧j=k:=by have:=Ic.1 g;obtain⟨a,b⟩:=this;simp at a b;exact⟨a,b⟩
   exact hr j x l
  ·intro v e;obtain⟨k,g,rfl⟩:=IP.1 e;simp at g;exact(hu k _ (Ia g)).2
def RP.rptr_cells{Φ:Ye}{w:World}{v:Value}{xs:List PV}(h:RP Φ v (.rptr xs))(s:Qg Φ w):
  ∃ b off q,v = .pointer (some ⟨b,off,none⟩)∧Ku w b off q∧Ub Φ q xs∧X5 q:=by
 cases h with
 | rptr b off cs _ u hb hu hr=>
  obtain⟨T,fz,r⟩:=s b cs hb;refine⟨b,off,(aX xs.length).map u,rfl,?_,⟨by simp,?_⟩,?_⟩
  ·intro j v e;rw[Im]at e;obtain⟨k,g,rfl⟩:=Cm.1 e;obtain⟨i,rfl⟩:j<xs.length∧j=k:=by have:=Ic.1 g;obtain⟨a,b⟩:=this;simp at a b;exact⟨a,b⟩
   have:=(hu j _ (Ia i)).1;simp[bH,r,this]
  ·intro j v x e l;rw[Im]at e;obtain⟨k,g,rfl⟩:=Cm.1 e;obtain⟨i,rfl⟩:j<xs.length∧j=k:=by have:=Ic.1 g;obtain⟨a,b⟩:=this;simp at a b;exact⟨a,b⟩
   exact hr j x l
  ·intro v e;obtain⟨k,g,rfl⟩:=IP.1 e;simp at g;exact(hu k _ (Ia g)).2
end
section
def QV(P:Program)(s:Sem Next)(w:World)(K:Value->World->Prop):Prop:=
 match s.run P w with
 | .ok (.value v) w'=>K v w'
 | .ok .skip w'=>K aL w'
 | .ok (.enter f args) w'=>Calls P f args w' λe b=> ∃ v,e = .returned v∧K v b
 | _=>False
def VS(P:Program)(s:Sem Value)(w:World)(K:Value->World->Prop):Prop:= ∃ v w',s.run P w = .ok v w'∧K v w'
def YJ(c:Ctx)(μ:Mu)(Φ:Ye)(σ':ZN)(x:AV)(v:Value)(w':World):Prop:=∃ b Φ',μ.le b∧Φ.le Φ'∧Good c b Φ' σ' w'∧R b Φ' v x
def VS.gives{P:Program}{s:Sem Value}{w:World}{K:Value->World->Prop}(h:VS P s w K):QV P (do pure (.value (<- s))) w K:=by obtain⟨v,w',h1,h2⟩:=h;simp[QV,h1,h2]
def Zw{c:Ctx}{μ:Mu}{Φ:Ye}{σ:ZN}{w:World}{x:AV}{v:Value}(b:Good c μ Φ σ w)(h:R μ Φ v x):YJ c μ Φ σ x v w:=⟨μ,Φ,Mu.le.refl _,Ye.le.refl _,b,h⟩
section
variable {P:Program} {c:Ctx} {μ:Mu} {Φ:Ye} {σ σ':ZN} {w:World} {a:Act} {env:List AV} {L:Nat} {x:AV}
theorem a7n(h:Good c μ Φ σ w){l:Nat}{cs:List AV}(i:σ[l]? = some (.obj (.box cs))){B C S:Nat}(hm:μ l 0=some (B,C,S)):
  ∃ b T,w.heap[B]? = some (.cells b T (0,0))∧RL μ Φ b.toList cs∧X5 b.toList∧Ku w B 0 b.toList:=by
 obtain⟨B',C',S',T,b,h1,h2,h3,g,h5⟩:=h.obj l _ i;rw[hm]at h1;cases h1
 exact⟨b,T,h2,h3,g,λj v e=>by
  have:b[j]? = some v:=by simpa using e
  simp[bH,h2,this]⟩
theorem Dv(j:Good c μ Φ σ w){l:Nat}{fz:Bool}{ty sz:Nat}{xs:List PV}(g:σ[l]? = some (.obj (.row fz ty sz xs))){n B C S:Nat}(hn:xs.length=n)(hm:μ l n=some (B,C,S)):
  S=sz∧ ∃ b,Qa w B b ty n C∧b.size=C*sz∧xs.length<=C∧C<=maxLen∧(∀ x∈xs,x.cells.length=sz)∧Ub Φ (b.toList.take (xs.length*sz)) (flat xs)∧X5 (b.toList.take (xs.length*sz)):=by
 obtain⟨B',C',b,h1,h2,h3,e,r,q,i,k,h,h10⟩:=j.obj l _ g;rw[hn,hm]at h1;cases h1;exact⟨rfl,b,hn▸h3,e,r,q,i,k,h⟩
theorem b7x{b:Array Value}{sz i:Nat}{xs:List PV}{y:PV}{B n C:Nat}{ty:TypeId}(g:Qa w B b ty n C)(hs : ∀ x∈xs,x.cells.length=sz)
  (hr:Ub Φ (b.toList.take (xs.length*sz)) (flat xs)) (ho:X5 (b.toList.take (xs.length*sz))) (h:xs[i]? = some y) :
  Ku w B (i*sz) ((b.toList.drop (i*sz)).take sz)∧Ub Φ ((b.toList.drop (i*sz)).take sz) y.cells∧X5 ((b.toList.drop (i*sz)).take sz):=by
 have hi:=(Ic.1 h).1;have hle:i*sz+sz<=xs.length*sz:=by
  have:(i+1)*sz<=xs.length*sz:=IV _ hi
  rwa [II,aP]at this
 have e:((b.toList.take (xs.length*sz)).drop (i*sz)).take sz=(b.toList.drop (i*sz)).take sz:=by rw[aJ,dA,bg (by omega)]
 obtain⟨z,g,_⟩:=g;refine⟨UW g _ _,?_,?_⟩
 ·have:=(hr.drop (i*sz)).take sz;rw[e,Ee hs h]at this;exact this
 ·have:=(ho.drop (i*sz)).take sz
  rwa [e]at this
theorem h4r{t:TypeId}{i:TypeInfo}{shs:List Sh}{v:Value}{X:IOp}(hu:(P.underlying t).isSome=true)(hi:P.info? t=some i)(e:shs.length=i.size)(h:Good c μ Φ σ w)(k:R μ Φ v (ev env X))
  (hr:(WJ L env (.load (Ve P t) shs X)).run σ=some (x,σ')):VS P (bT t v) w (YJ c μ Φ σ' x):=by
 simp only[WJ]at hr;split at hr
 ·rename_i ps q;rw[q]at k;obtain⟨b,off,A,rfl,hc,F,ho⟩:=(Xa k).rptr_cells h.phi;obtain⟨rfl,u,h1,h2⟩:=c2c (P:=P) (μ:=μ) hu hi e hc F ho hr;exact⟨u,w,by simpa [bT,aK]using h1,Zw h h2⟩
 ·rename_i l o q;rw[q]at k;obtain⟨ob,g,hr⟩:=Vx hr;split at hr
  ·rename_i cs;obtain⟨D,rfl⟩:=Kh hr;rw[e]at D;cases k with
   | ptr _ _ B C S hm=>obtain⟨A,T,h1,h2,h3,r⟩:=a7n h g hm;obtain⟨u,k1,s⟩:=e0r (P:=P) hu hi r h2 h3 D;exact⟨u,w,by simpa [bT,aK]using k1,Zw h s⟩
  ·exact(Zy hr).elim
 ·rename_i l m j o q;rw[q]at k;obtain⟨ob,g,hr⟩:=Vx hr;split at hr
  ·rename_i fz ty sz xs;have y:=YU hr;clear hr;obtain⟨z,hr⟩:=y;simp only[Ie,beq_iff_eq,decide_eq_true_eq]at z;obtain⟨hn,H⟩:=z;have E:xs[j]? = some (xs.getD j default):=by simp[I4,Ia H]
   cases k with
   | eptr _ _ _ _ B C S hm=>obtain⟨rfl,A,h1,h2,h3,h3',r,N,M⟩:=Dv h g hn hm;obtain⟨I,K,J⟩:=b7x h1 r N M E;obtain⟨rfl,u,k1,s⟩:=c2c (P:=P) (μ:=μ) hu hi e I K J hr;exact⟨u,w,by simpa [bT,aK]using k1,Zw h s⟩
  ·exact(Zy hr).elim
 ·exact(Zy hr).elim
theorem RP.str'{s:ByteArray}{l:List UInt8}(h:s.data.toList=l):RP Φ (.string s) (.str l):=h ▸ .str s
theorem g3x{op:BinOp}{k:IntKind}{x y:Int}{r:PV}(hop:e0m op=false)(h:i4a op k x y=some (true,r))(t:TypeId): ∃ v,(binOp op t (.int k x) (.int k y)).run P w = .ok v w∧RP Φ v r:=by
 cases op <;> simp only[i4a,j4s,aR,Option.map_none,Ii,Ih,true_and,reduceCtorEq]at h
 case quo=>
  obtain⟨b,rfl⟩:=h;have b : ¬ y=0:=by simpa using b
  exact⟨_,by simp[binOp,fZ,b] <;> rfl,.int _ _⟩
 case rem=>
  obtain⟨b,rfl⟩:=h;have b : ¬ y=0:=by simpa using b
  exact⟨_,by simp[binOp,fZ,b] <;> rfl,.int _ _⟩
 case add=>subst h;exact⟨_,by simp[binOp,bz] <;> rfl,.int _ _⟩
 case sub=>subst h;exact⟨_,by simp[binOp,bz] <;> rfl,.int _ _⟩
 case mul=>subst h;exact⟨_,by simp[binOp,bz] <;> rfl,.int _ _⟩
 case and=>subst h;exact⟨_,by simp only[binOp,ne_eq,not_true_eq_false,if_false];rfl,.int _ _⟩
 case or=>subst h;exact⟨_,by simp only[binOp,ne_eq,not_true_eq_false,if_false];rfl,.int _ _⟩
 case xor=>subst h;exact⟨_,by simp only[binOp,ne_eq,not_true_eq_false,if_false];rfl,.int _ _⟩
 case andNot=>subst h;exact⟨_,by simp only[binOp,ne_eq,not_true_eq_false,if_false];rfl,.int _ _⟩
 all_goals (subst h;exact⟨_,by simp[binOp,Op.intCmp] <;> rfl,.bool _⟩)
theorem d5d{op:BinOp}{k e:IntKind}{x y:Int}{r:PV}(h:c7k op k x y=some (true,r))(t:TypeId): ∃ v,(binOp op t (.int k x) (.int e y)).run P w = .ok v w∧RP Φ v r:=by
 cases op <;> simp only[c7k,Ii,Ih,decide_eq_true_eq,reduceCtorEq]at h
 all_goals
  obtain⟨b,rfl⟩:=h;have b : ¬ y<0:=by omega
  exact⟨_,by simp[binOp,Op.shift,b] <;> rfl,.int _ _⟩
theorem g5i{op:BinOp}{a b:ByteArray}{r:PV}(h:i0o op a.data.toList b.data.toList=some (true,r))(t:TypeId): ∃ v,(binOp op t (.string a) (.string b)).run P w = .ok v w∧RP Φ v r:=by
 cases op <;> simp[i0o]at h
 case add=>
  obtain⟨h1,rfl⟩:=h;have e1:a.data.toList.length=a.size:=by simp
  have e2:b.data.toList.length=b.size:=by simp
  refine⟨.string (a++b),?_,RP.str' (by simp[ByteArray.data_append])⟩
  have:=run_string_add_sum (P:=P) w a b (by omega);simpa [binOp]using this
 all_goals (subst h;exact⟨_,by simp[binOp,Op.stringOp,bA] <;> rfl,.bool _⟩)
theorem Ti{k b:IntKind}(h:TU k b=true):k=b:=by cases k <;> cases b <;> first|rfl|simp[TU]at h
def NA(P:Program):Nat->List Field->Option (List Nat)
 | _,[]=>some []
 | k,f::fs=>if f.name ≠ "_" ∧f.offset=k then
   match P.underlying f.type with
   | some (.int _)=>(NA P (k+1) fs).map (0:: ·)
   | some .string=>(NA P (k+1) fs).map (1:: ·)
   | some .bool=>(NA P (k+1) fs).map (2:: ·)
   | _=>none
  else none
def c4d(P:Program)(op:BinOp)(t:TypeId)(y:Operand):Option Kd:=
 match P.underlying t with
 | some .bool=>some .bool
 | some (.pointer _)=>some .ptr
 | some (.interface _)=>match y with | .const _=>some .ifc|_=>none
 | some (.int _)|some .string=>some .num
 | some (.struct fs)=>if P.stoodInHeld t=false∧P.eqGuardType P.depth t=false then(NA P 0 fs.toList).map .agg else none
 | _=>none
theorem eqg{op:BinOp}{t:TypeId}{xo yo:Operand}{u v:Value}(hu:u ≠ .nilIface)(ha : ∀ cs,u ≠ .agg cs):(eqGuard op t xo yo u v).run P w = .ok () w:=by unfold eqGuard;cases u <;> first|exact absurd rfl hu|exact absurd rfl (ha _)|(cases op <;> rfl)
theorem Kb(t:TypeId)(x y:Value):bD t x y=aF (9999+1) t x y:=rfl
theorem Hg{P:Program}{w:World}{t:TypeId}{cs:Array Value}{k:Nat}{v:Value}(hu:(P.underlying t).isSome=true)(ha:Ve P t=false)(b:cs[k]? = some v):(part t cs k).run P w = .ok v w:=by unfold part;simp only[Ig,SH hu,ha,Il,b,IA,if_false];rfl
theorem c2e{d:Nat}{xs ys:Array Value}{ps qs:List PV}(hxn:xs.size=ps.length)(hyn:ys.size=qs.length)(Y : ∀ (j:Nat) v p,xs[j]? = some v->ps[j]? = some p->RP Φ v p)(Z : ∀ (j:Nat) v p,ys[j]? = some v->qs[j]? = some p->RP Φ v p):
  ∀ (C:List Field) (k:Nat) (ks:List Nat) (b:Bool),NA P k C=some ks->eqL ks (ps.drop k) (qs.drop k)=some b->(cB (d+1) xs ys C).run P w = .ok b w:=by
 intro C
 induction C with
 | nil=>intro k ks b y hb;simp only[NA,Ii]at y;subst y;simp only[cB,IW];cases z:ps.drop k <;> cases A:qs.drop k <;> rw[z,A]at hb <;> simp[eqL]at hb;subst hb;rfl
 | cons f C ih=>
  intro k ks b y hb;simp only[NA]at y;split at y
  ·rename_i hn;obtain⟨O,K⟩:=hn;have B : ∀ (n:Nat),(NA P (k+1) C).map (n:: ·)=some ks->Ve P f.type=false->(P.underlying f.type).isSome=true ->
     (∀ (p q:PV) (u v:Value) (r:Bool),eqL [n] [p] [q]=some r->RP Φ u p->RP Φ v q->(aF (d+1) f.type u v).run P w = .ok r w) ->
     (∀ (p q:PV) (i g:List PV) (e:List Nat) (b:Bool),eqL (n::e) (p::i) (q::g)=some b-> ∃ r l,eqL [n] [p] [q]=some r∧eqL e i g=some l∧b=(r&&l))->(cB (d+1) xs ys (f::C)).run P w = .ok b w:=by
    intro n hm ha hu he T;obtain⟨e,E,rfl⟩:=Cm.1 hm;cases z:ps.drop k with
    | nil=>rw[z]at hb;simp[eqL]at hb
    | cons p i=>
     cases A:qs.drop k with
     | nil=>rw[z,A]at hb;simp[eqL]at hb
     | cons q g=>
      rw[z,A]at hb;obtain⟨r,l,h1,h2,rfl⟩:=T p q i g e b hb;have J:k<ps.length:=by
       rcases bU k ps.length with h|h
       ·exact h
       ·rw[cK h]at z;cases z
      have H:k<qs.length:=by
       rcases bU k qs.length with h|h
       ·exact h
       ·rw[cK h]at A;cases A
      rw[I7 J,bi]at z;rw[I7 H,bi]at A;obtain⟨U,rfl⟩:=z;obtain⟨S,rfl⟩:=A;have ex:xs[k]? = some (xs[k]'(by omega)):=Ik (by omega);have X:ys[k]? = some (ys[k]'(by omega)):=Ik (by omega);have W:=Y k _ _ ex (Ia J);have V:=Z k _ _ X (Ia H);rw[U]at W;rw[S]at V;have N:=ih (k+1) e l E h2;have M:=he p q _ _ r h1 W V;rw[cB,if_pos O,K];simp only[Ig,Hg hu ha ex,Hg hu ha X,Il,M];cases r
      ·simp[IW]
      ·simpa using N
   have D : ∀ (P Q:Option Bool) (a:Bool) (b:Bool),P.map (λr=>a&&r)=some b-> ∃ l,P=some l∧b=(a&&l):=λP Q a b h=>by obtain⟨l,h1,h2⟩:=Cm.1 h;exact⟨l,h1,h2.symm⟩
   split at y
   ·rename_i kk hu;refine B 0 y (by simp[Ve,hu]) (by simp[hu]) ?_ ?_
    ·intro p q u v r h I F;cases p <;> cases q <;> simp[eqL]at h;split at h
     ·rename_i s;have s:=Ti s;subst s;simp[eqL]at h;subst h;cases I;cases F;exact run_equalIn_int w d f.type _ _ _ _ hu
     ·cases h
    ·intro p q i g e b h;cases p <;> cases q <;> simp only[eqL,reduceCtorEq]at h;split at h
     ·rename_i s;obtain⟨l,h1,rfl⟩:=D _ none _ _ h;exact⟨_,l,by simp[eqL,s],h1,rfl⟩
     ·cases h
   ·rename_i hu;refine B 1 y (by simp[Ve,hu]) (by simp[hu]) ?_ ?_
    ·intro p q u v r h I F;cases p <;> cases q <;> simp[eqL]at h;subst h;cases I;cases F;rw[run_equalIn_string w d f.type _ _ hu,bA,bA]
    ·intro p q i g e b h;cases p <;> cases q <;> simp only[eqL,reduceCtorEq]at h;obtain⟨l,h1,rfl⟩:=D _ none _ _ h;exact⟨_,l,by simp[eqL],h1,rfl⟩
   ·rename_i hu;refine B 2 y (by simp[Ve,hu]) (by simp[hu]) ?_ ?_
    ·intro p q u v r h I F;cases p <;> cases q <;> simp[eqL]at h;subst h;cases I;cases F;exact run_equalIn_bool' w d f.type _ _ hu
    ·intro p q i g e b h;cases p <;> cases q <;> simp only[eqL,reduceCtorEq]at h;obtain⟨l,h1,rfl⟩:=D _ none _ _ h;exact⟨_,l,by simp[eqL],h1,rfl⟩
   ·cases y
  ·cases y
theorem i0z{op:BinOp}{t:TypeId}{xo yo:Operand}{u v:Value}{X Y:IOp}{kd:Kd}(i:c4d P op t yo=some kd)(O:Good c μ Φ σ w)(hu:R μ Φ u (ev env X))(j:R μ Φ v (ev env Y))
  (hr:(WJ L env (.bin kd op X Y)).run σ=some (x,σ')):VS P (do eqGuard op t xo yo u v;binOp op t u v) w (YJ c μ Φ σ' x):=by
 simp only[WJ]at hr;split at hr
 case h_2=>exact(Zy hr).elim
 rename_i rq r h;have I:=YU hr;clear hr;obtain⟨rfl,hr⟩:=I;obtain⟨rfl,rfl⟩:=ZJ hr;generalize ev env X=X' at hu h;generalize ev env Y=Y' at j h;have s : ∀ v',(∃ z,(do eqGuard op t xo yo u v;binOp op t u v:Sem Value).run P w = .ok z w∧RP Φ z v')->v'=r->VS P (do eqGuard op t xo yo u v;binOp op t u v) w (YJ c μ Φ σ' (.pv r)):=by rintro _ ⟨z,h1,h2⟩ rfl;exact⟨z,w,h1,Zw O (.pv _ _ h2)⟩
 unfold j4p at h;split at h
 ·replace hu:=Xa hu;cases hu;replace j:=Xa j;cases j;refine s r ?_ rfl;have g:=λu v hu ha=>eqg (P:=P) (w:=w) (op:=op) (t:=t) (xo:=xo) (yo:=yo) (u:=u) (v:=v) hu ha
  split at h
  ·obtain⟨z,h1,h2⟩:=d5d (P:=P) (w:=w) (Φ:=Φ) h t;exact⟨z,by rw[Ig,g _ _ (by simp) (by simp)];exact h1,h2⟩
  ·rename_i y;split at h
   ·rename_i e;have e:=Ti e;subst e;obtain⟨z,h1,h2⟩:=g3x (P:=P) (w:=w) (Φ:=Φ) y h t;exact⟨z,by rw[Ig,g _ _ (by simp) (by simp)];exact h1,h2⟩
   ·cases h
 ·replace hu:=Xa hu;cases hu;replace j:=Xa j;cases j;refine s r ?_ rfl;have g:=λu v hu ha=>eqg (P:=P) (w:=w) (op:=op) (t:=t) (xo:=xo) (yo:=yo) (u:=u) (v:=v) hu ha
  obtain⟨z,h1,h2⟩:=g5i (P:=P) (w:=w) (Φ:=Φ) h t;exact⟨z,by rw[Ig,g _ _ (by simp) (by simp)];exact h1,h2⟩
 ·replace hu:=Xa hu;cases hu;replace j:=Xa j;cases j;refine s r ?_ rfl;have g:=λu v hu ha=>eqg (P:=P) (w:=w) (op:=op) (t:=t) (xo:=xo) (yo:=yo) (u:=u) (v:=v) hu ha
  have ht:P.underlying t=some .bool:=by unfold c4d at i;split at i <;> first|assumption|(simp at i)|(split at i <;> simp at i)
  have l : ∀ a b,(bD t (.bool a) (.bool b)).run P w = .ok (a==b) w:=λa b=>by rw[Kb];unfold aF;simp[run_underlying ht]
  unfold eqB at h;split at h
  ·cases h;exact⟨_,by rw[Ig,g _ _ (by simp) (by simp)];simp[binOp,l] <;> rfl,.bool _⟩
  ·cases h;exact⟨_,by rw[Ig,g _ _ (by simp) (by simp)];simp[binOp,l] <;> rfl,.bool _⟩
  ·cases h
 ·replace hu:=Xa hu;cases hu;replace j:=Xa j;cases j;refine s r ?_ rfl;have g:=λu v hu ha=>eqg (P:=P) (w:=w) (op:=op) (t:=t) (xo:=xo) (yo:=yo) (u:=u) (v:=v) hu ha
  obtain⟨e,ht⟩ : ∃ e,P.underlying t=some (.pointer e):=by unfold c4d at i;split at i <;> first|exact⟨_,‹_›⟩|(simp at i)|(split at i <;> simp at i)
  have l:(bD t (.pointer none) (.pointer none)).run P w = .ok true w:=by rw[Kb];unfold aF;simp[run_underlying ht]
  unfold eqB at h;split at h
  ·cases h;exact⟨_,by rw[Ig,g _ _ (by simp) (by simp)];simp[binOp,l] <;> rfl,.bool _⟩
  ·cases h;exact⟨_,by rw[Ig,g _ _ (by simp) (by simp)];simp[binOp,l] <;> rfl,.bool _⟩
  ·cases h
 ·cases hu;replace j:=Xa j;cases j;refine s r ?_ rfl;have g:=λu v hu ha=>eqg (P:=P) (w:=w) (op:=op) (t:=t) (xo:=xo) (yo:=yo) (u:=u) (v:=v) hu ha
  obtain⟨e,ht⟩ : ∃ e,P.underlying t=some (.pointer e):=by unfold c4d at i;split at i <;> first|exact⟨_,‹_›⟩|(simp at i)|(split at i <;> simp at i)
  have l : ∀ q,(bD t (.pointer (some q)) (.pointer none)).run P w = .ok false w:=λq=>by rw[Kb];unfold aF;simp[run_underlying ht]
  unfold eqB at h;split at h
  ·cases h;exact⟨_,by rw[Ig,g _ _ (by simp) (by simp)];simp[binOp,l] <;> rfl,.bool _⟩
  ·cases h;exact⟨_,by rw[Ig,g _ _ (by simp) (by simp)];simp[binOp,l] <;> rfl,.bool _⟩
  ·cases h
 ·replace hu:=Xa hu;cases hu;replace j:=Xa j;cases j;refine s r ?_ rfl;have g:=λu v hu ha=>eqg (P:=P) (w:=w) (op:=op) (t:=t) (xo:=xo) (yo:=yo) (u:=u) (v:=v) hu ha
  obtain⟨e,ht⟩ : ∃ e,P.underlying t=some (.pointer e):=by unfold c4d at i;split at i <;> first|exact⟨_,‹_›⟩|(simp at i)|(split at i <;> simp at i)
  have l : ∀ q,(bD t (.pointer (some q)) (.pointer none)).run P w = .ok false w:=λq=>by rw[Kb];unfold aF;simp[run_underlying ht]
  unfold eqB at h;split at h
  ·cases h;exact⟨_,by rw[Ig,g _ _ (by simp) (by simp)];simp[binOp,l] <;> rfl,.bool _⟩
  ·cases h;exact⟨_,by rw[Ig,g _ _ (by simp) (by simp)];simp[binOp,l] <;> rfl,.bool _⟩
  ·cases h
 ·rename_i p;replace hu:=Xa hu;replace j:=Xa j;cases j;have M : ∃ k K,yo = .const k∧P.underlying t=some (.interface K):=by unfold c4d at i;split at i <;> first|(simp at i;done)|(split at i <;> first|exact⟨_,_,rfl,‹_›⟩|(simp at i;done))
  obtain⟨k,K,rfl,ht⟩:=M;obtain⟨⟨q1,N⟩,hq,hqe⟩:=Cm.1 h;simp only[Ih,Ie]at hqe;obtain⟨⟨J,rfl⟩,rfl⟩:=hqe;refine s N ?_ rfl;cases hu <;> simp[Oj]at J
  ·have A:(eqGuard op t xo (.const k) .nilIface .nilIface).run P w = .ok () w:=by unfold eqGuard;cases xo <;> cases op <;> rfl
   have l:(bD t .nilIface .nilIface).run P w = .ok true w:=by rw[Kb];unfold aF;simp[run_underlying ht]
   unfold eqB QC at hq;split at hq
   ·cases hq;exact⟨_,by rw[Ig,A];simp[binOp,l] <;> rfl,.bool _⟩
   ·cases hq;exact⟨_,by rw[Ig,A];simp[binOp,l] <;> rfl,.bool _⟩
   ·cases hq
  ·have g:=λu v hu ha=>eqg (P:=P) (w:=w) (op:=op) (t:=t) (xo:=xo) (yo:=.const k) (u:=u) (v:=v) hu ha
   have l : ∀ t' v',(bD t (.iface t' v') .nilIface).run P w = .ok false w:=λt' v'=>by rw[Kb];unfold aF;simp[run_underlying ht]
   unfold eqB QC at hq;split at hq
   ·cases hq;exact⟨_,by rw[Ig,g _ _ (by simp) (by simp)];simp[binOp,l] <;> rfl,.bool _⟩
   ·cases hq;exact⟨_,by rw[Ig,g _ _ (by simp) (by simp)];simp[binOp,l] <;> rfl,.bool _⟩
   ·cases hq
 ·rename_i ks ps qs;replace hu:=Xa hu;replace j:=Xa j;cases hu with
  | agg cs _ hn ho hr=>
   cases j with
   | agg ds _ hm hp hs=>
    refine s r ?_ rfl;obtain⟨B,ht,H,D,F⟩ : ∃ B,P.underlying t=some (.struct B)∧P.stoodInHeld t=false∧P.eqGuardType P.depth t=false∧NA P 0 B.toList=some ks:=by
     unfold c4d at i;split at i <;> first
      | (simp at i;done)
      | (split at i <;> first
        | (simp at i;done)
        | (rename_i B ht hc;obtain⟨ks',E,e⟩:=Cm.1 i;cases e;exact⟨B,ht,hc.1,hc.2,E⟩))
    obtain⟨b,hb,y⟩:=Ib.1 h;have C:P.fieldsOf t=B:=by simp[Program.fieldsOf,ht]
    have l:(aF 10000 t (.agg cs) (.agg ds)).run P w = .ok b w:=by rw[run_equalIn_struct w 9999 t cs ds (by rw[C];exact ht) H,C];exact c2e hn hm hr hs B.toList 0 ks b F (by simpa using hb)
    unfold eqB at y;split at y
    ·cases y;exact⟨_,by rw[Ig,run_eqGuard_agg w _ t xo yo cs ds D];simp only[Il];rw[run_eql_struct w t cs ds,l];rfl,.bool _⟩
    ·cases y;exact⟨_,by rw[Ig,run_eqGuard_agg w _ t xo yo cs ds D];simp only[Il];rw[run_neq_struct w t cs ds,l];rfl,.bool _⟩
    ·cases y
 ·cases h
end
end
section
section
variable {P:Program} {c:Ctx} {μ:Mu} {Φ:Ye} {σ σ':ZN} {w:World} {a:Act} {env:List AV} {L:Nat} {x:AV}
theorem d6b{α:Type}{b:Bool}{k:Bool->HM α}{σ σ':ZN}{x:α}(h:(HM.ask b k).run σ=some (x,σ')):(k b).run σ=some (x,σ'):=h
theorem h0x{u v z:Value}{X Y Z:IOp}(b:Good c μ Φ σ w)(hu:R μ Φ u (ev env X))(h:R μ Φ v (ev env Y))(g:R μ Φ z (ev env Z))
  (hr:(WJ L env (.pick X Y Z)).run σ=some (x,σ')):VS P (do pure (if <- asBool u then v else z)) w (YJ c μ Φ σ' x):=by
 simp only[WJ]at hr;split at hr
 ·rename_i d e;rw[e]at hu;replace hr:=d6b hr;replace hu:=Xa hu;cases hu;cases d
  ·obtain⟨rfl,rfl⟩:=ZJ hr;exact⟨z,w,by simp[asBool],Zw b g⟩
  ·obtain⟨rfl,rfl⟩:=ZJ hr;exact⟨v,w,by simp[asBool],Zw b h⟩
 ·exact(Zy hr).elim
theorem j2u{op:UnOp}{u:Value}{X:IOp}(b:Good c μ Φ σ w)(hu:R μ Φ u (ev env X))(hr:(WJ L env (.un op X)).run σ=some (x,σ')):VS P (Op.unary op u) w (YJ c μ Φ σ' x):=by
 simp only[WJ]at hr;split at hr
 ·rename_i p e;rw[e]at hu;replace hu:=Xa hu;obtain⟨h,rfl⟩:=Kh hr;rw[Cm]at h;obtain⟨r,h,rfl⟩:=h;unfold unB at h;split at h
  ·cases h;cases hu;exact⟨_,w,rfl,Zw b (.pv _ _ (.bool _))⟩
  ·cases h;cases hu
   exact⟨_,w,by simp[Op.unary,bz] <;> rfl,Zw b (.pv _ _ (by
    have : ∀ n:Int,0 - n = -n:=λn=>by omega
    first|exact .int _ _|(rw[this];exact .int _ _)))⟩
  ·cases h
 ·exact(Zy hr).elim
theorem h6g{b dst:TypeId}{k:IntKind}{u:Value}{X:IOp}(hs:(P.underlying b).isSome=true)(hd:P.underlying dst=some (.int k))(e:Good c μ Φ σ w)(hu:R μ Φ u (ev env X))
  (hr:(WJ L env (.conv k X)).run σ=some (x,σ')):VS P (convert b dst u) w (YJ c μ Φ σ' x):=by
 simp only[WJ]at hr;split at hr
 ·rename_i k' n g;rw[g]at hu;replace hu:=Xa hu;obtain⟨rfl,rfl⟩:=ZJ hr;cases hu;obtain⟨d,hd'⟩:=I9.1 hs;exact⟨.int k (k.wrap n),w,by simp[convert,run_underlying hd',run_underlying hd,Conv.intToInt],Zw e (.pv _ _ (.int _ _))⟩
 ·exact(Zy hr).elim
theorem e1t{u:Value}{X:IOp}(g:Good c μ Φ σ w)(hu:R μ Φ u (ev env X))(hr:(WJ L env (.nilchk X)).run σ=some (x,σ'))(o:Oper)(ρ:Operand->Value)(y:Operand)(ho:o.op = .nilCheck y)(h:ρ y=u):
  QV P (execOp ρ o) w (YJ c μ Φ σ' x):=by
 simp only[WJ]at hr;unfold QV execOp;simp only[ho,h];split at hr
 ·rename_i e;rw[e]at hu;obtain⟨rfl,rfl⟩:=ZJ hr;cases hu with
  | ptr _ _ B C S hm=>exact Zw g (.ptr _ _ B C S hm)
 ·rename_i e;rw[e]at hu;obtain⟨rfl,rfl⟩:=ZJ hr;have b:=hu;replace hu:=Xa hu;cases hu;exact Zw g b
 ·rename_i e;rw[e]at hu;obtain⟨rfl,rfl⟩:=ZJ hr;cases hu with
  | eptr _ _ _ _ B C S hm=>exact Zw g (.eptr _ _ _ _ B C S hm)
 ·rename_i e;rw[e]at hu;obtain⟨rfl,rfl⟩:=ZJ hr;have b:=hu;cases hu;exact Zw g b
 ·rename_i e;rw[e]at hu;obtain⟨rfl,rfl⟩:=ZJ hr;have b:=hu;replace hu:=Xa hu;cases hu;exact Zw g b
 ·exact(Zy hr).elim
theorem i6z{ρ:Operand->Value}: ∀ {xs:List Operand} {ys:List IOp},Wz YL xs=some ys->(∀ o p,YL o=some p->R μ Φ (ρ o) (ev env p))->RL μ Φ (xs.map ρ) (ys.map (ev env)):=by
 intro xs
 induction xs with
 | nil=>intro ys h _;cases h;exact RL.nil
 | cons o xs ih=>intro ys h hr;simp only[Wz,Ib,Cm]at h;obtain⟨y,e,ys',b,rfl⟩:=h;exact RL.cons (hr o y e) (ih b hr)
theorem h4y{f:Nat}{xs ys:Array Value}{g l:List IOp}(i:Good c μ Φ σ w)(b:RL μ Φ xs.toList (g.map (ev env)))(e:RL μ Φ ys.toList (l.map (ev env)))
  (hr:(WJ L env (.mkfn f g l)).run σ=some (x,σ')):VS P (Instr.makeFunc (.func f) xs ys) w (YJ c μ Φ σ' x):=by
 simp only[WJ]at hr;split at hr
 ·obtain⟨rfl,rfl⟩:=ZJ hr;have q:xs = #[]:=by simpa using b.unnil
  have r:ys = #[]:=by simpa using e.unnil
  subst q r;exact⟨_,w,rfl,Zw i (.pv _ _ (.fn f))⟩
 ·obtain⟨rfl,rfl⟩:=ZJ hr;exact⟨_,w,rfl,Zw i (.fn f _ _ _ _ (by simpa using b.1) (by simpa using e.1) (λj v x h k=>b.2 j v x (by simpa using h) k) (λj v x h k=>e.2 j v x (by simpa using h) k))⟩
theorem a5o{h:Nat}{u:Value}{X:IOp}{I:Value->Sem Value}(key : ∀ q,(I (.pointer (some q))).run P w = .ok (.pointer (some (q.add h))) w)
  (i:Good c μ Φ σ w) (hu:R μ Φ u (ev env X)) (hr:(WJ L env (.faddr h X)).run σ=some (x,σ')):VS P (I u) w (YJ c μ Φ σ' x):=by
 simp only[WJ]at hr;split at hr
 ·rename_i e;rw[e]at hu;obtain⟨rfl,rfl⟩:=ZJ hr;cases hu with
  | ptr _ _ B C S hm=>exact⟨_,w,key _,Zw i (by rw[VZ];exact .ptr _ _ B C S hm)⟩
 ·rename_i e;rw[e]at hu;obtain⟨rfl,rfl⟩:=ZJ hr;replace hu:=Xa hu;cases hu with
  | rptr b off cs xs u hb hu hrr=>
   refine⟨_,w,key _,Zw i ?_⟩;rw[VZ];refine .pv _ _ (.rptr b (off+h) cs _ (λj=>u (h+j)) hb ?_ ?_)
   ·intro j p g;rw[Iw]at g
    have:=hu _ p g
    rwa [<- I5]at this
   ·intro j p g;rw[Iw]at g;exact hrr _ p g
 ·rename_i e;rw[e]at hu;obtain⟨rfl,rfl⟩:=ZJ hr;cases hu with
  | eptr _ _ _ _ B C S hm=>exact⟨_,w,key _,Zw i (by rw[VZ,I5];exact .eptr _ _ _ _ B C S hm)⟩
 ·exact(Zy hr).elim
theorem f0x{s:TypeId}{g:Array Field}{n:Nat}{f:Field}{i:TypeInfo}{u:Value}{X:IOp}(hs:P.underlying s=some (.struct g))(h:g[n]? = some f)(hi:P.info? f.type=some i)(j:(i.size==0)=false)
  (k:Good c μ Φ σ w) (hu:R μ Φ u (ev env X)) (hr:(WJ L env (.faddr f.offset X)).run σ=some (x,σ')):VS P (bM s u n) w (YJ c μ Φ σ' x):=by
 have b : ¬ i.size=0:=by simpa using j
 have e : ∀ q,(bM s (.pointer (some q)) n).run P w = .ok (.pointer (some (q.add f.offset))) w:=by intro q;simp[bM,run_underlying hs,h,aK,fieldPlace,YH hi,b]
 exact a5o (I:=λu=>bM s u n) e k hu hr
theorem f7y{t e:TypeId}{n:Nat}{i:TypeInfo}{k:IntKind}{z:Int}{u:Value}{X:IOp}(ht:P.underlying t=some (.array n e))(hi:P.info? e=some i)(g:0<=z∧z<n)
  (h:Good c μ Φ σ w) (hu:R μ Φ u (ev env X)) (hr:(WJ L env (.faddr (z.toNat*i.size) X)).run σ=some (x,σ')):VS P (aD t u (.int k z)) w (YJ c μ Φ σ' x):=by
 have b : ∀ q,(aD t (.pointer (some q)) (.int k z)).run P w = .ok (.pointer (some (q.add (z.toNat*i.size)))) w:=by intro q;simp[aD,run_underlying ht,aK,asIntOf,YH hi,g.1,g.2]
 exact a5o (I:=λu=>aD t u (.int k z)) b h hu hr
theorem b6w{t:TypeId}{i:TypeInfo}{cs:Array Value}{xs:List AV}{o:Nat}{y:AV}(hu:(P.underlying t).isSome=true)(hi:P.info? t=some i)(hr:RL μ Φ cs.toList xs)(ho:X5 cs.toList)
  (b:Nq (Ve P t) i.size xs o=some y) : ∃ v,(part t cs o).run P w = .ok v w∧R μ Φ v y:=by
 unfold Nq at b;simp only[part,Ig,SH hu,Il];cases e:Ve P t with
 | true=>
  simp only[e,if_true]at b ⊢;split at b
  ·cases b;refine⟨.agg ((cs.toList.drop o).take i.size).toArray,?_,a3w ((hr.drop o).take _) ((ho.drop o).take _)⟩;simp only[Ig,YH hi,Il,IW];congr 2;apply Array.ext';simp[Array.toList_extract]
  ·cases b
 | false=>
  simp only[e,if_false,IA]at b ⊢;obtain⟨v,h,g⟩:=hr.at_ b;have:cs[o]? = some v:=by simpa using h
  exact⟨v,by simp[this],g⟩
theorem g0o{s:TypeId}{j:Array Field}{n:Nat}{f:Field}{i:TypeInfo}{u:Value}{X:IOp}(hs:P.underlying s=some (.struct j))(k:j[n]? = some f)(b:(P.underlying f.type).isSome=true)(hi:P.info? f.type=some i)
  (l:Good c μ Φ σ w) (hu:R μ Φ u (ev env X)) (hr:(WJ L env (.field (Ve P f.type) f.offset i.size X)).run σ=some (x,σ')):VS P (eH s u n) w (YJ c μ Φ σ' x):=by
 simp only[WJ]at hr;split at hr
 ·rename_i ps g;rw[g]at hu;obtain⟨e,rfl⟩:=Kh hr;replace hu:=Xa hu;have hc:=Cx hu rfl;cases hu with
  | agg cs _ hn ho h=>obtain⟨v,h1,h2⟩:=b6w (P:=P) (w:=w) (μ:=μ) (cs:=cs) b hi hc.1.toRL hc.2 e;exact⟨v,w,by simpa [eH,run_underlying hs,k,asAgg]using h1,Zw l h2⟩
 ·rename_i ps g;rw[g]at hu;obtain⟨e,rfl⟩:=Kh hr;have hc:=a4b hu rfl;cases hu with
  | agg cs _ hn ho h=>obtain⟨v,h1,h2⟩:=b6w (P:=P) (w:=w) (μ:=μ) (cs:=cs) b hi hc.1 hc.2 e;exact⟨v,w,by simpa [eH,run_underlying hs,k,asAgg]using h1,Zw l h2⟩
 ·exact(Zy hr).elim
theorem c7t{u:Value}{X:IOp}{n:Nat}(k:Good c μ Φ σ w)(hu:R μ Φ u (ev env X))(hr:(WJ L env (.extract X n)).run σ=some (x,σ')):VS P (dK u n) w (YJ c μ Φ σ' x):=by
 simp only[WJ]at hr;split at hr
 ·rename_i ps g;rw[g]at hu;obtain⟨b,rfl⟩:=Kh hr;rw[Cm]at b;obtain⟨p,j,rfl⟩:=b;replace hu:=Xa hu;cases hu with
  | tup cs _ hn h=>have i:=(Ic.1 j).1;have e:cs[n]? = some (cs[n]'(by omega)):=Ik (by omega);exact⟨_,w,by simp[dK,e] <;> rfl,Zw k (.pv _ _ (h n _ p e j))⟩
 ·rename_i ps g;rw[g]at hu;obtain⟨b,rfl⟩:=Kh hr;cases hu with
  | tup cs _ hn h=>have i:=(Ic.1 b).1;have e:cs[n]? = some (cs[n]'(by omega)):=Ik (by omega);exact⟨_,w,by simp[dK,e] <;> rfl,Zw k (h n _ x e b)⟩
 ·exact(Zy hr).elim
theorem f0w{t:TypeId}{u v:Value}{X Y:IOp}(ht:P.underlying t=some .string)(y:Good c μ Φ σ w)(hu:R μ Φ u (ev env X))(e:R μ Φ v (ev env Y))(hr:(WJ L env (.index X Y)).run σ=some (x,σ')):
  VS P (bI t u v) w (YJ c μ Φ σ' x):=by
 simp only[WJ]at hr;split at hr
 ·rename_i s k i z q;rw[z]at hu;rw[q]at e;replace hu:=Xa hu;replace e:=Xa e;have j:=YU hr;clear hr;obtain⟨l,hr⟩:=j;simp only[Ie,decide_eq_true_eq]at l;obtain⟨r,b⟩:=l;obtain⟨rfl,rfl⟩:=ZJ hr;cases e;cases hu with
  | str s=>
   have h:i.toNat<s.size:=by simpa using b
   have g:s[i.toNat]? = some (s.data.toList.getD i.toNat 0):=by
    rw[getElem?_pos s i.toNat h];have h2:s.data.toList.getD i.toNat 0=s.data.toList[i.toNat]:=by simp[I4,Ia b]
    rw[h2];rfl
   exact⟨_,w,by simp[bI,asIntOf,run_underlying ht,r,g] <;> rfl,Zw y (.pv _ _ (.int _ _))⟩
 ·exact(Zy hr).elim
theorem e2e{sz:Nat}{t:Bool}{xs:List PV}{v:Value}{i:Nat}{y:PV}(h:RP Φ v (.sl sz t xs))(k:xs[i]? = some y):
  ∃ b off c,v = .slice (some ⟨b,off,none⟩) xs.length c∧RP Φ (.pointer (some ⟨b,off+i*sz,none⟩)) (.rptr y.cells):=by
 have hi:=(Ic.1 k).1;cases h with
 | sl0=>simp at hi
 | sl b off cs c _ _ _ u hb hc ht hs hu hr=>
  refine⟨b,off,c,rfl,.rptr b (off+i*sz) cs _ (λj=>u (i*sz+j)) hb ?_ ?_⟩
  ·intro j p g;have e:(flat xs)[i*sz+j]? = some p:=by
    rw[<- Ee hs k,Ip]at g;split at g
    ·rwa [Iw]at g
    ·cases g
   have:=hu _ p e
   rwa [<- I5]at this
  ·intro j p g;have e:(flat xs)[i*sz+j]? = some p:=by
    rw[<- Ee hs k,Ip]at g;split at g
    ·rwa [Iw]at g
    ·cases g
   exact hr _ p e
theorem g2h{t e:TypeId}{i:TypeInfo}{u v:Value}{X Y:IOp}(ht:P.underlying t=some (.slice e))(hi:P.info? e=some i)(D:Good c μ Φ σ w)(hu:R μ Φ u (ev env X))(g:R μ Φ v (ev env Y))
  (hr:(WJ L env (.iaddr i.size X Y)).run σ=some (x,σ')):VS P (aD t u v) w (YJ c μ Φ σ' x):=by
 have r : ∀ q (len:Nat) cap k (n:Int),0<=n->n<(len:Int)->(aD t (.slice (some q) len cap) (.int k n)).run P w = .ok (.pointer (some (q.add (n.toNat*i.size)))) w:=by intro q len cap k n s h1;simp[aD,asIntOf,run_underlying ht,YH hi,s,h1]
 simp only[WJ]at hr;split at hr
 ·rename_i sz' t' xs k n E z;rw[E]at hu;rw[z]at g;replace hu:=Xa hu;replace g:=Xa g;have j:=YU hr;clear hr;obtain⟨h,hr⟩:=j;simp only[Ie,decide_eq_true_eq,beq_iff_eq]at h;obtain⟨⟨s,A⟩,rfl⟩:=h;have F:xs[n.toNat]? = some (xs.getD n.toNat default):=by simp[I4,Ia A]
  obtain⟨rfl,rfl⟩:=ZJ hr;cases g;obtain⟨b,off,cp,rfl,h2⟩:=e2e hu F;exact⟨_,w,r _ _ _ _ _ s (by omega),Zw D (by rw[VZ];exact .pv _ _ h2)⟩
 ·rename_i l n lo hi' k m E z;rw[E]at hu;rw[z]at g;replace g:=Xa g;obtain⟨ob,y,hr⟩:=Vx hr;split at hr
  ·rename_i fz ty sz' xs;split at hr
   ·rename_i H;subst H;have j:=YU hr;clear hr;obtain⟨h,hr⟩:=j;simp only[Ie,decide_eq_true_eq,beq_iff_eq]at h;obtain⟨⟨s,h1⟩,hn⟩:=h;obtain⟨rfl,rfl⟩:=ZJ hr;cases g;cases hu with
    | row _ _ _ _ B C S q hm h2 h3 h4 ha=>obtain⟨rfl,_⟩:=Dv D y hn hm;have h:=ha (.inl (by omega));subst h;refine⟨_,w,r _ _ _ _ _ s (by omega),Zw D ?_⟩;rw[VZ,<- II];exact .eptr l n _ 0 B C _ hm
   ·exact(Zy hr).elim
  ·exact(Zy hr).elim
 ·exact(Zy hr).elim
end
end
section
section
variable {P:Program} {c:Ctx} {μ:Mu} {Φ:Ye} {σ σ':ZN} {w:World} {a:Act} {env:List AV} {L:Nat} {x:AV}
def BR(d:Nat)(o:Option Value)(n:Nat):Prop:=(o=none∧n=d) ∨ ∃ k i,o=some (.int k i)∧0<=i∧n=i.toNat
theorem i5f{a:Act}(b:XN μ Φ a.tmps env){d n:Nat}{o:Option Operand}{o':Option IOp}(ho:(match o with|none=>some none|some z=>(YL z).map some)=some o')(h:bnd env d o'=some (true,n)):BR d (o.map a.eval) n:=by
 cases o with
 | none=>simp at ho;subst ho;simp[bnd]at h;exact .inl ⟨rfl,h.symm⟩
 | some z=>
  simp only[Cm]at ho;obtain⟨y,g,rfl⟩:=ho;simp only[bnd]at h;split at h
  ·rename_i k i j;simp only[Ii,Ih,decide_eq_true_eq]at h;obtain⟨e,rfl⟩:=h
   have:=Yj b g;rw[j]at this
   have:=Xa this;generalize l:a.eval z=q at this;cases this;exact .inr ⟨_,_,by simp[l] <;> rfl,e,rfl⟩
  ·cases h
theorem Be{v:Value}{k:IntKind}{i:Int}{y:Nat}{b:BoundsCode}(g:v = .int k i)(e:0<=i)(h1:i.toNat<=y):(eY v y b).run P w = .ok i.toNat w:=by
 subst g;have:i<=(y:Int):=by omega
 simp[eY,asIntOf,e,this]
theorem TG{isSl:Bool}{len cap l h:Nat}{lo hi:Option Value}(j:BR 0 lo l)(g:BR len hi h)(h1:l<=h)(h2:h<=cap):
  (IM isSl len cap lo hi none).run P w = .ok (l,h,cap) w:=by
 rcases j with ⟨rfl,rfl⟩|⟨k,i,rfl,e,rfl⟩ <;> rcases g with ⟨rfl,rfl⟩|⟨k',i',rfl,b,rfl⟩
 ·simp[IM]
 ·simp[IM,Be (P:=P) (w:=w) rfl b h2]
 ·simp[IM,Be (P:=P) (w:=w) rfl e h1]
 ·simp[IM,Be (P:=P) (w:=w) rfl b h2,Be (P:=P) (w:=w) rfl e h1]
theorem c2j{len cap l h m:Nat}{lo hi:Option Value}{mx:Value}{d:Nat}(r:BR 0 lo l)(s:BR len hi h)(j:hi≠none)(hm:BR d (some mx) m)(h1:l<=h)(h2:h<=m)(h3:m<=cap):
  (IM true len cap lo hi (some mx)).run P w = .ok (l,h,m) w:=by
 rcases hm with ⟨h,_⟩|⟨k0,i0,e,g,rfl⟩
 ·cases h
 cases e;rcases r with ⟨rfl,rfl⟩|⟨k,i,rfl,q,rfl⟩ <;> rcases s with ⟨rfl,rfl⟩|⟨k',i',rfl,b,rfl⟩
 ·exact absurd rfl j
 ·simp[IM,Be (P:=P) (w:=w) rfl g h3,Be (P:=P) (w:=w) rfl b h2]
 ·exact absurd rfl j
 ·simp[IM,Be (P:=P) (w:=w) rfl g h3,Be (P:=P) (w:=w) rfl b h2,Be (P:=P) (w:=w) rfl q h1]
theorem d7r{sz:Nat}{t:Bool}{xs:List PV}{b:Option Addr}{n cap l h m:Nat}(z:RP Φ (.slice b n cap) (.sl sz t xs))(h1:l<=h)(h2:h<=xs.length)(h3:h<=m)(h4:m<=cap)(t':Bool)(ht:t'=true->m=h)(s:Nat)(hs:xs=[]∨s=sz):
  RP Φ (.slice (if m=l then b else b.map (·.add (l*s))) (h - l) (m - l)) (.sl sz t' ((xs.take h).drop l)):=by
 by_cases hlh:l=h
 ·subst hlh;have e:(xs.take l).drop l=[]:=by simp
  rw[e,dX];exact .sl0 _ _ _ _ (λe=>by have:=ht e;omega)
 ·have hlt:l<h:=by omega
  cases z with
  | sl0=>simp at h2;omega
  | sl b off cs _ _ _ _ u hb hc htt hss hu hr=>
   have y:s=sz:=by
    rcases hs with rfl|hs
    ·simp at h2;omega
    ·exact hs
   subst y;have q : ¬ m=l:=by omega
   have g:((xs.take h).drop l).length=h - l:=by simp;omega
   rw[if_neg q,aR,VZ,<- g];have k : ∀ (j:Nat) p,(flat ((xs.take h).drop l))[j]? = some p->(flat xs)[l*s+j]? = some p:=by
    intro j p i;rw[<- D6 (λx r=>hss x (IE r)),<- Sk hss,Iw,Ip]at i;split at i
    ·exact i
    ·cases i
   refine .sl b (off+l*s) cs _ s t' _ (λj=>u (l*s+j)) hb (by rw[g];omega) (λe=>by have:=ht e;rw[g];omega) ?_ ?_ ?_
   ·intro x r;exact hss x (IE (IB r))
   ·intro j p i
    have:=hu _ p (k j p i)
    rwa [<- I5]at this
   ·intro j p i;exact hr _ p (k j p i)
theorem e3e{t:TypeId}{u:Value}{X:IOp}{lo hi:Option IOp}{g b:Option Value}(ht:P.underlying t=some .string)
  (j : ∀ n,bnd env 0 lo=some (true,n)->BR 0 g n) (i : ∀ d n,bnd env d hi=some (true,n)->BR d b n)
  (A:Good c μ Φ σ w) (hu:R μ Φ u (ev env X)) (hr:(WJ L env (.strslc X lo hi)).run σ=some (x,σ')):VS P (aN t u g b none) w (YJ c μ Φ σ' x):=by
 simp only[WJ]at hr;split at hr
 ·rename_i s D;rw[D]at hu;split at hr
  ·rename_i r1 l r2 h B C;have k:=YU hr;clear hr;obtain⟨r,hr⟩:=k;simp only[Ie,decide_eq_true_eq]at r;obtain⟨⟨⟨rfl,rfl⟩,hc1⟩,hc2⟩:=r;have y:=j l B;have q:=i _ h C;obtain⟨rfl,rfl⟩:=ZJ hr;replace hu:=Xa hu;cases hu with
   | str z=>
    have e:z.data.toList.length=z.size:=by simp
    rw[e]at q hc2;refine⟨.string (z.extract l h),w,?_,Zw A (.pv _ _ (RP.str' ?_))⟩
    ·simp[aN,cO,run_underlying ht,TG (P:=P) (w:=w) (isSl:=false) (len:=z.size) (cap:=z.size) y q hc1 hc2]
    ·simp[ByteArray.data_extract,aJ]
  ·exact(Zy hr).elim
 ·exact(Zy hr).elim
theorem i7w{t e:TypeId}{i:TypeInfo}{u:Value}{X:IOp}{lo hi mx:Option IOp}{T I D:Option Value}(ht:P.underlying t=some (.slice e))(H:P.info? e=some i)
  (K : ∀ n,bnd env 0 lo=some (true,n)->BR 0 T n) (F : ∀ d n,bnd env d hi=some (true,n)->BR d I n) (Q:mx=none->D=none) (hb4:hi≠none->I≠none)
  (hb5 : ∀ m,mx=some m-> ∃ v,D=some v∧ ∀ d n,bnd env d (some m)=some (true,n)->BR d (some v) n)
  (Y:Good c μ Φ σ w) (hu:R μ Φ u (ev env X)) (hr:(WJ L env (.slc i.size X lo hi mx)).run σ=some (x,σ')):VS P (aN t u T I D) w (YJ c μ Φ σ' x):=by
 simp only[WJ]at hr;split at hr
 ·rename_i sz' tt xs hX;rw[hX]at hu;replace hu:=Xa hu;have A:(xs.isEmpty||sz'==i.size)=true->xs=[]∨i.size=sz':=by
   intro s;rcases au _ _ |>.mp s with h|h
   ·exact .inl (by simpa using h)
   ·exact .inr (by simpa using (beq_iff_eq.mp h).symm)
  have N : ∃ b E,u = .slice b xs.length E∧xs.length<=E∧(tt=true->E=xs.length):=by
   cases hu with
   | sl0 a c sz t h=>exact⟨a,c,rfl,by simp,λe=>by simpa using h e⟩
   | sl b off cs c sz t xs u hb hc J hs hu hr=>exact⟨_,c,rfl,hc,J⟩
  obtain⟨b,E,rfl,z,J⟩:=N;split at hr
  ·rename_i r1 l r2 h V W;split at hr
   ·have U:=Q rfl;subst U;have j:=YU hr;clear hr;obtain⟨y,hr⟩:=j;simp only[Ie,decide_eq_true_eq]at y;obtain⟨⟨⟨⟨rfl,rfl⟩,s⟩,hc1⟩,hc2⟩:=y;have O:=K l V;have M:=F _ h W;have k:=A s;obtain⟨rfl,rfl⟩:=ZJ hr;refine⟨_,w,?_,Zw Y (.pv _ _ (d7r hu hc1 hc2 (Iz hc2 z) (IJ E) _ ?_ _ k))⟩
    ·simp[aN,cO,run_underlying ht,TG (P:=P) (w:=w) (isSl:=true) (len:=xs.length) (cap:=E) O M hc1 (Iz hc2 z),YH H]
    ·intro e;simp at e;rw[J e.1,e.2]
   ·rename_i m;split at hr
    ·rename_i r3 m' hm';obtain⟨v,rfl,U⟩:=hb5 m rfl;have j:=YU hr;clear hr;obtain⟨y,hr⟩:=j;simp only[Ie,decide_eq_true_eq]at y;obtain⟨⟨⟨⟨⟨⟨rfl,rfl⟩,rfl⟩,s⟩,hc1⟩,hc2⟩,hc3⟩:=y;have O:=K l V;have M:=F _ h W;have k:=A s;have bm:=U _ _ hm';obtain⟨rfl,rfl⟩:=ZJ hr;refine⟨_,w,?_,Zw Y (.pv _ _ (d7r hu hc1 (Iz hc2 hc3) hc2 (Iz hc3 z) _ ?_ _ k))⟩
     ·simp[aN,cO,run_underlying ht,c2j (P:=P) (w:=w) (len:=xs.length) (cap:=E) O M (hb4 (by simp)) bm hc1 hc2 (Iz hc3 z),YH H]
     ·intro e;simp at e;exact e.symm
    ·exact(Zy hr).elim
  ·exact(Zy hr).elim
 ·rename_i r n g hi2 hX;rw[hX]at hu;split at hr
  ·rename_i r1 l r2 h V W;have U:=Q rfl;subst U;have j:=Vx hr;clear hr;obtain⟨ob,Z,hr⟩:=j;split at hr
   ·rename_i fz ty sz' xs;split at hr
    ·rename_i he;subst he;have j:=YU hr;clear hr;obtain⟨y,hr⟩:=j;simp only[Ie,decide_eq_true_eq,beq_iff_eq]at y;obtain⟨⟨⟨⟨rfl,rfl⟩,hc1⟩,hc2⟩,hn⟩:=y;have O:=K l V;have M:=F _ h W;obtain⟨rfl,rfl⟩:=ZJ hr;cases hu with
     | row _ _ _ _ B C S q hm h2 h3 h4 ha=>
      obtain⟨rfl,_⟩:=Dv Y Z hn hm;refine⟨_,w,by simp[aN,cO,run_underlying ht,TG (P:=P) (w:=w) (isSl:=true) (len:=hi2 - g) (cap:=C - g) O M hc1 (by omega),YH H] <;> rfl,Zw Y ?_⟩;have e1:h - l=(g+h) - (g+l):=by omega
      have e2:C - g - l=C - (g+l):=by omega
      rw[e1,e2];refine .row r n _ _ B C _ _ hm (by omega) (by omega) h4 ?_;intro hor;by_cases hz:C - g=l
      ·rw[if_pos hz];rcases hor with h|h
       ·omega
       ·have hl0:g=0:=by omega
        have hl1:l=0:=by omega
        subst hl0 hl1
        have:=ha (.inr rfl);simpa using this
      ·rw[if_neg hz];have y:=ha (by omega);subst y;simp[VZ,II]
    ·exact(Zy hr).elim
   ·exact(Zy hr).elim
  ·exact(Zy hr).elim
 ·exact(Zy hr).elim
end
end
section
mutual
def ER: ∀ (x:AV) {c:Ctx} {μ:Mu} {Φ:Ye} {σ σ':ZN} {w:World} {v:Value} {p:PV},(frz x).run σ=some (p,σ')->Good c μ Φ σ w->R μ Φ v x ->
  ∃ Φ',Φ.le Φ'∧Good c μ Φ' σ' w∧RP Φ' v p
 | .pv q,c,μ,Φ,σ,σ',w,v,p,hr,hg,b=>by simp only[frz]at hr;obtain⟨rfl,rfl⟩:=ZJ hr;exact⟨Φ,Ye.le.refl _,hg,Xa b⟩
 | .row l n lo hi,c,μ,Φ,σ,σ',w,v,p,hr,hg,b=>by
  simp only[frz]at hr;obtain⟨ob,A,hr⟩:=Vx hr;split at hr
  ·rename_i fz ty sz xs
   ·obtain⟨hn,hr⟩:=YU hr;have hn:=beq_iff_eq.mp hn;obtain⟨_,hr⟩:=Td hr;obtain⟨rfl,rfl⟩:=ZJ hr;obtain⟨Φ',B,C,cs,h1,h2,h3,h4,h5,h6,h7,h8,h9⟩:=hg.freeze A;refine⟨Φ',h1,h2,?_⟩;cases b with
    | row _ _ _ _ B' C' S q hm k2 k3 k4 ha=>
     rw[hn,hm]at h3;cases h3;by_cases hlh:lo=hi
     ·subst hlh;have e:(xs.take lo).drop lo=[]:=by simp
      rw[e,dX];exact .sl0 _ _ _ _ (λe=>by cases e)
     ·have E:=ha (.inl (by omega));subst E;have y:((xs.take hi).drop lo).length=hi - lo:=by simp;omega
      rw[<- y];have D : ∀ (j:Nat) p,(flat ((xs.take hi).drop lo))[j]? = some p->(flat xs)[lo*sz+j]? = some p:=by
       intro j p i;rw[<- D6 (λx s=>h7 x (IE s)),<- Sk h7,Iw,Ip]at i;split at i
       ·exact i
       ·cases i
      have g : ∀ (j:Nat) p,(flat ((xs.take hi).drop lo))[j]? = some p-> ∃ u,cs[lo*sz+j]? = some u∧u.oneCell'=true∧RP Φ u p:=by
       intro j p i;obtain⟨u,hu,z⟩:=h8.at_ (D j p i);have r:=hu;rw[Ip]at r;split at r
       ·exact⟨u,by simpa using r,h9 u (Iu hu),z⟩
       ·cases r
      refine .sl B (lo*sz) cs _ sz false _ (λj=>cs.getD (lo*sz+j) aL) h4 (by rw[y];omega) (λe=>by cases e) (λx s=>h7 x (IE (IB s))) ?_ ?_
      ·intro j p i;obtain⟨u,hu,ho,_⟩:=g j p i;simp[Iq,hu,ho]
      ·intro j p i;obtain⟨u,hu,_,z⟩:=g j p i;simpa [Iq,hu]using z.mono h1
  ·exact(Zy hr).elim
 | .agg xs,c,μ,Φ,σ,σ',w,v,p,hr,hg,b=>by
  simp only[frz]at hr;rw[HM.run_bind,Ib]at hr;obtain⟨⟨ps,σ1⟩,h1,h2⟩:=hr;obtain⟨rfl,rfl⟩:=ZJ h2;have hc:=a4b b rfl;cases b with
  | agg cs _ hn ho h=>obtain⟨Φ',k1,k2,k3⟩:=Kz xs h1 hg hc.1;exact⟨Φ',k1,k2,.agg cs ps (by simpa [aH]using k3.1) ho (λj v x b s=>k3.2 j v x (by simpa [aH]using b) s)⟩
 | .tup xs,c,μ,Φ,σ,σ',w,v,p,hr,hg,b=>by
  simp only[frz]at hr;rw[HM.run_bind,Ib]at hr;obtain⟨⟨ps,σ1⟩,h1,h2⟩:=hr;obtain⟨rfl,rfl⟩:=ZJ h2;cases b with
  | tup cs _ hn h=>obtain⟨Φ',k1,k2,k3⟩:=Kz xs (vs:=cs.toList) h1 hg ⟨by simpa using hn,λj v x b s=>h j v x (by simpa using b) s⟩;exact⟨Φ',k1,k2,.tup cs ps (by simpa using k3.1) (λj v x b s=>k3.2 j v x (by simpa using b) s)⟩
 | .fn f [] [],c,μ,Φ,σ,σ',w,v,p,hr,hg,b=>by
  simp only[frz]at hr;obtain⟨rfl,rfl⟩:=ZJ hr;cases b with
  | fn _ cs ds _ _ hn hm h k=>
   have F:cs = #[]:=by simpa using hn
   have H:ds = #[]:=by simpa using hm
   subst F H;exact⟨Φ,Ye.le.refl _,hg,.fn f⟩
 | .fn f (_::_) _,_,_,_,_,_,_,_,_,hr,_,_=>by simp only[frz]at hr;exact(Zy hr).elim
 | .fn f [] (_::_),_,_,_,_,_,_,_,_,hr,_,_=>by simp only[frz]at hr;exact(Zy hr).elim
 | .junk,_,_,_,_,_,_,_,_,hr,_,_=>by simp only[frz]at hr;exact(Zy hr).elim
 | .undef,_,_,_,_,_,_,_,_,hr,_,_=>by simp only[frz]at hr;exact(Zy hr).elim
 | .ptr _ _,_,_,_,_,_,_,_,_,hr,_,_=>by simp only[frz]at hr;exact(Zy hr).elim
 | .eptr _ _ _ _,_,_,_,_,_,_,_,_,hr,_,_=>by simp only[frz]at hr;exact(Zy hr).elim
 | .map _,_,_,_,_,_,_,_,_,hr,_,_=>by simp only[frz]at hr;exact(Zy hr).elim
def Kz: ∀ (xs:List AV) {c:Ctx} {μ:Mu} {Φ:Ye} {σ σ':ZN} {w:World} {vs:List Value} {ps:List PV},(KM xs).run σ=some (ps,σ')->Good c μ Φ σ w->RL μ Φ vs xs ->
  ∃ Φ',Φ.le Φ'∧Good c μ Φ' σ' w∧Ub Φ' vs ps
 | [],c,μ,Φ,σ,σ',w,vs,ps,hr,hg,hv=>by
  simp only[KM]at hr;obtain⟨rfl,rfl⟩:=ZJ hr
  have:=hv.unnil;subst this;exact⟨Φ,Ye.le.refl _,hg,rfl,λj v x h=>by simp at h⟩
 | x::xs,c,μ,Φ,σ,σ',w,vs,ps,hr,hg,hv=>by
  simp only[KM]at hr;rw[HM.run_bind,Ib]at hr;obtain⟨⟨p,σ1⟩,h1,h2⟩:=hr;rw[HM.run_bind,Ib]at h2;obtain⟨⟨qs,σ2⟩,h3,h4⟩:=h2;obtain⟨rfl,rfl⟩:=ZJ h4;obtain⟨v,vs',rfl,k1,e⟩:=hv.uncons;obtain⟨Φ1,a1,a2,a3⟩:=ER x h1 hg k1;obtain⟨Φ2,b1,b2,b3⟩:=Kz xs h3 a2 (e.mono (Mu.le.refl _) a1);refine⟨Φ2,a1.trans b1,b2,by simp[b3.1],?_⟩;intro j u y hu b;cases j with
  | zero=>simp at hu b;subst hu b;exact a3.mono b1
  | succ j=>simp at hu b;exact b3.2 j u y hu b
end
section
variable {P:Program} {c:Ctx} {μ:Mu} {Φ:Ye} {σ σ':ZN} {w:World} {a:Act} {env:List AV} {L:Nat} {x:AV}
theorem d9u(g:Good c μ Φ σ w)(i:σ[L]? = some .fresh){cs:Array Value}{xs:List AV}(T:TypeId)(hr:RL μ Φ cs.toList xs)(ho:X5 cs.toList):
  ∃ μ',μ.le μ'∧Good c μ' Φ (σ.set L (.obj (.box xs))) (w.alloc (.cells cs T))∧R μ' Φ (.pointer (some ⟨w.heap.size,0,none⟩)) (.ptr L 0):=by
 have hm:μ L 0=none:=g.fresh L 0 (.inr i);have e:=Mu.le_add μ L 0 (w.heap.size,0,0) (.inl hm);refine⟨μ.add L 0 (w.heap.size,0,0),e,?_,.ptr L 0 _ 0 0 (Mu.add_same _ _ _ _)⟩;refine g.new i e (λl' h n=>Mu.add_ne _ _ _ _ _ _ h) rfl rfl rfl (by simp) (λb hb=>UO w _ b hb) ?_ (by simp[blk,Mu.add_same]);refine⟨w.heap.size,0,0,T,cs,Mu.add_same _ _ _ _,Kw w _,hr.mono e (Ye.le.refl _),ho,?_⟩;cases j:Φ w.heap.size with
 | none=>rfl
 | some cs'=>
  obtain⟨T',fz,k⟩:=g.phi _ _ j
  have:=(Ir.1 k).1;omega
theorem b1j(g:Good c μ Φ σ w){b:Nat}(hb:w.heap.size<=b):Φ b=none:=by
 cases h:Φ b with
 | none=>rfl
 | some cs'=>
  obtain⟨T',fz,e⟩:=g.phi _ _ h
  have:=(Ir.1 e).1;omega
theorem O4{w':World}(l:Good c μ Φ σ w)(s:σ[L]? = some .fresh){xs:List PV}{ty sz B C:Nat}{cs:Array Value}(k:w'.os=w.os)(g:w'.tape=w.tape)(i:w'.output=w.output)(e:w.heap.size<=w'.heap.size)
  (u : ∀ b,b<w.heap.size->w'.heap[b]? = w.heap[b]?) (r:w.heap.size<=B) (z:w'.heap[B]? = some (.cells cs ty (0,0))) (q:cs.size=C*sz) (hn:xs.length<=C) (y:C<=maxLen)
  (hs : ∀ x∈xs,x.cells.length=sz) (hr:Ub Φ (cs.toList.take (xs.length*sz)) (flat xs)) (ho:X5 (cs.toList.take (xs.length*sz))) :
  ∃ μ',μ.le μ'∧Good c μ' Φ (σ.set L (.obj (.row false ty sz xs))) w'∧R μ' Φ (.slice (some ⟨B,0,none⟩) xs.length C) (.row L xs.length 0 xs.length):=by
 have hm : ∀ n,μ L n=none:=λn=>l.fresh L n (.inr s)
 have j:=Mu.le_add μ L xs.length (B,C,sz) (.inl (hm _));refine⟨μ.add L xs.length (B,C,sz),j,?_,?_⟩
 ·refine l.new s j (λl' h n=>Mu.add_ne _ _ _ _ _ _ h) k g i e u ?_ (by simp[blk,Mu.add_same];exact r);exact⟨B,C,cs,Mu.add_same _ _ _ _,λn h=>by rw[Mu.add_ver _ _ _ _ _ (by omega)];exact hm n,.of z,q,hn,y,hs,hr,ho,by simp[b1j l r]⟩
 ·have:=R.row (μ:=μ.add L xs.length (B,C,sz)) (Φ:=Φ) L xs.length 0 xs.length B C sz (some ⟨B,0,none⟩) (Mu.add_same _ _ _ _) (ae _) (IJ _) hn (λ_=>by simp);simpa using this
theorem i3c{t:TypeId}{i:TypeInfo}{u:Value}{X:IOp}(b:Good c μ Φ σ w)(hu:R μ Φ u (ev env X))(hr:(WJ L env (.box i.size X)).run σ=some (x,σ')):VS P (fe t u) w (YJ c μ Φ σ' x):=by
 simp only[WJ]at hr;split at hr
 ·rename_i hc;obtain⟨e,hr⟩:=Cc hr;obtain⟨rfl,rfl⟩:=ZJ hr;obtain⟨h1,h2⟩:=a4b hu hc.2;obtain⟨μ',k1,g,k3⟩:=d9u b e t h1 h2;exact⟨_,_,by simp[fe,newVar,newRow] <;> rfl,μ',Φ,k1,Ye.le.refl _,g,k3⟩
 ·exact(Zy hr).elim
theorem e8x{t:TypeId}{i:TypeInfo}{z:Value}{p:PV}(hi:P.info? t=some i)(h:i.zero=some z)(b:Dh z=some p)(j:Good c μ Φ σ w)(hr:(WJ L env (.alloc p)).run σ=some (x,σ')):
  VS P (fP t true (.tuple #[])) w (YJ c μ Φ σ' x):=by
 simp only[WJ]at hr;obtain⟨k,hr⟩:=Cc hr;obtain⟨rfl,rfl⟩:=ZJ hr;obtain⟨h1,h2⟩:=Cx (Cq (Φ:=Φ) b) (Qq b);have e:AV.cells (.pv p)=p.cells.map .pv:=by cases p <;> rfl
 rw[e];obtain⟨μ',k1,g,k3⟩:=d9u j k t (h1.toRL (μ:=μ)) h2;exact⟨_,_,by simp[fP,zeroValue,typeInfo,hi,h,newVar,newRow] <;> rfl,μ',Φ,k1,Ye.le.refl _,g,k3⟩
theorem f5q{t:TypeId}(i:Good c μ Φ σ w)(hr:(WJ L env .mkmap).run σ=some (x,σ')):VS P (Instr.makeMap t none) w (YJ c μ Φ σ' x):=by simp only[WJ]at hr;obtain⟨k,hr⟩:=Cc hr;obtain⟨rfl,rfl⟩:=ZJ hr;have hm:μ L 0=none:=i.fresh L 0 (.inr k);have g:=Mu.le_add μ L 0 (w.heap.size,0,0) (.inl hm);refine⟨.map (some w.heap.size),w.alloc (.map #[] 0),rfl,μ.add L 0 (w.heap.size,0,0),Φ,g,Ye.le.refl _,?_,.map L _ 0 0 (Mu.add_same _ _ _ _)⟩;refine i.new k g (λl' h n=>Mu.add_ne _ _ _ _ _ _ h) rfl rfl rfl (by simp) (λb hb=>UO w _ b hb) ?_ (by simp[blk,Mu.add_same]);exact⟨w.heap.size,0,0,#[],0,Mu.add_same _ _ _ _,Kw w _,rfl,λj e p h=>by simp at h,b1j i (IJ _),λx l=>by simp at l,by simp⟩
end
end
section
section
variable {P:Program} {c:Ctx} {μ:Mu} {Φ:Ye} {σ σ':ZN} {w:World} {a:Act} {env:List AV} {L:Nat} {x:AV}
theorem Good.setRow{B:Nat}{o o':AObj}{l:Nat}{cs:Array Value}(j:Good c μ Φ σ w)(k:σ[l]? = some (.obj o))(e:o.live=true)(i:blk μ l o=B)(h:H5 μ Φ (w.setRow B cs) l o')(hb:blk μ l o'=B):
  Good c μ Φ (σ.set l (.obj o')) (w.setRow B cs):=
 j.put k e (Mu.le.refl _) (λ_ _ _=>rfl) (by simp) (by simp) (by simp) (by simp) (λb _ g=>setRow_other w B b cs (by rw[i]at g;exact g)) h (.inl (by rw[hb,i]))
theorem a0x{g o:Nat}{t:TypeId}{z:Nat×Nat}: ∀ (vs:List Value) (i:Nat) (b:Array Value) (w:World),w.heap[g]? = some (.cells b t z)->(z=(0,0)∨b.size<=z.1)->o+i+vs.length<=b.size->(∀ v∈vs,v.oneCell'=true) ->
  (storeCells ⟨g,o,none⟩ vs i).run P w = .ok () (w.setRow g (b.toList.take (o+i)++vs++b.toList.drop (o+i+vs.length)).toArray):=by
 intro vs
 induction vs with
 | nil=>intro i b w h _ _ _;simp only[storeCells,bn,fA,bV,List.take_append_drop,Array.toArray_toList];rw[setRow_self w g b t z h];rfl
 | cons v rest ih=>
  intro i b w h j r h1;rw[IL]at r;have hi:o+i<b.size:=by omega
  have q:(⟨g,o,none⟩:Addr).add i=⟨g,o+i,none⟩:=by unfold Addr.add;split <;> simp_all
  have u:w.frozen? ⟨g,o+i,none⟩=false:=by
   rcases j with rfl|j
   ·simp[fF,h]
   ·simp[fF,h];omega
  have s:(store ((⟨g,o,none⟩:Addr).add i) v).run P w = .ok () (w.setRow g (b.setIfInBounds (o+i) v)):=by rw[q,run_store P w _ v _ (h1 v (by simp)),show w.cell? ⟨g,o+i,none⟩=some b[o+i] by simp[bH,h,hi]];simp[u,setCell_eq_setRow w g (o+i) b t z v h]
  have k:=ih (i+1) (b.setIfInBounds (o+i) v) (w.setRow g (b.setIfInBounds (o+i) v)) (setRow_heap w g b _ t _ h) (by simpa using j) (by simp;omega) λx l=>h1 x (by simp[l])
  simp only[storeCells,Ig,s,Il,k,setRow_setRow];congr 3;have e:=list_seg_step b.toList (o+i) v rest (by simp;omega);simpa [bN,I5]using e
theorem Qa.put{B n C:Nat}{ty:Nat}{b cs:Array Value}(h:Qa w B b ty n C)(hs:cs.size=b.size):Qa (w.setRow B cs) B cs ty n C:=by obtain⟨z,h1,h2⟩:=h;exact⟨z,setRow_heap w B b cs ty z h1,by rw[hs];exact h2⟩
theorem a9f{t:TypeId}{i:TypeInfo}{v:Value}{B o:Nat}{T n C:Nat}{b:Array Value}(hi:P.info? t=some i)(hn:v.cells.toList.length=i.size)(g:Qa w B b T n C)(hf:o+i.size<=b.size)(ho:X5 v.cells.toList):
  (dL t (.pointer (some ⟨B,o,none⟩)) v).run P w = .ok () (w.setRow B (splice b.toList o v.cells.toList).toArray):=by
 obtain⟨z,g,j⟩:=g;have hs:=a0x (P:=P) (o:=o) v.cells.toList 0 b w g (j.imp id λh=>h.2) (by rw[hn];omega) ho;have e:v.cells.size=i.size:=by simpa using hn
 simp only[bV]at hs;simp[dL,aK,storeVar,YH hi,e,hs,splice]
theorem RL.splice{cs ds:List Value}{xs ys:List AV}(h:RL μ Φ cs xs)(k:RL μ Φ ds ys)(o:Nat):RL μ Φ (splice cs o ds) (splice xs o ys):=by unfold Pl.splice;rw[k.1];exact((h.take o).append k).append (h.drop _)
theorem Ub.splice{cs ds:List Value}{xs ys:List PV}(h:Ub Φ cs xs)(k:Ub Φ ds ys)(o:Nat):Ub Φ (splice cs o ds) (splice xs o ys):=by unfold Pl.splice;rw[k.1];exact((h.take o).append k).append (h.drop _)
theorem X5.splice{cs ds:List Value}(h:X5 cs)(k:X5 ds)(o:Nat):X5 (splice cs o ds):=((h.take o).append k).append (h.drop _)
theorem UJ{α:Type}{cs ds:List α}{o:Nat}(h:o+ds.length<=cs.length):(splice cs o ds).length=cs.length:=by simp[splice];omega
theorem U2{α:Type}{cs ds:List α}{o:Nat}(h:o+ds.length<=cs.length)(j:Nat):(splice cs o ds)[j]? = if j<o then cs[j]? else if j<o+ds.length then ds[j - o]? else cs[j]? :=by
 unfold splice;have h1:(cs.take o).length=o:=by simp;omega
 by_cases hj:j<o
 ·rw[if_pos hj,IK (by simp;omega),IK (by omega),Ip,if_pos hj]
 ·rw[if_neg hj];by_cases hk:j<o+ds.length
  ·rw[if_pos hk,IK (by simp;omega),I6 (by omega),h1]
  ·rw[if_neg hk,I6 (by simp;omega),Iw];congr 1;simp;omega
theorem c0v{α:Type}{cs ds:List α}{o n:Nat}(h:o+ds.length<=n)(hn:n<=cs.length):(splice cs o ds).take n=splice (cs.take n) o ds:=by
 apply IY;intro j;rw[Ip,U2 (by omega),U2 (by simp;omega),Ip];by_cases h1:j<n
 ·simp[h1]
 ·have : ¬ j<o:=by omega
  have : ¬ j<o+ds.length:=by omega
  simp[*]
theorem RP.one_of{v:Value}{p:PV}(h:RP Φ v p)(b:v.oneCell'=true):p.one=true:=by cases h <;> first|rfl|simp[fC]at b
theorem e4h{p:PV}(h:p.one=true):p.cells=[p]:=by cases p <;> first|rfl|simp[PV.one]at h
theorem Ub.ones{cs:List Value}{ps:List PV}(h:Ub Φ cs ps)(ho:X5 cs): ∀ p∈ps,p.one=true:=by intro p g;obtain⟨j,e,rfl⟩:=IZ g;obtain⟨v,b,i⟩:=h.at_ (Ia e);exact i.one_of (ho v (Iu b))
theorem b2h{y:PV}{cs:List PV}(h:cs.length=y.cells.length)(h1 : ∀ q∈cs,q.one=true):(y.withCells cs).cells=cs:=by
 have b : ∀ y:PV,y.cells=[y]->cs.length=1->(cs.headD y).cells=cs:=by
  intro y _ e
  match cs,e,h1 with
  | [q],_,h1=>exact e4h (h1 q (by simp))
 cases y with
 | agg ys=>rfl
 | _=>exact b _ rfl h
theorem d1c{α:Type}{cs ds:List α}{o:Nat}{q:α}(h:q∈splice cs o ds):q∈cs∨q∈ds:=by
 unfold splice at h;rcases Ij.1 h with h|h
 ·rcases Ij.1 h with h|h
  ·exact .inl (IE h)
  ·exact .inr h
 ·exact .inl (IB h)
theorem b7k{xs:List PV}{sz:Nat}(hs : ∀ x∈xs,x.cells.length=sz){j:Nat}{y:PV}(b:xs[j]? = some y){k:Nat}(e:k<sz):(flat xs)[j*sz+k]? = y.cells[k]? :=by rw[<- Ee hs b,Ip,if_pos e,Iw]
theorem f4j: ∀ {xs:List PV} {sz:Nat} (hs : ∀ x∈xs,x.cells.length=sz) {j:Nat} {y:PV} (b:j<xs.length) (g:y.cells.length=sz),flat (xs.set j y)=splice (flat xs) (j*sz) y.cells:=by
 intro xs
 induction xs with
 | nil=>intro sz hs j y b;simp at b
 | cons x xs ih=>
  intro sz hs j y b g;have h:=hs x (by simp);cases j with
  | zero=>rw[List.set_cons_zero,VK,VK,dY];simp[splice,g,<- h]
  | succ j=>
   rw[List.set_cons_succ,VK,VK,ih (λz i=>hs z (by simp[i])) (by simpa using b) g];have e:(j+1)*sz=x.cells.length+j*sz:=by rw[II,aP,h,dW]
   rw[e];simp only[splice,eU,eT,I5];rw[I1 (l:=x.cells) (by omega),List.drop_of_length_le (l:=x.cells) (by omega)];simp
theorem e5s{α:Type}{cs ds es:List α}{b o:Nat}(hb:b+ds.length<=cs.length)(ho:o+es.length<=ds.length)(e : ∀ k,k<ds.length->cs[b+k]? = ds[k]?):
  splice cs b (splice ds o es)=splice cs (b+o) es:=by
 have g:=UJ ho;apply IY;intro j;rw[U2 (cs:=cs) (ds:=splice ds o es) (by omega),U2 (cs:=cs) (ds:=es) (by omega),g];by_cases h1:j<b
 ·have:j<b+o:=by omega
  simp[h1,this]
 ·rw[if_neg h1];by_cases h2:j<b+ds.length
  ·rw[if_pos h2,U2 ho];by_cases h3:j<b+o
   ·rw[if_pos h3,if_pos (by omega),<- e _ (by omega)];congr 1;omega
   ·rw[if_neg h3,if_neg (by omega)];by_cases h4:j<b+o+es.length
    ·rw[if_pos h4,if_pos (by omega)];congr 1;omega
    ·rw[if_neg h4,if_neg (by omega),<- e _ (by omega)];congr 1;omega
  ·rw[if_neg h2,if_neg (by omega),if_neg (by omega)]
theorem g5d{t:TypeId}{i:TypeInfo}{u v:Value}{X Y:IOp}(hi:P.info? t=some i)(hg:Good c μ Φ σ w)(hu:R μ Φ u (ev env X))(hv:R μ Φ v (ev env Y))(hr:(WJ L env (.store i.size X Y)).run σ=some (x,σ')):
  ∃ w',(dL t u v).run P w = .ok () w'∧YJ c μ Φ σ' x aL w':=by
 simp only[WJ]at hr;split at hr
 ·rename_i l o hX;rw[hX]at hu;have e:=Vx hr;clear hr;obtain⟨ob,h,hr⟩:=e;split at hr
  ·rename_i cs;split at hr
   ·rename_i hc;obtain⟨h1,h2,h3⟩:=hc;obtain⟨_,hr⟩:=Td hr;obtain⟨rfl,rfl⟩:=ZJ hr;cases hu with
    | ptr _ _ B C S hm=>
     obtain⟨B',C',S',T,r,k1,U,k3,Q,V⟩:=hg.obj l _ h;rw[hm]at k1;cases k1;obtain⟨H,F⟩:=a4b hv h3;have b:v.cells.toList.length=i.size:=by rw[H.1,h1]
     have hsz:r.size=cs.length:=by simpa using k3.1
     refine⟨_,a9f (n:=0) (C:=0) hi b (.of U) (by omega) F,μ,Φ,Mu.le.refl _,Ye.le.refl _,?_,.undef⟩;refine hg.setRow h rfl (by simp[blk,hm]) ?_ (by simp[blk,hm]);exact⟨B,C,S,T,_,hm,setRow_heap w B r _ T _ U,by simpa using k3.splice H o,by simpa using Q.splice F o,V⟩
   ·exact(Zy hr).elim
  ·exact(Zy hr).elim
 ·rename_i l m j o hX;rw[hX]at hu;rw[HM.run_bind,Ib]at hr;obtain⟨⟨p,σ1⟩,hf,hr⟩:=hr;obtain⟨Φ1,f1,f2,f3⟩:=ER _ hf hg hv;have e:=Vx hr;clear hr;obtain⟨ob,h,hr⟩:=e;split at hr
  ·rename_i ty sz xs;have e:=YU hr;clear hr;obtain⟨s,hr⟩:=e;simp only[Ie,beq_iff_eq,decide_eq_true_eq]at s;obtain⟨⟨⟨⟨W,hj0⟩,h1⟩,h2⟩,h3⟩:=s;obtain⟨y,hyy,O⟩ : ∃ y,xs.getD j default=y∧xs[j]? = some y:=⟨_,rfl,by simp[I4,Ia hj0]⟩
   rw[hyy]at h2 hr;have e:=Td hr;clear hr;obtain⟨_,hr⟩:=e;obtain⟨rfl,rfl⟩:=ZJ hr;cases hu with
   | eptr _ _ _ _ B C S hm=>
    obtain⟨B',C',r,k1,U,k3,Q,V,k6,E,k8,k9,k10⟩:=f2.obj l _ h;rw[W,hm]at k1;cases k1;obtain⟨H,F⟩:=Cx f3 h3;have b:v.cells.toList.length=i.size:=by rw[H.1,h1]
    have I:j<xs.length:=(Ic.1 O).1;have A:y.cells.length=sz:=E y (Iu O);have hle:j*sz+sz<=xs.length*sz:=by
     have:(j+1)*sz<=xs.length*sz:=IV _ I
     rwa [II,aP]at this
    have N:xs.length*sz<=r.size:=by rw[Q];exact IV _ V
    have M:p.cells.length=i.size:=h1;refine⟨_,a9f hi b k3 (by omega) F,μ,Φ1,Mu.le.refl _,f1,?_,.undef⟩;have hB:blk μ l (.row false ty sz xs)=B:=by simp[blk,W,hm]
    have K:Ub Φ1 ((r.toList.drop (j*sz)).take sz) y.cells∧X5 ((r.toList.drop (j*sz)).take sz):=(b7x k3 E k8 k9 O).2;have g:(splice y.cells o p.cells).length=y.cells.length:=UJ (by rw[M];exact h2);have D:(y.withCells (splice y.cells o p.cells)).cells=splice y.cells o p.cells:=by
     refine b2h g ?_;intro q s;rcases d1c s with s|s
     ·exact K.1.ones K.2 q s
     ·exact H.ones F q s
    have Z:flat (xs.set j (y.withCells (splice y.cells o p.cells)))=splice (flat xs) (j*sz+o) p.cells:=by rw[f4j E I (by rw[D,g,A]),D];refine e5s (by rw[Ul E];omega) (by rw[M];exact h2) ?_;intro k hk;exact b7k E O (by omega)
    have hop:o+i.size<=sz:=by rw[<- A];exact h2
    have J:(splice r.toList (j*sz+o) v.cells.toList).take ((xs.set j (y.withCells (splice y.cells o p.cells))).length*sz)=splice (r.toList.take (xs.length*sz)) (j*sz+o) v.cells.toList:=by rw[bq,c0v (by rw[b];omega) (by simpa using N)]
    refine f2.setRow h rfl hB ?_ (by simp[blk,W,hm]);refine⟨B,C,_,by rw[bq,W];exact hm,λn hn=>U n (by simpa using hn),by rw[bq];exact k3.put (by have:=UJ (cs:=r.toList) (ds:=v.cells.toList) (o:=j*sz+o) (by rw[b];simp;omega);simpa using this),?_,by simpa using V,k6,?_,?_,?_,by simpa using k10⟩
    ·have:=UJ (cs:=r.toList) (ds:=v.cells.toList) (o:=j*sz+o) (by rw[b];simp;omega);simpa [Q]using this
    ·intro z hz;rcases List.mem_or_eq_of_mem_set hz with hz|rfl
     ·exact E z hz
     ·rw[D,g,A]
    ·rw[aQ,J,Z];exact k8.splice H _
    ·rw[aQ,J];exact k9.splice F _
  ·exact(Zy hr).elim
 ·exact(Zy hr).elim
end
end
section
section
variable {P:Program} {c:Ctx} {μ:Mu} {Φ:Ye} {σ σ':ZN} {w:World} {a:Act} {env:List AV} {L:Nat} {x:AV}
def DI(d:TypeDesc)(st:Bool):Prop:=if st then d = .string else ∃ k,d = .int k
theorem F5{kt:TypeId}{d:TypeDesc}{st:Bool}(hd:P.underlying kt=some d)(b:DI d st)(e:Bool)(v:Value)(n:Nat):(bE e (n+1) kt v).run P w = .ok () w:=by
 unfold bE;cases st with
 | true=>simp only[DI,if_true]at b;subst b;simp[run_underlying hd]
 | false=>simp only[DI,if_false,IA]at b;obtain⟨k,rfl⟩:=b;simp[run_underlying hd]
theorem JY{d:TypeDesc}{st:Bool}(e:DI d st){v u:Value}{p q:PV}(i:RP Φ v p)(g:RP Φ u q)(b:p.isKey st=true){r:Bool}(h:c1v p q=some r):dM d v u=some r:=by
 cases st with
 | true=>simp only[DI,if_true]at e;subst e;cases i <;> simp[PV.isKey]at b;cases g <;> simp[c1v]at h;subst h;simp only[dM];congr 1
 | false=>simp only[DI,if_false,IA]at e;obtain⟨k,rfl⟩:=e;cases i <;> simp[PV.isKey]at b;cases g <;> simp[c1v]at h;obtain⟨rfl,rfl⟩:=h;simp[dM]
def b1b(Φ:Ye)(l:List MapEntry)(es:List (PV×PV)):Prop:=l.length=es.length∧ ∀ (j:Nat) e p,l[j]? = some e->es[j]? = some p->RP Φ e.key p.1∧RP Φ e.val p.2
theorem b1b.uncons{l:List MapEntry}{p:PV×PV}{es:List (PV×PV)}(h:b1b Φ l (p::es)): ∃ e l',l=e::l'∧RP Φ e.key p.1∧RP Φ e.val p.2∧b1b Φ l' es:=by
 cases l with
 | nil=>have:=h.1;simp at this
 | cons e l'=>have g:=h.2 0 e p rfl rfl;exact⟨e,l',rfl,g.1,g.2,by have:=h.1;simpa using this,λj a b ha hb=>h.2 (j+1) a b (by simpa using ha) (by simpa using hb)⟩
theorem d5y{d:TypeDesc}{st:Bool}(z:DI d st){v:Value}{p:PV}(A:RP Φ v p)(h:p.isKey st=true): ∀ (es:List (PV×PV)) (l:List MapEntry) (i:Nat) (r:Option PV),b1b Φ l es->a5h p es=some r ->
  ∃ k,IQ d v l i=some k∧(match r with|none=>k=none|some q=> ∃ s u,k=some (s,u)∧RP Φ u q):=by
 intro es
 induction es with
 | nil=>
  intro l i r y g;simp[a5h]at g;subst g;have:l=[]:=by have:=y.1;simpa using this
  subst this;exact⟨none,rfl,rfl⟩
 | cons q es ih=>
  intro l i r y g;obtain⟨e,l',rfl,h1,h2,h3⟩:=y.uncons;obtain⟨a,b⟩:=q;simp only[a5h]at g;split at g
  ·rename_i j;cases g;exact⟨some (i,e.val),by simp[IQ,JY z A h1 h j],i,e.val,rfl,h2⟩
  ·rename_i j;obtain⟨k,k1,B⟩:=ih l' (i+1) r h3 g;exact⟨k,by simp[IQ,JY z A h1 h j,k1],B⟩
  ·cases g
theorem i4v{d:TypeDesc}{st:Bool}(I:DI d st){v u:Value}{p q:PV}(E:RP Φ v p)(A:p.isKey st=true)(hu:RP Φ u q): ∀ (es:List (PV×PV)) (l:List MapEntry) (i:Nat) (r:List (PV×PV)),b1b Φ l es->upd p q es=some r ->
  (∃ g b B,IQ d v l i=some (some (i+g,b))∧l[g]? = some B∧RP Φ B.key p∧(∀ f:MapEntry->MapEntry,(∀ e,RP Φ e.key p->RP Φ (f e).key p∧RP Φ (f e).val q)->b1b Φ (l.modify g f) r)) ∨
  (IQ d v l i=some none∧ ∀ born,b1b Φ (l++[{key:=v,val:=u,born:=born}]) r):=by
 intro es
 induction es with
 | nil=>
  intro l i r J s;simp[upd]at s;subst s;have:l=[]:=by have:=J.1;simpa using this
  subst this;refine .inr ⟨rfl,λborn=>⟨rfl,?_⟩⟩;intro j a b ha hb;cases j with
  | zero=>simp at ha hb;subst ha hb;exact⟨E,hu⟩
  | succ j=>simp at ha
 | cons z es ih=>
  intro l i r J s;obtain⟨e,l',rfl,h1,h2,h3⟩:=J.uncons;obtain⟨a,b⟩:=z;simp only[upd]at s;split at s
  ·rename_i C;cases s;have D:RP Φ e.key p:=by
    have:p=a:=by cases p <;> cases a <;> simp_all[c1v,PV.isKey]
    rw[this];exact h1
   refine .inl ⟨0,e.val,e,by simp[IQ,JY I E h1 A C],rfl,D,λf H=>⟨by simpa using h3.1,?_⟩⟩;intro j x y k h;cases j with
   | zero=>simp at k h;subst k h;exact H e D
   | succ j=>simp at k h;exact h3.2 j x y k h
  ·rename_i C;rw[Cm]at s;obtain⟨K,s,rfl⟩:=s;rcases ih l' (i+1) K h3 s with ⟨g,N,B,k1,F,k3,M⟩|⟨k1,F⟩
   ·refine .inl ⟨g+1,N,B,?_,by simpa using F,k3,λf H=> ?_⟩
    ·have e:i+(g+1)=i+1+g:=by omega
     simp[IQ,JY I E h1 A C,k1,e]
    ·have:=M f H;refine⟨by simpa using this.1,?_⟩;intro j x y k h;cases j with
     | zero=>simp at k h;subst k h;exact⟨h1,h2⟩
     | succ j=>simp at k h;exact this.2 j x y (by simpa using k) h
   ·refine .inr ⟨by simp[IQ,JY I E h1 A C,k1],λborn=> ?_⟩
    have:=F born;refine⟨by have:=this.1;simp at this ⊢;omega,?_⟩;intro j x y k h;cases j with
    | zero=>simp at k h;subst k h;exact⟨h1,h2⟩
    | succ j=>simp at k h;exact this.2 j x y k h
  ·cases s
theorem Ea(q:Good c μ Φ σ w){l:Nat}{es:List (PV×PV)}(k:σ[l]? = some (.obj (.map es))){B C S:Nat}(hm:μ l 0=some (B,C,S)): ∃ g b,w.heap[B]? = some (.map g b)∧b1b Φ g.toList es∧Φ B=none∧a4s g b:=by obtain⟨B',C',S',g,b,h1,h2,h3,h,s⟩:=q.obj l _ k;rw[hm]at h1;cases h1;exact⟨g,b,h2,⟨by simpa using h3,λj e p r i=>h j e p (by simpa using r) i⟩,s⟩
theorem e1p{t kt et:TypeId}{d:TypeDesc}{i:TypeInfo}{F:Value}{z:PV}{ok st:Bool}{sh:Sh}{u v:Value}{X Y:IOp}(ht:P.underlying t=some (.map kt et))(hd:P.underlying kt=some d)(U:DI d st)
  (hi:P.info? et=some i) (hz:i.zero=some F) (T:Dh F=some z) (V:Good c μ Φ σ w) (hu:R μ Φ u (ev env X)) (M:R μ Φ v (ev env Y)) (hr:(WJ L env (.lookup st sh z ok X Y)).run σ=some (x,σ')) :
  VS P (dZ t u v ok) w (YJ c μ Φ σ' x):=by
 simp only[WJ]at hr;split at hr
 ·rename_i k hY;rw[hY]at M;replace M:=Xa M;split at hr
  ·rename_i A;split at hr
   ·rename_i l hX;rw[hX]at hu;have E:=Vx hr;clear hr;obtain⟨ob,N,hr⟩:=E;split at hr
    ·rename_i es;cases hu with
     | map _ B C S hm=>
      obtain⟨s,D,h1,h2,_⟩:=Ea V N hm;have y:(getObj B).run P w = .ok (.map s D) w:=by simp[getObj,fD,h1]
      have I:(bE s.isEmpty 10000 kt v).run P w = .ok () w:=F5 hd U _ _ 9999;have H : ∀ K,IQ d v s.toList 0=some K->(bO kt v s.toList).run P w = .ok K w:=λK h=>by simp[bO,run_underlying hd,h]
      have W:(zeroValue et).run P w = .ok F w:=by simp[zeroValue,typeInfo,hi,hz]
      have E:=YU hr;clear hr;obtain⟨hq,hr⟩:=E;simp only[Ie]at hq;obtain⟨Q,g⟩:=hq;obtain⟨rfl,rfl⟩:=ZJ hr;cases e:a5h k es with
      | none=>simp[ML,e]at Q
      | some r=>
       cases r with
       | some q=>
        obtain⟨K,k1,idx,val,rfl,k3⟩:=d5y U M A es s.toList 0 (some q) h2 e;have O:KU k z es=q:=by simp[KU,e]
        have Z:Ca k es=true:=by simp[Ca,e]
        rw[O]at g ⊢;rw[Z];have J:=d9i k3 g;refine⟨if ok then .tuple #[val,.bool true]else val,w,?_,Zw V ?_⟩
        ·simp[dZ,run_underlying ht,y,I,H _ k1]
        ·cases ok
         ·exact .pv _ _ J
         ·refine .pv _ _ (.tup _ _ rfl ?_);intro j a b ha hb
          match j with
          | 0=>simp at ha hb;subst ha hb;exact J
          | 1=>simp at ha hb;subst ha hb;exact .bool _
          | j+2=>simp at ha
       | none=>
        obtain⟨K,k1,k2⟩:=d5y U M A es s.toList 0 none h2 e;simp only at k2;subst k2;have O:KU k z es=z:=by simp[KU,e]
        have Z:Ca k es=false:=by simp[Ca,e]
        rw[O]at g ⊢;rw[Z];have J:=d9i (Cq (Φ:=Φ) T) g;refine⟨if ok then .tuple #[F,.bool false]else F,w,?_,Zw V ?_⟩
        ·simp[dZ,run_underlying ht,y,I,H _ k1,W]
        ·cases ok
         ·exact .pv _ _ J
         ·refine .pv _ _ (.tup _ _ rfl ?_);intro j a b ha hb
          match j with
          | 0=>simp at ha hb;subst ha hb;exact J
          | 1=>simp at ha hb;subst ha hb;exact .bool _
          | j+2=>simp at ha
    ·exact(Zy hr).elim
   ·exact(Zy hr).elim
  ·exact(Zy hr).elim
 ·exact(Zy hr).elim
theorem b4s(w:World)(B b:Nat)(o:Obj)(h:b≠B):({w with heap:=w.heap.setIfInBounds B o}:World).heap[b]? = w.heap[b]? :=by simp[aC (aY h)]
theorem Good.setMap{B:Nat}{es k:List (PV×PV)}{l C S:Nat}{i:Array MapEntry}{g:Nat}(s:Good c μ Φ σ w)(u:σ[l]? = some (.obj (.map es)))(hm:μ l 0=some (B,C,S))(h:b1b Φ i.toList k)(r:a4s i g):
  Good c μ Φ (σ.set l (.obj (.map k))) {w with heap:=w.heap.setIfInBounds B (.map i g)}:=by
 obtain⟨mes0,clock0,h1,_,h2⟩:=Ea s u hm;have q:=(Ir.1 h1).1;refine s.put u rfl (Mu.le.refl _) (λ_ _ _=>rfl) rfl rfl rfl (by simp) ?_ ?_ (.inl (by simp[blk]))
 ·intro b _ hb;exact b4s w B b _ (by simpa [blk,hm]using hb)
 ·exact⟨B,C,S,i,g,hm,by simp[q],by simpa using h.1,λj e p z y=>h.2 j e p (by simpa using z) y,h2.1,r⟩
theorem a4s.update{i b:Array MapEntry}{g:Nat}(h:a4s i g)(e:b.toList.map (·.born)=i.toList.map (·.born)):a4s b g:=by refine⟨λx j=> ?_,by rw[e];exact h.2⟩;have:x.born∈b.toList.map (·.born):=IP.2 ⟨x,j,rfl⟩;rw[e]at this;obtain⟨y,k,l⟩:=IP.1 this;rw[<- l];exact h.1 y k
theorem a4s.push{i:Array MapEntry}{g:Nat}(h:a4s i g)(k v:Value):a4s (i.push {key:=k,val:=v,born:=g}) (g+1):=by
 refine⟨λx j=> ?_,?_⟩
 ·simp only[dz,Ij,dh]at j;rcases j with j|rfl
  ·exact Nat.lt_succ_of_lt (h.1 x j)
  ·exact Nat.lt_succ_self _
 ·simp only[dz,aG,IG,fG];rw[d9];refine⟨h.2,by simp,λa ha b hb e=> ?_⟩;obtain⟨y,l,rfl⟩:=IP.1 ha
  have:=h.1 y l;simp only[dh]at hb;omega
theorem OT{v:Value}{l:List UInt8}(h:RP Φ v (.str l)): ∃ s:ByteArray,v = .string s∧s.data.toList=l:=by
 cases h with
 | str s=>exact⟨s,rfl,rfl⟩
theorem g1z{st:Bool}{v u:Value}{p:PV}(h:RP Φ v p)(hu:RP Φ u p)(g:p.isKey st=true):(di u v).run P w = .ok v w:=by
 have e:dB (9999+1) u v=true:=by
  cases p <;> simp[PV.isKey]at g
  ·cases h;cases hu;unfold dB;first|rfl|simp|trace_state
  ·obtain⟨b,rfl,k⟩:=OT h;obtain⟨i,rfl,j⟩:=OT hu;have:b=i:=ByteArray.ext (by simpa using k.trans j.symm);subst this;unfold dB;show(b==b)=true
   first|exact beq_self_eq_true b|(show(b.data.toList==b.data.toList)=true;simp)|(show(b.data==b.data)=true;simp)|(show decide (b=b)=true;simp)
 unfold di;rw[show(10000:Nat)=9999+1 from rfl,if_pos e];rfl
theorem e5g{t kt et:TypeId}{d:TypeDesc}{st:Bool}{u v z:Value}{X Y Z:IOp}(ht:P.underlying t=some (.map kt et))(hd:P.underlying kt=some d)(hk:DI d st)
  (hg:Good c μ Φ σ w) (hu:R μ Φ u (ev env X)) (F:R μ Φ v (ev env Y)) (hz:R μ Φ z (ev env Z)) (hr:(WJ L env (.mapupd st X Y Z)).run σ=some (x,σ')) :
  ∃ w',(bu t u v z).run P w = .ok () w'∧YJ c μ Φ σ' x aL w':=by
 simp only[WJ]at hr;split at hr
 ·rename_i k hY;rw[hY]at F;replace F:=Xa F;split at hr
  ·rename_i A;split at hr
   ·rename_i l hX;rw[hX]at hu;rw[HM.run_bind,Ib]at hr;obtain⟨⟨q,σ1⟩,hf,hr⟩:=hr;obtain⟨Φ1,M,f2,f3⟩:=ER _ hf hg hz;have r:=Vx hr;clear hr;obtain⟨ob,E,hr⟩:=r;split at hr
    ·rename_i es;cases hu with
     | map _ B C S hm=>
      obtain⟨g,i,h1,h2,_,K⟩:=Ea f2 E hm;have y:(getObj B).run P w = .ok (.map g i) w:=by simp[getObj,fD,h1]
      have D : ∀ o,(setObj B o).run P w = .ok () {w with heap:=w.heap.setIfInBounds B o}:=λo=>by simp[setObj,fD,h1]
      have I : ∀ e,(bE e 10000 kt v).run P w = .ok () w:=λe=>F5 hd hk _ _ 9999
      have H : ∀ W,IQ d v g.toList 0=some W->(bO kt v g.toList).run P w = .ok W w:=λW h=>by simp[bO,run_underlying hd,h]
      have r:=YU hr;clear hr;obtain⟨hq,hr⟩:=r;obtain⟨s,J⟩ : ∃ s,upd k q es=some s:=I9.1 hq;have U:e6v k q es=s:=by simp[e6v,J]
      rw[U]at hr;have r:=Td hr;clear hr;obtain⟨_,hr⟩:=r;obtain⟨rfl,rfl⟩:=ZJ hr;rcases i4v hk (F.mono M) A f3 es g.toList 0 s h2 J with ⟨Q,b,T,k1,N,k3,k4⟩|⟨k1,N⟩
      ·simp only[dV]at k1;have O:g[Q]? = some T:=by simpa using N
       have V:=g1z (P:=P) (w:=w) (F.mono M) k3 A;refine⟨_,by simp[bu,run_underlying ht,y,I,H _ k1,O,V,D] <;> rfl,μ,Φ1,Mu.le.refl _,M,?_,.undef⟩;refine f2.setMap E hm ?_ (K.update ?_)
       rotate_left
       ·apply IY;intro j;simp only[Im,ah,ai];split
        ·cases g[j]? <;> rfl
        ·rfl
       have:=k4 (λe=>{e with key:=v,val:=z}) (λe _=>⟨F.mono M,f3⟩);simpa using this
      ·refine⟨_,by simp[bu,run_underlying ht,y,I,H _ k1,D] <;> rfl,μ,Φ1,Mu.le.refl _,M,?_,.undef⟩;refine f2.setMap E hm ?_ (K.push _ _);simpa using N i
    ·exact(Zy hr).elim
   ·exact(Zy hr).elim
  ·exact(Zy hr).elim
 ·exact(Zy hr).elim
end
end
section
section
variable {P:Program} {c:Ctx} {μ:Mu} {Φ:Ye} {σ σ':ZN} {w:World} {a:Act} {env:List AV} {L:Nat} {x:AV}
def FQ(P:Program)(t:TypeId):Option Nat:=
 match P.underlying t with
 | some .string=>some 0
 | some (.slice _)=>some 1
 | some (.map _ _)=>some 2
 | _=>none
theorem i7a{t ty:TypeId}{k:Nat}{u:Value}{X:IOp}(ht:FQ P t=some k)(i:Good c μ Φ σ w)(hu:R μ Φ u (ev env X))(hr:(WJ L env (.len k X)).run σ=some (x,σ')):VS P (aB #[t] ty #[u]) w (YJ c μ Φ σ' x):=by
 simp only[WJ]at hr;split at hr
 ·rename_i l h;rw[h]at hu;obtain⟨a,b,g⟩ : ∃ a b,P.underlying t=some (.map a b):=by unfold FQ at ht;split at ht <;> first|exact⟨_,_,‹_›⟩|simp at ht
  obtain⟨ob,A,hr⟩:=Vx hr;split at hr
  ·rename_i es;obtain⟨rfl,rfl⟩:=ZJ hr;cases hu with
   | map _ B C S hm=>
    obtain⟨r,j,h1,h2,_⟩:=Ea i A hm;have y:(getObj B).run P w = .ok (.map r j) w:=by simp[getObj,fD,h1]
    have hs:r.size=es.length:=by simpa using h2.1
    refine⟨_,w,by simp[aB,run_underlying g,y] <;> rfl,Zw i ?_⟩;rw[hs];exact .pv _ _ (.int _ _)
  ·exact(Zy hr).elim
 ·rename_i h;rw[h]at hu;obtain⟨a,b,g⟩ : ∃ a b,P.underlying t=some (.map a b):=by unfold FQ at ht;split at ht <;> first|exact⟨_,_,‹_›⟩|simp at ht
  obtain⟨rfl,rfl⟩:=ZJ hr;replace hu:=Xa hu;cases hu;exact⟨_,w,by simp[aB,run_underlying g] <;> rfl,Zw i (.pv _ _ (.int _ _))⟩
 ·rename_i s h;rw[h]at hu;have g:P.underlying t=some .string:=by unfold FQ at ht;split at ht <;> first|assumption|simp at ht
  obtain⟨rfl,rfl⟩:=ZJ hr;obtain⟨z,rfl,rfl⟩:=OT (Xa hu);have e:z.data.toList.length=z.size:=by simp
  exact⟨.int .i64 z.size,w,by simp[aB,run_underlying g,goInt],Zw i (by rw[e];exact .pv _ _ (.int _ _))⟩
 ·rename_i b m xs h;rw[h]at hu;obtain⟨e,g⟩ : ∃ a,P.underlying t=some (.slice a):=by unfold FQ at ht;split at ht <;> first|exact⟨_,‹_›⟩|simp at ht
  obtain⟨rfl,rfl⟩:=ZJ hr;replace hu:=Xa hu;cases hu with
  | sl0=>exact⟨.int .i64 0,w,by simp[aB,run_underlying g,goInt],Zw i (.pv _ _ (.int _ _))⟩
  | sl b off cs cc=>exact⟨.int .i64 xs.length,w,by simp[aB,run_underlying g,goInt],Zw i (.pv _ _ (.int _ _))⟩
 ·rename_i ra D rc h;rw[h]at hu;obtain⟨e,g⟩ : ∃ a,P.underlying t=some (.slice a):=by unfold FQ at ht;split at ht <;> first|exact⟨_,‹_›⟩|simp at ht
  obtain⟨rfl,rfl⟩:=ZJ hr;replace hu:=Xa hu;cases hu;exact⟨.int .i64 D,w,by simp[aB,run_underlying g,goInt],Zw i (.pv _ _ (.int _ _))⟩
 ·rename_i l n' lo hi h;rw[h]at hu;obtain⟨e,g⟩ : ∃ a,P.underlying t=some (.slice a):=by unfold FQ at ht;split at ht <;> first|exact⟨_,‹_›⟩|simp at ht
  obtain⟨rfl,rfl⟩:=ZJ hr;cases hu with
  | row _ _ _ _ B C S q hm h2 h3 h4 ha=>exact⟨.int .i64 (hi - lo:Nat),w,by simp[aB,run_underlying g,goInt],Zw i (.pv _ _ (.int _ _))⟩
 ·exact(Zy hr).elim
theorem g0z{b dst:TypeId}{u:Value}{X:IOp}(hs:(P.underlying b).isSome=true)(hd:P.underlying dst=some .string)(e:Good c μ Φ σ w)(hu:R μ Φ u (ev env X))
  (hr:(WJ L env (.strid X)).run σ=some (x,σ')):VS P (convert b dst u) w (YJ c μ Φ σ' x):=by
 simp only[WJ]at hr;split at hr
 ·rename_i s g;rw[g]at hu;obtain⟨rfl,rfl⟩:=ZJ hr;obtain⟨z,rfl,rfl⟩:=OT (Xa hu);obtain⟨d,hd'⟩:=I9.1 hs;exact⟨.string z,w,by cases d <;> simp[convert,run_underlying hd',run_underlying hd],Zw e (.pv _ _ (.str _))⟩
 ·exact(Zy hr).elim
theorem h7c{mx:Bool}{ts:Array TypeId}{ty:TypeId}{u v:Value}{X Y:IOp}(g:Good c μ Φ σ w)(hu:R μ Φ u (ev env X))(b:R μ Φ v (ev env Y))(hr:(WJ L env (.mm mx X Y)).run σ=some (x,σ')):
  VS P (if mx then fH ts ty #[u,v]else fI ts ty #[u,v]) w (YJ c μ Φ σ' x):=by
 simp only[WJ]at hr;split at hr
 ·rename_i k p k' q i h;rw[i]at hu;rw[h]at b;split at hr
  ·rename_i e;have e:=Ti e;subst e;obtain⟨rfl,rfl⟩:=ZJ hr;replace hu:=Xa hu;replace b:=Xa b;cases hu;cases b;cases mx
   ·exact⟨_,w,by simp[fI,Builtin.min2] <;> rfl,Zw g (.pv _ _ (.int _ _))⟩
   ·exact⟨_,w,by simp[fH,Builtin.max2] <;> rfl,Zw g (.pv _ _ (.int _ _))⟩
  ·exact(Zy hr).elim
 ·exact(Zy hr).elim
theorem e2d(off:Nat): ∀ (vs:List Value) (k:Nat) (cs:Array Value),off+k+vs.length<=cs.size ->
  ((vs.zipIdx k).foldl (λcs (p:Value×Nat)=>cs.setIfInBounds (off+p.2) p.1) cs).toList=splice cs.toList (off+k) vs:=by
 intro vs
 induction vs with
 | nil=>intro k cs h;simp[splice]
 | cons v vs ih=>
  intro k cs h;simp only[bW,List.foldl_cons];simp only[IL]at h;rw[ih (k+1) _ (by simp;omega),bN];apply IY;intro j;rw[U2 (by simp;omega),U2 (by simp;omega),aZ];simp only[IL];by_cases h1:j<off+k
  ·have b:j<off+(k+1):=by omega
   have g : ¬ off+k=j:=by omega
   simp[h1,b,g]
  ·by_cases h2:j=off+k
   ·subst h2;have b:off+k<off+(k+1):=by omega
    simp[b];omega
   ·have b : ¬ j<off+(k+1):=by omega
    have g : ¬ off+k=j:=by omega
    by_cases h3:j<off+(k+1)+vs.length
    ·have e:j<off+k+(vs.length+1):=by omega
     rw[if_neg b,if_pos h3,if_neg h1,if_pos e];have:j - (off+k)=(j - (off+(k+1)))+1:=by omega
     rw[this,List.getElem?_cons_succ]
    ·have e : ¬ j<off+k+(vs.length+1):=by omega
     rw[if_neg b,if_neg h3,if_neg h1,if_neg e,if_neg g]
theorem d9v{places:Nat->Option (Nat×Nat)}: ∀ (ps:List (Nat×Value)) (qs:List (Nat×Nat×AV)) (cs:Array Value) (xs ys:List AV),RL μ Φ cs.toList xs->X5 cs.toList ->
  ps.length=qs.length->(∀ (j:Nat) p q,ps[j]? = some p->qs[j]? = some q->places p.1=some (q.1,q.2.1)∧R μ Φ p.2 q.2.2)->FW xs qs=some ys ->
  ∃ ds,dF places cs ps=some ds∧RL μ Φ ds.toList ys∧X5 ds.toList∧ds.size=cs.size:=by
 intro ps
 induction ps with
 | nil=>
  intro qs cs xs ys h1 h2 h3 _ g;have:qs=[]:=by simpa using h3.symm
  subst this;simp[FW]at g;subst g;exact⟨cs,rfl,h1,h2,rfl⟩
 | cons p ps ih=>
  intro qs cs xs ys h1 h2 h3 k g;cases qs with
  | nil=>simp at h3
  | cons q qs=>
   obtain⟨i,v⟩:=p;obtain⟨o,n,y⟩:=q;simp only[FW]at g;split at g
   ·rename_i hc;obtain⟨c1,c2,B⟩:=hc;obtain⟨l,s⟩:=k 0 _ _ rfl rfl;simp only at l s;obtain⟨r,A⟩:=a4b s B;have h:v.cells.size=n:=by have:=r.1;simp at this;omega
    have hcs:cs.size=xs.length:=by simpa using h1.1
    have e:=e2d o v.cells.toList 0 cs (by simp;omega);simp only[bV]at e;obtain⟨ds,k1,z,k3,u⟩:=ih qs (v.cells.zipIdx.foldl (λcs (p:Value×Nat)=>cs.setIfInBounds (o+p.2) p.1) cs) _ ys
     (by rw[<- bJ,bB,e];exact h1.splice r o) (by rw[<- bJ,bB,e];exact h2.splice A o) (by simpa using h3) (λj a b ha hb=>k (j+1) a b (by simpa using ha) (by simpa using hb)) g
    refine⟨ds,?_,z,k3,?_⟩
    ·simp only[dF,l];rw[if_neg (by simp[h];omega)];exact k1
    ·rw[u]
     have:=congrArg eO e;rw[UJ (by simp;omega)]at this;rw[<- bJ,bB];simpa using this
   ·cases g
end
end
section
section
variable {P:Program} {c:Ctx} {μ:Mu} {Φ:Ye} {σ σ':ZN} {w:World} {a:Act} {env:List AV} {L:Nat} {x:AV}
theorem g3g{α β:Type}{f:α->Sem β}: ∀ {xs:List α} {ys:List β},xs.length=ys.length->(∀ (j:Nat) x y,xs[j]? = some x->ys[j]? = some y->(f x).run P w = .ok y w)->(xs.mapM f).run P w = .ok ys w:=by
  intro xs
  induction xs with
  | nil => intro ys h _; have : ys = [] := by simpa using h.symm
           subst this;simp
  | cons x xs ih=>
    intro ys h e;cases ys with
    | nil=>simp at h
    | cons y ys=>rw[List.mapM_cons];simp[e 0 x y rfl rfl,ih (by simpa using h) (λj a b ha hb=>e (j+1) a b (by simpa using ha) (by simpa using hb))]
theorem c0h{α β:Type}{f:α->Sem β}{xs:Array α}{ys:List β}(h:xs.size=ys.length)(g : ∀ (j:Nat) x y,xs[j]? = some x->ys[j]? = some y->(f x).run P w = .ok y w):(xs.mapM f).run P w = .ok ys.toArray w:=by rw[Array.mapM_eq_mapM_toList];simp[g3g (P:=P) (w:=w) (f:=f) (xs:=xs.toList) (ys:=ys) (by simpa using h) (λj x y b e=>g j x y (by simpa using b) e)]
theorem a3x{z:Value}{p:PV}{places:Nat->Option (Nat×Nat)}{ps:List (Nat×Value)}{qs:List (Nat×Nat×IOp)}(h:Dh z=some p)(hg:Good c μ Φ σ w)
  (e:ps.length=qs.length) (g : ∀ (j:Nat) a b,ps[j]? = some a->qs[j]? = some b->places a.1=some (b.1,b.2.1)∧R μ Φ a.2 (ev env b.2.2)) (hr:(WJ L env (.build p.cells qs)).run σ=some (x,σ')) :
  ∃ ds,dF places z.cells ps=some ds∧σ'=σ∧R μ Φ (.agg ds) x:=by
 simp only[WJ]at hr;split at hr
 ·rename_i ys i;obtain⟨rfl,rfl⟩:=ZJ hr;obtain⟨h1,h2⟩:=Cx (Cq (Φ:=Φ) h) (Qq h)
  obtain⟨ds,k1,l,k3,_⟩:=d9v (places:=places) ps (qs.map λ(o,n,x)=>(o,n,ev env x)) z.cells _ ys (h1.toRL (μ:=μ)) h2 (by simpa using e) (by
   intro j a b ha hb;rw[Im]at hb;obtain⟨q,k,rfl⟩:=Cm.1 hb
   exact g j a q ha k) i
  refine⟨ds,k1,rfl,?_⟩
  have:=a3w l k3;simpa using this
 ·exact(Zy hr).elim
theorem f2t{t:TypeId}{k:Array Field}{i:TypeInfo}{z:Value}{p:PV}{h:List (Nat×Nat)}{ps:Array (Nat×Value)}{qs:List (Nat×Nat×IOp)}(ht:P.underlying t=some (.struct k))(hi:P.info? t=some i)(u:i.zero=some z)(F:Dh z=some p)
  (l:Wz (λ(f:Field)=>(P.info? f.type).map λi=>(f.offset,i.size)) k.toList=some h) (y:Good c μ Φ σ w) (e:ps.size=qs.length)
  (g : ∀ (j:Nat) a b,ps[j]? = some a->qs[j]? = some b->h[a.1]? = some (b.1,b.2.1)∧R μ Φ a.2 (ev env b.2.2)) (hr:(WJ L env (.build p.cells qs)).run σ=some (x,σ')) :
  VS P (cZ t ps) w (YJ c μ Φ σ' x):=by
 obtain⟨ds,k1,rfl,E⟩:=a3x (c:=c) (places:=(h[·]?)) (ps:=ps.toList) F y (by simpa using e) (λj a b ha hb=>g j a b (by simpa using ha) hb) hr;obtain⟨A,D⟩:=VM l
 have hm:=c0h (P:=P) (w:=w) (f:=λ(f:Field)=>do pure (f.offset,<- sizeOf f.type)) (xs:=k) (ys:=h) (by simpa using A) (by
  intro j f q B C
  have:=D j f q (by simpa using B) C;rw[Cm]at this;obtain⟨i',s,rfl⟩:=this
  simp[YH s])
 refine⟨.agg ds,w,?_,Zw y E⟩;have r:(zeroValue t).run P w = .ok z w:=by simp[zeroValue,typeInfo,hi,u]
 simp only[cZ,Ig,r,Il,run_underlying ht];rw[hm];simp[k1]
theorem e3n{t e:TypeId}{n:Nat}{i h:TypeInfo}{z:Value}{p:PV}{ps:Array (Nat×Value)}{qs:List (Nat×Nat×IOp)}(ht:P.underlying t=some (.array n e))(hi:P.info? t=some i)(r:P.info? e=some h)(q:i.zero=some z)(y:Dh z=some p)
  (s:Good c μ Φ σ w) (g:ps.size=qs.length)
  (k : ∀ (j:Nat) a b,ps[j]? = some a->qs[j]? = some b->some (a.1*h.size,h.size)=some (b.1,b.2.1)∧R μ Φ a.2 (ev env b.2.2)) (hr:(WJ L env (.build p.cells qs)).run σ=some (x,σ')) :
  VS P (cZ t ps) w (YJ c μ Φ σ' x):=by
 obtain⟨ds,k1,rfl,u⟩:=a3x (c:=c) (places:=λj=>some (j*h.size,h.size)) (ps:=ps.toList) y s (by simpa using g) (λj a b ha hb=>k j a b (by simpa using ha) hb) hr;refine⟨.agg ds,w,?_,Zw s u⟩;have l:(zeroValue t).run P w = .ok z w:=by simp[zeroValue,typeInfo,hi,q]
 simp[cZ,l,run_underlying ht,YH r,k1]
theorem e5e{sz:Nat}: ∀ (xs:List PV) (k:Nat) (pre:List AV),pre.length=k*sz->(∀ x∈xs,x.cells.length=sz∧x.cellsOk=true) ->
  FW (pre++Iy (xs.length*sz) .junk) ((xs.zipIdx k).map λq=>(q.2*sz,sz,AV.pv q.1))=some (pre++(flat xs).map .pv):=by
 intro xs
 induction xs with
 | nil=>intro k pre _ _;simp[FW,flat]
 | cons x xs ih=>
  intro k pre h i;obtain⟨h1,h2⟩:=i x (by simp);have e:AV.cells (.pv x)=x.cells.map .pv:=by cases x <;> rfl
  have b:AV.cellsOk (.pv x)=true:=by cases x <;> simp_all[AV.cellsOk,PV.cellsOk]
  have j:(AV.cells (.pv x)).length=sz:=by rw[e];simpa using h1
  simp only[bW,IG,FW];rw[if_pos ⟨j,by simp[h,II],b⟩];have g:splice (pre++Iy ((x::xs).length*sz) AV.junk) (k*sz) (AV.cells (.pv x))=(pre++x.cells.map .pv)++Iy (xs.length*sz) .junk:=by unfold splice;rw[j,<- h,List.take_left,<- List.drop_drop,List.drop_left,e,List.drop_replicate];congr 2;simp[II]
  rw[g,ih (k+1) _ (by simp[h,h1,II]) (λy l=>i y (by simp[l]))];simp[VK]
theorem b9d:(default:Value).oneCell'=true:=rfl
theorem g8t(cs:List Value):RL μ Φ cs (Iy cs.length .junk):=
 ⟨by simp,λj v x hv b=>by
  have:=Ic.1 b;obtain⟨h,e⟩:=this;simp at e;subst e
  exact .junk v⟩
theorem a8m{z:Array Value}(g:X5 z.toList)(n:Nat):X5 ((cu n).map (z[· % z.size]!)).toList:=by
 intro v b;simp at b;obtain⟨k,hk,rfl⟩:=b;rw[getElem!_def];split
 ·rename_i e;exact g _ (by simpa using Array.mem_of_getElem? e)
 ·exact b9d
theorem b3y{α:Type}: ∀ (l:List (Nat×α)) (k:Nat),l.map (·.1)=List.range' k l.length->l=((l.map (·.2)).zipIdx k).map λq=>(q.2,q.1):=by
 intro l
 induction l with
 | nil=>intro k _;rfl
 | cons a l ih=>intro k h;simp only[IG,IL,List.range'_succ,bi]at h;simp only[IG,bW];rw[<- ih (k+1) h.2,<- h.1]
theorem vs_bslice {t e : TypeId} {n : Nat} {i : TypeInfo} {z : Value} {p : PV} {ps : Array (Nat × Value)} {qs : List (Nat × IOp)} (ht : P.underlying t = some (.slice e)) (hi : P.info? e = some i) (H : i.zero = some z) (S : Dh z = some p)
    (hsmall:n*i.size ≤ 1048576) (hnsm:n ≤ 1048576) (X:Good c μ Φ σ w) (I:ps.size=qs.length)
    (u : ∀ (j:Nat) a b,ps[j]? = some a → qs[j]? = some b → a.1=b.1∧R μ Φ a.2 (ev env b.2)) (hr:(WJ L env (.bslice e i.size n p qs)).run σ=some (x,σ')) :
    VS P (bX t n ps) w (YJ c μ Φ σ' x):=by
  simp only[WJ]at hr;split at hr
  · rename_i h
    rw[HM.run_bind,Ib]at hr;obtain⟨⟨xs,σ1⟩,hf,hr⟩:=hr;have K:RL μ Φ (ps.toList.map (·.2)) (qs.map λ(_,x)=>ev env x):=by refine⟨by simpa using I,?_⟩;intro j v y A l;rw[Im]at A l;obtain⟨a,ha,rfl⟩:=Cm.1 A;obtain⟨b,hb,rfl⟩:=Cm.1 l;exact(u j a b (by simpa using ha) hb).2
    obtain⟨Φ1,Z,f2,f3⟩:=Kz _ hf X K;simp only at hr;have N:=YU hr;clear hr;obtain⟨F,hr⟩:=N
    · obtain⟨W,hr⟩:=Cc hr
      obtain⟨rfl,rfl⟩:=ZJ hr;have D:xs.length=n:=by have h1:=congrArg eO h;have h2:=f3.1;simp at h1 h2;omega
      have k : ∀ x∈xs,x.cells.length=i.size∧x.cellsOk=true:=by
        intro y l
        have:=aM.1 F y l;simpa using this
      have hzero:(if n*i.size=0 then(pure #[]:Sem (Array Value))else do pure (← zeroValue e).cells).run P w = .ok (if n*i.size=0 then #[]else z.cells) w:=by
        split
        · rfl
        · simp[zeroValue,typeInfo,hi,H]
      have J:X5 (if n*i.size=0 then #[]else z.cells:Array Value).toList:=by
        split
        · intro v A;simp at A
        · exact(Cx (Cq (Φ:=Φ) S) (Qq S)).2
      have hps:ps.toList=((ps.toList.map (·.2)).zipIdx 0).map λq=>(q.2,q.1):=by
        refine b3y _ 0 ?_;have V:ps.toList.map (·.1)=qs.map (·.1):=by
          apply IY;intro j;rw[Im,Im];by_cases hj:j<qs.length
          · have ha:ps[j]? = some (ps[j]'(by omega)):=Ik (by omega)
            have hb:qs[j]? = some qs[j]:=Ia hj
            have:=(u j _ _ ha hb).1;simp[ha,hb,this]
          · have hb:qs[j]? = none:=aI (by omega)
            have ha:ps.toList[j]? = none:=aI (by simp;omega);rw[ha,hb];rfl
        rw[V,h,dG];have:ps.toList.length=n:=by have:=f3.1;simp at this ⊢;omega
        rw[this]
      obtain⟨ds,k1,O,k3,U⟩:=d9v (μ:=μ) (Φ:=Φ1) (places:=λj=>some (j*i.size,i.size)) ps.toList ((xs.zipIdx 0).map λq=>(q.2*i.size,i.size,AV.pv q.1))
        ((cu (n*i.size)).map ((if n*i.size=0 then #[]else z.cells:Array Value)[· % (if n*i.size=0 then #[]else z.cells:Array Value).size]!)) (Iy (n*i.size) .junk) ((flat xs).map .pv)
        (by have := g8t (μ := μ) (Φ := Φ1) ((cu (n * i.size)).map ((if n * i.size = 0 then #[] else z.cells : Array Value)[· % (if n * i.size = 0 then #[] else z.cells : Array Value).size]!)).toList
            simpa using this)
        (a8m J _) (by have:=f3.1;simp at this ⊢;omega)
        (by
          intro j pa qa ha hb;rw[hps,Im,dH]at ha;rw[Im,dH]at hb;simp only[Option.map_map,Cm,Function.comp]at ha hb;obtain⟨v,A,rfl⟩:=ha;obtain⟨y,l,rfl⟩:=hb
          exact⟨rfl,.pv _ _ (f3.2 j v y A l)⟩)
        (by have := e5e (sz := i.size) xs 0 [] (by simp) k
            rw[D]at this
            simpa using this)
      have g:dF (λj=>some (j*i.size,i.size)) ((cu (n*i.size)).map ((if n*i.size=0 then #[]else z.cells:Array Value)[· % (if n*i.size=0 then #[]else z.cells:Array Value).size]!)) ps.toList=some ds:=k1;have s:ds.size=n*i.size:=by rw[U];simp
      have E:ds.toList.take (xs.length*i.size)=ds.toList:=by rw[I1 (by simp[s,D])]
      obtain⟨μ',Y,T,Q⟩:=O4 (w':=w.alloc (.cells ds e)) f2 W (ty:=e) (sz:=i.size) (xs:=xs) (B:=w.heap.size) (C:=n) (cs:=ds) rfl rfl rfl (by simp) (λb hb=>UO w _ b hb) (IJ _) (Kw w _) s (by omega)
        (by unfold maxLen;omega)
        (λy l=>(k y l).1) (by
          rw[E]
          refine⟨by simpa using O.1,λj v y A l=>Xa (O.2 j v (.pv y) A (by simp[l]))⟩) (by rw[E];exact k3)
      rw[D]at Q;refine⟨_,_,?_,μ',Φ1,Y,Z,T,Q⟩;have r : ¬ n*i.size>2 ^ 24:=by omega
      have M:(zeroValue e).run P w = .ok z w:=by simp[zeroValue,typeInfo,hi,H]
      by_cases hz0:n*i.size=0
      · simp only[hz0,if_true]at g r
        simp only[bX,Ig,run_underlying ht,Il,YH hi,r,if_false,hz0,if_true,IW,g,newRow];rfl
      · simp only[hz0,if_false]at g r
        simp only[bX,Ig,run_underlying ht,Il,YH hi,r,if_false,hz0,M,IW,g,newRow];rfl
  · exact(Zy hr).elim
end
end
section
section
variable {P:Program} {c:Ctx} {μ:Mu} {Φ:Ye} {σ σ':ZN} {w:World} {a:Act} {env:List AV} {L:Nat} {x:AV}
theorem R7{p:PV}: ∀ (n k:Nat),k<n*p.cells.length->(flat (Iy n p))[k]? = p.cells[k % p.cells.length]? :=by
 intro n
 induction n with
 | zero=>intro k h;simp at h
 | succ n ih=>
  intro k h;rw[List.replicate_succ,VK];rw[II,aP]at h;by_cases hk:k<p.cells.length
  ·rw[IK hk,Nat.mod_eq_of_lt hk]
  ·rw[I6 (by omega),ih _ (by omega)];congr 1;rw[Nat.mod_eq_sub_mod (by omega:k ≥ p.cells.length)]
theorem f5u{z:Value}{p:PV}(u:Dh z=some p){n sz:Nat}(hs:p.cells.length=sz):Ub Φ ((madeCells z.cells (n*sz)).toList) (flat (Iy n p))∧X5 (madeCells z.cells (n*sz)).toList:=by
 obtain⟨h1,h2⟩:=Cx (Cq (Φ:=Φ) u) (Qq u);have r:z.cells.size=sz:=by have:=h1.1;simp at this;omega
 refine⟨⟨?_,?_⟩,a8m h2 _⟩
 ·rw[Ul (sz:=sz) (λx i=>by have:=aU i;rw[this];exact hs)];simp[size_madeCells]
 ·intro j v x b i;have y:j<n*sz:=by have:=(Ic.1 b).1;simpa [size_madeCells]using this
  have g:0<sz:=by
   rcases Nat.eq_zero_or_pos sz with h|h
   ·subst h;simp at y
   ·exact h
  have hm:j % sz<sz:=Nat.mod_lt _ g;rw[R7 n j (by rw[hs];exact y),hs]at i;have q:z.cells[j % sz]? = some (z.cells[j % sz]'(by omega)):=Ik (by omega);have l:v=z.cells[j % sz]'(by omega):=by
   simp[madeCells,r]at b;obtain⟨k,A,b⟩:=b;have s:j=k:=by obtain⟨_,e⟩:=Ic.1 A;simpa using e
   subst s;rw[getElem!_pos z.cells (j % sz) (by omega)]at b;exact b.symm
  subst l;exact h1.2 (j % sz) _ x (by simp[q]) i
theorem h5x{t e:TypeId}{i:TypeInfo}{z:Value}{p:PV}{u v:Value}{X Y:IOp}(ht:P.underlying t=some (.slice e))(hi:P.info? e=some i)(q:i.zero=some z)(I:Dh z=some p)(hs:p.cells.length=i.size)
  (J:Good c μ Φ σ w) (hu:R μ Φ u (ev env X)) (l:R μ Φ v (ev env Y)) (hr:(WJ L env (.mksl e i.size i.bytes p X Y)).run σ=some (x,σ')):VS P (Instr.makeSlice t u v) w (YJ c μ Φ σ' x):=by
 simp only[WJ]at hr;split at hr
 ·rename_i n m M E;rw[M]at hu;rw[E]at l;replace hu:=Xa hu;replace l:=Xa l;have g:=YU hr;clear hr;obtain⟨hc,hr⟩:=g;simp only[Ie,beq_iff_eq,decide_eq_true_eq]at hc
  ·obtain⟨⟨⟨H,rfl⟩,h2⟩,h3⟩:=hc;have g:=Cc hr;clear hr;obtain⟨F,hr⟩:=g;obtain⟨rfl,rfl⟩:=ZJ hr;cases hu;cases l;have k:=run_make (P:=P) w t e i z ht hi q .i64 .i64 n n H (Int.le_refl _) (by rw[Int.mul_comm];omega) (by omega);obtain⟨k1,D⟩:=f5u (Φ:=Φ) I (n:=n.toNat) hs;have j:(Iy n.toNat p).length=n.toNat:=by simp
   have h:(madeCells z.cells (n.toNat*i.size)).toList.take ((Iy n.toNat p).length*i.size)=(madeCells z.cells (n.toNat*i.size)).toList:=by rw[I1 (by simp[size_madeCells])]
   obtain⟨μ',K,A,r⟩:=O4 (w':=w.alloc (.cells (madeCells z.cells (n.toNat*i.size)) e)) J F (ty:=e) (sz:=i.size) (xs:=Iy n.toNat p) (B:=w.heap.size) (C:=n.toNat) (cs:=madeCells z.cells (n.toNat*i.size)) rfl rfl rfl (by simp) (λb hb=>UO w _ b hb) (IJ _) (Kw w _) (size_madeCells _ _) (by simp)
    (by unfold maxLen;omega) (λy s=>by have:=aU s;rw[this];exact hs) (by rw[h];exact k1) (by rw[h];exact D)
   rw[j]at r;exact⟨_,_,k,μ',Φ,K,Ye.le.refl _,A,r⟩
 ·exact(Zy hr).elim
def YS(Φ:Ye)(w:World)(sz:Nat)(v:Value)(ys:List PV):Prop:=∃ e g,v = .slice e ys.length g∧(ys=[] ∨ ∃ b off news,e=some ⟨b,off,none⟩∧Ku w b off news∧Ub Φ news (flat ys)∧X5 news∧ ∀ x∈ys,x.cells.length=sz)
theorem a0q{σ:ZN}{l:Nat}{s:Slot}(h:σ[l]? = some s):σ.set l s=σ:=by
 apply IY;intro j;by_cases e:j=l
 ·subst e;rw[Yb h,h]
 ·rw[Z4 e]
theorem UY{t ty e:TypeId}{i:TypeInfo}(ht:P.underlying t=some (.slice e))(hi:P.info? e=some i){b j:Option Addr}{n g k:Nat}(h:n<=g):
  (IX #[t,t] ty #[.slice b n g,.slice j 0 k]).run P w = .ok (.slice b n g) w:=by
 have l:(dn i.size 0 (.slice j 0 k)).run P w = .ok #[] w:=by
  cases j with
  | none=>rfl
  | some q=>simp[dn,loadCells,loadCellsFrom]
 cases b with
 | none=>simp[IX,run_underlying ht,YH hi,dN,h,l]
 | some q=>simp[IX,run_underlying ht,YH hi,dN,h,l,storeCells]
theorem Uo{b off:Nat}{cs:List Value}(h:Ku w b off cs): ∀ j u,cs[j]? = some u->w.cell? ((⟨b,off,none⟩:Addr).add j)=some u:=λj u e=>by rw[VZ];exact h j u e
theorem LC{w':World}(hg:Good c μ Φ σ w){v':Value}{e sz n:Nat}{h:List Value}{xs:List PV}(j:w'.ownsRow w.heap.size e sz v' n h)(hgr : ∀ k,k<w.heap.size->w'.heap[k]? = w.heap[k]?)(hn:n=xs.length)(hpos:0<n):
  ∃ g i b,v' = .slice (some ⟨g,0,none⟩) n i∧w.heap.size<=g∧w'.heap[g]? = some (.cells b e (0,0))∧n<=i∧i<=maxLen∧b.size=i*sz∧b.toList.take (n*sz)=h:=by
 rcases j.2 with ⟨_,h0⟩|⟨g,i,b,h1,h2,h3,l,s,r,q⟩
 ·omega
 ·exact⟨g,i,b,h1,h2,h3,l,s,r,q⟩
theorem Qa.stores{B o n C:Nat}{e:Nat}{b:Array Value}(h:Qa w B b e n C)(vs:List Value)(hl:o+vs.length<=b.size)(h1 : ∀ v∈vs,v.oneCell'=true):
  (storeCells ⟨B,o,none⟩ vs 0).run P w = .ok () (w.setRow B (b.toList.take o++vs++b.toList.drop (o+vs.length)).toArray):=by
 obtain⟨z,h,g⟩:=h
 have:=a0x (P:=P) (o:=o) vs 0 b w h (g.imp id λh=>h.2) (by omega) h1;simpa using this
theorem OG{t ty e:TypeId}{i:TypeInfo}(ht:P.underlying t=some (.slice e))(hi:P.info? e=some i)
  (g b h:Nat) (k:Array Value) {n C:Nat} (z:Qa w g k e n C)
  (a:Addr) (m c:Nat) (news:List Value) (A:news.length=m*i.size) (q : ∀ j u,news[j]? = some u->w.cell? (a.add j)=some u) (h1 : ∀ u∈news,u.oneCell'=true)
  (l:b+m<=h) (r:b*i.size+news.length<=k.size) :
  (IX #[t,t] ty #[.slice (some ⟨g,0,none⟩) b h,.slice (some a) m c]).run P w =
   .ok (.slice (some ⟨g,0,none⟩) (b+m) h) (w.setRow g (k.toList.take (b*i.size)++news++k.toList.drop (b*i.size+news.length)).toArray):=by
 have y:=run_firstCells_some (P:=P) w i.size m a m c news A q;have s:=z.stores (P:=P) news r h1;simp[IX,run_underlying ht,sizeOf,typeInfo,hi,dN,l,y,Addr.add_lit,s]
theorem Qa.put'{g n C i j:Nat}{e:Nat}{b:Array Value}{cs:List Value}(h:Qa w g b e n C)(hs:cs.length=b.size):Qa (w.setRow g cs.toArray) g cs.toArray e i j:=by obtain⟨z,h1,h2⟩:=h;exact⟨z,setRow_heap w g b _ e z h1,by rw[eB,hs];exact h2⟩
theorem a7p{t ty e:TypeId}{i:TypeInfo}{z:Value}{p:PV}{u v:Value}{X:AV}{ys:List PV}(ht:P.underlying t=some (.slice e))(hi:P.info? e=some i)(U:i.zero=some z)(hz:Dh z=some p)(hs:p.cells.length=i.size)(E:0<i.size)
  (Q:Good c μ Φ σ w) (hu:R μ Φ u X) (hy:YS Φ w i.size v ys) (hr:(a4f L e i.size i.bytes X ys).run σ=some (x,σ')):VS P (IX #[t,t] ty #[u,v]) w (YJ c μ Φ σ' x):=by
 have O:z.cells.size=i.size:=by have:=(Cx (Cq (Φ:=Φ) hz) (Qq hz)).1.1;simp at this;omega
 obtain⟨ay,cy,rfl,hys⟩:=hy;unfold a4f at hr;split at hr
 ·rename_i sz' tt xs;replace hu:=Xa hu;have s:=YU hr;clear hr;obtain⟨rfl,hr⟩:=s;replace hr:=d6b hr;cases he:ys.isEmpty with
  | true=>
   rw[he]at hr;obtain⟨rfl,rfl⟩:=ZJ hr;have:ys=[]:=by simpa using he
   subst this;have : ∃ b W,u = .slice b xs.length W∧xs.length<=W:=by
    cases hu with
    | sl0 a c sz t h=>exact⟨a,c,rfl,by simp⟩
    | sl b off cs c sz t xs u hb hc htt hs hu hr=>exact⟨_,c,rfl,hc⟩
   obtain⟨b,W,rfl,hcp⟩:=this;exact⟨_,w,UY ht hi hcp,Zw Q (.pv _ _ hu)⟩
  | false=>
   rw[he]at hr;have K : ¬ ys.isEmpty=true:=by simp[he]
   have s:=YU hr;clear hr;obtain⟨hb,hr⟩:=s;simp only[Ie,decide_eq_true_eq]at hb
   ·obtain⟨⟨hb0,hb1⟩,hb2⟩:=hb;have s:=Cc hr;clear hr;obtain⟨hl,hr⟩:=s;obtain⟨rfl,rfl⟩:=ZJ hr;rcases hys with rfl|⟨b,off,news,rfl,y1,y2,y3,y4⟩
    ·simp at K
    have y:news.length=ys.length*i.size:=by rw[y2.1,Ul y4]
    have hylen:0<ys.length:=by
     cases ys with
     | nil=>simp at K
     | cons=>simp
    have Y : ∃ v' w' H,(IX #[t,t] ty #[u,.slice (some ⟨b,off,none⟩) ys.length cy]).run P w = .ok v' w'∧w'.ownsRow w.heap.size e i.size v' (xs.length+ys.length) (H++news)∧w.grownBy w' none∧Ub Φ H (flat xs)∧X5 H∧(∀ x∈xs,x.cells.length=i.size):=by
     by_cases hx0:xs=[]
     ·subst hx0;cases hu with
      | sl0 a cc _ _ h=>
       have:=h rfl;subst this;cases a with
       | none=>obtain⟨v',w',Z,V,A,_⟩:=run_append_own (P:=P) w w.heap.size t ty e i z i.size i.bytes ht hi U rfl rfl O E _ 0 [] (World.ownsRow_nil _ _ _ _) ⟨b,off,none⟩ ys.length cy news y (Uo y1) y3 (by unfold maxLen;simp at hb2;omega) (by simp at hb1 ⊢;omega) (IJ _);exact⟨v',w',[],Z,by simpa using V,A,⟨rfl,λj v x h=>by simp at h⟩,λv hv=>by simp at hv,λx D=>by simp at D⟩
       | some q=>obtain⟨v',w',Z,V,A⟩:=run_append_arg_grows (P:=P) w t ty e i z i.size i.bytes ht hi U rfl rfl O E q 0 0 [] (by simp) (λj u h=>by simp at h) ⟨b,off,none⟩ ys.length cy news y (Uo y1) (by omega) (by unfold maxLen;simp at hb2;omega) (by simp at hb1 ⊢;omega);exact⟨v',w',[],Z,by simpa using V,A,⟨rfl,λj v x h=>by simp at h⟩,λv hv=>by simp at hv,λx D=>by simp at D⟩
      | sl b' T cs cc _ _ _ uu hb' hc htt hss huu hrr=>
       have:=htt rfl;have hc0:cc=0:=by simpa using this
       subst hc0;obtain⟨v',w',Z,V,A⟩:=run_append_arg_grows (P:=P) w t ty e i z i.size i.bytes ht hi U rfl rfl O E ⟨b',T,none⟩ 0 0 [] (by simp) (λj u h=>by simp at h) ⟨b,off,none⟩ ys.length cy news y (Uo y1) (by omega) (by unfold maxLen;simp at hb2;omega) (by simp at hb1 ⊢;omega);exact⟨v',w',[],Z,by simpa using V,A,⟨rfl,λj v x h=>by simp at h⟩,λv hv=>by simp at hv,λx D=>by simp at D⟩
     ·obtain⟨b',T,c',cs',us',rfl,z1,z2,z3,z4,z5,z6,z7⟩:=hu.sl_cells Q.phi hx0;have hc':=z3 rfl;have hsz:sz'=i.size:=by
       rcases au _ _ |>.mp hb0 with h|h
       ·exact absurd (by simpa using h) hx0
       ·exact beq_iff_eq.mp h
      subst hsz;obtain⟨v',w',Z,V,A⟩:=run_append_arg_grows (P:=P) w t ty e i z i.size i.bytes ht hi U rfl rfl O E ⟨b',T,none⟩ xs.length c' us' (by rw[z6.1,Ul z4]) (Uo z5) ⟨b,off,none⟩ ys.length cy news y (Uo y1) (by omega) (by unfold maxLen;omega) (by omega);exact⟨v',w',us',Z,V,A,z6,z7,z4⟩
    obtain⟨v',w',H,Z,V,A,r4,r5,r6⟩:=Y;have I : ∀ x∈xs++ys,x.cells.length=i.size:=λx D=>by
     rcases Ij.1 D with D|D
     ·exact r6 x D
     ·exact y4 x D
    have J : ∀ k,k<w.heap.size->w'.heap[k]? = w.heap[k]? :=λk hk=>A.block k hk (by simp)
    obtain⟨g,W,cur,rfl,g2,g3,g4,g5,g6,g7⟩:=LC Q V J (xs:=xs++ys) (by simp) (by omega);have r:(xs++ys).length=xs.length+ys.length:=by simp
    obtain⟨μ',q1,q2,q3⟩:=O4 (w':=w') Q hl (ty:=e) (sz:=i.size) (xs:=xs++ys) (B:=g) (C:=W) (cs:=cur) A.os A.tape A.output A.size J g2 g3 g6 (by rw[r];exact g4) g5 I
     (by rw[r,g7,BM];exact r4.append y2) (by rw[r,g7];exact r5.append y3)
    rw[r]at q3;exact⟨_,_,Z,μ',Φ,q1,Ye.le.refl _,q2,q3⟩
 ·rename_i l n0 n;have s:=Vx hr;clear hr;obtain⟨ob,M,hr⟩:=s;split at hr
  ·rename_i ty' sz' xs;split at hr
   ·rename_i hc;obtain⟨rfl,rfl⟩:=hc;have s:=YU hr;clear hr;obtain⟨hq,hr⟩:=s;simp only[Ie,beq_iff_eq,decide_eq_true_eq]at hq;obtain⟨⟨⟨hn,rfl⟩,hb1⟩,hb2⟩:=hq;have s:=Td hr;clear hr;obtain⟨_,hr⟩:=s;obtain⟨rfl,rfl⟩:=ZJ hr;cases hu with
    | row _ _ _ _ B C S q hm h2 h3 h4 ha=>
     have hq:=ha (.inr rfl);subst hq;obtain⟨B',C',us,k1,k2,k3,k4,k5,k6,k7,k8,k9,k10⟩:=Q.obj l _ M;rw[hn,hm]at k1;cases k1;simp only[fJ,dY];rcases hys with rfl|⟨b,off,news,rfl,y1,y2,y3,y4⟩
     ·have F:σ.set l (.obj (.row false ty' i.size (xs++[])))=σ:=by rw[bn];exact a0q M
      refine⟨_,w,UY ht hi (by omega),?_⟩;rw[F];refine Zw Q ?_
      have:=R.row (μ:=μ) (Φ:=Φ) l n 0 n B C i.size (some ⟨B,0,none⟩) hm (ae _) (IJ _) h4 (λ_=>by simp);simpa using this
     ·have y:news.length=ys.length*i.size:=by rw[y2.1,Ul y4]
      have I : ∀ x∈xs++ys,x.cells.length=i.size:=λx D=>by
       rcases Ij.1 D with D|D
       ·exact k7 x D
       ·exact y4 x D
      have r:(xs++ys).length=n+ys.length:=by simp[hn]
      have hblk:blk μ l (.row false ty' i.size xs)=B:=by simp[blk,hn,hm]
      by_cases hy0:ys=[]
      ·subst hy0;have F:σ.set l (.obj (.row false ty' i.size (xs++[])))=σ:=by rw[bn];exact a0q M
       refine⟨_,w,UY ht hi (by omega),?_⟩;rw[F];refine Zw Q ?_
       have:=R.row (μ:=μ) (Φ:=Φ) l n 0 n B C i.size (some ⟨B,0,none⟩) hm (ae _) (IJ _) h4 (λ_=>by simp);simpa using this
      ·have hylen:0<ys.length:=by
        cases ys with
        | nil=>exact absurd rfl hy0
        | cons=>simp
       have hnew:μ l (n+ys.length)=none:=k2 _ (by omega);by_cases hroom:n+ys.length<=C
       ·have hfit:n*i.size+news.length<=us.size:=by rw[y,k4,<- II];exact IV _ hroom
        have Y:=OG (P:=P) (w:=w) (ty:=ty) ht hi B n C us k3 ⟨b,off,none⟩ ys.length cy news y (Uo y1) y3 hroom hfit;have N:=Mu.le_add μ l (n+ys.length) (B,C,i.size) (.inl hnew);refine⟨_,_,Y,μ.add l (n+ys.length) (B,C,i.size),Φ,N,Ye.le.refl _,?_,?_⟩
        ·refine Q.put M rfl N (λl' h m=>Mu.add_ne _ _ _ _ _ _ h) (by simp) (by simp) (by simp) (by simp) (λb' _ K=>setRow_other w B b' _ (by rw[hblk]at K;exact K)) ?_ (.inl (by rw[hblk];simp[blk,r,Mu.add_same]));have hfl:(us.toList.take (n*i.size)).length=n*i.size:=by simp;omega
         have htk:(us.toList.take (n*i.size)++news++us.toList.drop (n*i.size+news.length)).take ((xs++ys).length*i.size)=us.toList.take (xs.length*i.size)++news:=by rw[r,hn,II,<- y];rw[List.take_append_of_le_length (by rw[IU,hfl];exact IJ _),I1 (by rw[IU,hfl];exact IJ _)]
         refine⟨B,C,_,by rw[r];exact Mu.add_same _ _ _ _,λm hm'=>by rw[Mu.add_ver _ _ _ _ _ (by omega)];exact k2 m (by omega),k3.put' (by rw[IU,IU,hfl,eZ];simp only[dS];omega),?_,by rw[r];exact hroom,k6,I,?_,?_,by simpa using k10⟩
         ·rw[eB,IU,IU,hfl,eZ];simp only[dS];omega
         ·rw[aQ,htk,BM];exact k8.append y2
         ·rw[aQ,htk];exact k9.append y3
        ·have:=R.row (μ:=μ.add l (n+ys.length) (B,C,i.size)) (Φ:=Φ) l (n+ys.length) 0 (n+ys.length) B C i.size (some ⟨B,0,none⟩) (Mu.add_same _ _ _ _) (ae _) (IJ _) hroom (λ_=>by simp);simpa using this
       ·have hol:(us.toList.take (n*i.size)).length=n*i.size:=by
         have:n*i.size<=us.size:=by rw[k4];exact IV _ h4
         simp;omega
        obtain⟨v',w',Z,V,A⟩:=run_append_arg_grows (P:=P) w t ty ty' i z i.size i.bytes ht hi U rfl rfl O E ⟨B,0,none⟩ n C (us.toList.take (n*i.size)) hol
         (λj u' hj=>by
          rw[VZ];obtain⟨_,k3,_⟩:=k3
          have:=UW k3 0 (n*i.size);simp only[List.drop_zero]at this
          exact this j u' hj)
         ⟨b,off,none⟩ ys.length cy news y (Uo y1) (by omega) (by unfold maxLen;omega) (by omega)
        have J : ∀ k,k<w.heap.size->w'.heap[k]? = w.heap[k]? :=λk hk=>A.block k hk (by simp)
        obtain⟨g,W,cur,rfl,g2,g3,g4,g5,g6,g7⟩:=LC Q V J (xs:=xs++ys) (by simp[hn]) (by omega);have N:=Mu.le_add μ l (n+ys.length) (g,W,i.size) (.inl hnew);refine⟨_,_,Z,μ.add l (n+ys.length) (g,W,i.size),Φ,N,Ye.le.refl _,?_,?_⟩
        ·refine Q.put M rfl N (λl' h m=>Mu.add_ne _ _ _ _ _ _ h) A.os A.tape A.output A.size (λb' hb' _=>J b' hb') ?_ (.inr (by simp[blk,r,Mu.add_same];exact g2));refine⟨g,W,cur,by rw[r];exact Mu.add_same _ _ _ _,λm hm'=>by rw[Mu.add_ver _ _ _ _ _ (by omega)];exact k2 m (by omega),.of g3,g6,by rw[r];exact g4,g5,I,?_,?_,by simp[b1j Q g2]⟩
         ·rw[r,g7,BM]
          have:=k8;rw[hn]at this;exact this.append y2
         ·rw[r,g7]
          have:=k9;rw[hn]at this;exact this.append y3
        ·have:=R.row (μ:=μ.add l (n+ys.length) (g,W,i.size)) (Φ:=Φ) l (n+ys.length) 0 (n+ys.length) g W i.size (some ⟨g,0,none⟩) (Mu.add_same _ _ _ _) (ae _) (IJ _) g4 (λ_=>by simp);simpa using this
   ·exact(Zy hr).elim
  ·exact(Zy hr).elim
 ·exact(Zy hr).elim
end
end
section
section
variable {P:Program} {c:Ctx} {μ:Mu} {Φ:Ye} {σ σ':ZN} {w:World} {a:Act} {env:List AV} {L:Nat} {x:AV}
theorem Good.below{Φ':Ye}{w':World}(h:Good c μ Φ σ w)(hb:Below w.heap.size w w')(g:Φ.le Φ')(q:Qg Φ' w')(e : ∀ b cs,Φ' b=some cs->Φ b=some cs∨w.heap.size<=b):Good c μ Φ' σ w':=by
 refine⟨q,?_,h.apart,h.fresh,h.own,hb.os.trans h.os,hb.tape.trans h.tape,hb.output.trans h.output,Iz h.size hb.size,?_,h.Φle.trans g,h.μle,?_,h.laid⟩
 ·intro l o ho;have i:=h.obj l o ho;refine(i.keep (Mu.le.refl _) (λ_=>rfl) g ?_ (hb.block _ i.blk_lt)).1;cases j:Φ' (blk μ l o)with
  | none=>
   cases r:Φ (blk μ l o)with
   | none=>rfl
   | some cs=>rw[g _ _ r]at j;cases j
  | some cs=>
   rcases e _ _ j with hd|hd
   ·exact hd.symm
   ·have:=i.blk_lt;omega
 ·intro b h1 h2;rw[hb.block b (aT h1 h.size)];exact h.frame b h1 h2
 ·intro b cs k;rcases e b cs k with hd|hd
  ·exact h.dom b cs hd
  ·exact .inr (.inl (Iz h.size hd))
theorem FK(s:List UInt8):flat (Y7 s)=Y7 s:=by
 unfold Y7
 induction s with
 | nil=>rfl
 | cons c s ih=>simp only[flat,IG,dx,PV.cells,List.singleton_append]at ih ⊢;rw[ih]
theorem b5o(w:World)(a:Addr)(b:Nat)(h:b≠a.block):(w.freeze a 1).heap[b]? = w.heap[b]? :=by unfold aV;rw[if_neg (by decide)];show(w.heap.modify a.block _)[b]? = _;rw[ai,if_neg (aY h)]
theorem b7q{w:World}{B:Nat}{cs:Array Value}{ty:Nat}{z:Nat×Nat}(h:w.heap[B]? = some (.cells cs ty z))(b:z=(0,0)∨cs.size<=z.1): ∃ i:Nat×Nat,(w.freeze ⟨B,cs.size,none⟩ 1).heap[B]? = some (.cells cs ty i)∧cs.size<=i.1:=by
 obtain⟨lo,hi⟩:=z;unfold aV;rw[if_neg (by decide)];refine⟨if lo==hi then(cs.size,cs.size+1)else(min lo cs.size,max hi (cs.size+1)),?_,?_⟩
 ·show(w.heap.modify B _)[B]? = _;rw[ai,if_pos rfl,h];rfl
 ·split
  ·exact IJ _
  ·rename_i g;rcases b with e|b
   ·cases e;simp at g
   ·have b:cs.size<=lo:=b;show cs.size<=min lo cs.size;omega
theorem e4f{t e:TypeId}{v:Value}{X:IOp}(hd:P.underlying t=some (.slice e))(O:P.underlying e=some (.int .u8))(F:Good c μ Φ σ w)(H:R μ Φ v (ev env X))
  (hr:(WJ L env (.sslice X)).run σ=some (x,σ')):VS P (convert t t v) w (YJ c μ Φ σ' x):=by
 simp only[WJ]at hr;split at hr
 ·rename_i l n hi Y;rw[Y]at H;have k:=Vx hr;clear hr;obtain⟨ob,j,hr⟩:=k;split at hr
  ·rename_i ty sz xs;have k:=YU hr;clear hr;obtain⟨y,hr⟩:=k;simp only[Ie,beq_iff_eq]at y;obtain⟨hn,rfl⟩:=y;obtain⟨rfl,rfl⟩:=ZJ hr;cases H with
   | row _ _ _ _ B C S q hm h2 h3 h4 ha=>
    have y:=ha (.inr rfl);subst y;obtain⟨B',C',A,k1,K,k3,J,T,Z,M,Q,U,E⟩:=F.obj l _ j;rw[hn,hm]at k1;cases k1;obtain⟨z,k3,V⟩:=k3;obtain⟨I,W,N⟩:=b7q k3 (V.imp id λh=>h.2);have D:w.shape? B=some (5,A.size):=by simp[World.shape?,k3]
    simp only[fJ,dY];have s:(convert t t (.slice (some ⟨B,0,none⟩) hi C)).run P w = .ok (.slice (some ⟨B,0,none⟩) hi C) (w.freeze ⟨B,A.size,none⟩ 1):=by simp[convert,run_underlying hd,run_underlying O,markStringish,D]
    have u:blk μ l (.row false 5 sz xs)=B:=by simp[blk,hn,hm]
    have i:=a0q j;refine⟨_,_,s,μ,Φ,.refl _,.refl _,?_,?_⟩
    ·have g:=F.put (l:=l) (o:=.row false 5 sz xs) (o':=.row false 5 sz xs) (w':=w.freeze ⟨B,A.size,none⟩ 1) j rfl (.refl _) (λ_ _ _=>rfl) rfl rfl rfl (by simp[aV]) (λb _ r=>b5o w _ b (by rw[u]at r;exact r)) ?_ (.inl rfl)
     ·rw[i]at g;exact g
     ·exact⟨B,C,A,by rw[hn];exact hm,K,⟨I,W,.inr ⟨rfl,N⟩⟩,J,T,Z,M,Q,U,E⟩
    ·have:=R.row (μ:=μ) (Φ:=Φ) l n 0 hi B C _ (some ⟨B,0,none⟩) hm (ae _) h3 h4 (λ_=>by simp);simpa using this
  ·exact(Zy hr).elim
 ·exact(Zy hr).elim
theorem e5u{l dst e:TypeId}{v:Value}{X:IOp}(hs:(P.underlying l).isSome=true)(hd:P.underlying dst=some (.slice e))(M:P.underlying e=some (.int .u8))(F:Good c μ Φ σ w)(D:R μ Φ v (ev env X))
  (hr:(WJ L env (.sbytes X)).run σ=some (x,σ')):VS P (convert l dst v) w (YJ c μ Φ σ' x):=by
 simp only[WJ]at hr;split at hr
 ·rename_i s O;rw[O]at D;obtain⟨rfl,rfl⟩:=ZJ hr;replace D:=Xa D;obtain⟨u,hu⟩:=I9.1 hs;generalize J:PV.str s=q at D;cases D with
  | str b=>
   cases J;have B:=Lib.run_convert_string_bytes w l dst e b hu hd M;have r:Φ w.heap.size=none:=by
    cases N:Φ w.heap.size with
    | none=>rfl
    | some cs=>
     obtain⟨T,fz,E⟩:=F.phi _ _ N
     have:=(Ir.1 E).1;omega
   have C:Φ.le (λk=>if k=w.heap.size then some (dC w e b)else Φ k):=by
    intro k cs g;have:k≠w.heap.size:=by rintro rfl;rw[r]at g;cases g
    simp[this,g]
   have H:Below w.heap.size w (bF w e b):=⟨by simp[bF,aV,eP,fB,-dD,-dP],by simp[bF,aV,eP,fB,-dD,-dP],by simp[bF,aV,eP,fB,-dD,-dP],by rw[Lib.bytesWorld_size];omega,λk g=>dE w e b k g⟩
   refine⟨_,_,B,μ,_,.refl _,C,F.below H C ?_ ?_,.pv _ _ ?_⟩
   ·intro k cs g;by_cases h:k=w.heap.size
    ·subst h;simp at g;subst g;exact⟨_,_,Lib.bytesWorld_at_new w e b⟩
    ·simp[h]at g;obtain⟨T,fz,E⟩:=F.phi k cs g;exact⟨T,fz,by rw[dE w e b k (Ir.1 E).1];exact E⟩
   ·intro k cs g;by_cases h:k=w.heap.size
    ·exact .inr (by omega)
    ·simp[h]at g;exact .inl g
   ·have i:(Y7 b.data.toList).length=b.size:=by simp[Y7]
    rw[<- i];refine .sl w.heap.size 0 (dC w e b) _ 1 false _ (λj=>.int .u8 ((b.data.toList.getD j 0).toNat:Int)) (by simp) (by rw[i];exact grownCap_ge w _ _ _) (λh=>by cases h) ?_ ?_ ?_
    ·intro y I;simp only[Y7,IP]at I;obtain⟨c,_,rfl⟩:=I;rfl
    ·intro j p A;rw[FK]at A;have K:j<b.size:=by have:=(Ic.1 A).1;rw[i]at this;exact this
     refine⟨?_,rfl⟩;rw[dV,dC,Array.getElem?_append_left (by simpa using K)];have z:j<b.data.size:=K;simp[I4,z];exact⟨_,Ik z,by rw[Ik z];rfl⟩
    ·intro j p A;rw[FK]at A;simp only[Y7,Im,Cm]at A;obtain⟨c,hc,rfl⟩:=A;have:b.data.toList.getD j 0=c:=by rw[I4,hc];rfl
     rw[this];exact .int _ _
  | _=>cases J
 ·exact(Zy hr).elim
theorem c4o: ∀ {g:List Value} {xs:List PV},xs.all e5o=true->Ub Φ g (flat xs)->g=(KC xs).map λb=>.int .u8 (b.toNat:Int):=by
 intro g xs
 induction xs generalizing g with
 | nil=>intro _ h;have:=h.1;simp[flat]at this;subst this;rfl
 | cons y xs ih=>
  intro ha h;simp only[List.all_cons,Ie]at ha;obtain⟨h1,h2⟩:=ha;cases y with
  | int k n=>
   cases k <;> simp[e5o]at h1;have q:flat (.int .u8 n::xs) = .int .u8 n::flat xs:=rfl;rw[q]at h;cases g with
   | nil=>have:=h.1;simp at this
   | cons u g=>
    have l:=h.2 0 u _ rfl rfl;have ht:Ub Φ g (flat xs):=⟨by have:=h.1;simpa using this,λj v x r i=>h.2 (j+1) v x r i⟩
    rw[ih h2 ht];cases l;have e:((UInt8.ofNat n.toNat).toNat:Int)=n:=by rw[UInt8.toNat_ofNat'];omega
    show af .u8 n::fu (λb=>af IntKind.u8 ↑b.toNat) (KC xs)=af .u8 ((UInt8.ofNat n.toNat).toNat:Int)::fu (λb=>af IntKind.u8 ↑b.toNat) (KC xs);congr 1;exact congrArg (af .u8) e.symm
  | _=>simp[e5o]at h1
theorem g8d{g dst e:TypeId}{v:Value}{X:IOp}(hs:P.underlying g=some (.slice e))(hd:P.underlying dst=some .string)(F:P.underlying e=some (.int .u8))(u:Good c μ Φ σ w)(h:R μ Φ v (ev env X))
  (hr:(WJ L env (.bstr X)).run σ=some (x,σ')):VS P (convert g dst v) w (YJ c μ Φ σ' x):=by
 have back : ∀ (l:List UInt8) (b off cap n:Nat),n=l.length->Ku w b off (l.map λb=>.int .u8 (b.toNat:Int))->VS P (convert g dst (.slice (some ⟨b,off,none⟩) n cap)) w (YJ c μ Φ σ (.pv (.str l))):=by
  rintro l b off cap _ rfl hc;refine⟨_,w,run_convert_bytes_back w g dst e ⟨b,off,none⟩ cap l hs F hd λj E=> ?_,Zw u (.pv _ _ (RP.str' rfl))⟩
  have:=hc j (.int .u8 (l[j].toNat:Int)) (by simp[E]);rw[<- VZ]at this;exact this
 have nil : ∀ (p:Option Addr) (cap:Nat),VS P (convert g dst (.slice p 0 cap)) w (YJ c μ Φ σ (.pv (.str []))):=by
  intro p cap;cases p with
  | none=>exact⟨_,w,by rw[run_convert_bytes_string w g dst e none 0 cap hs F hd];rfl,Zw u (.pv _ _ (RP.str' rfl))⟩
  | some q=>exact⟨_,w,run_convert_bytes_back w g dst e q cap [] hs F hd λj E=>by simp at E,Zw u (.pv _ _ (RP.str' rfl))⟩
 simp only[WJ]at hr;split at hr
 ·rename_i sz t xs K;rw[K]at h;obtain⟨i,hr⟩:=YU hr;obtain⟨rfl,rfl⟩:=ZJ hr;replace h:=Xa h;simp only[Ie]at i;by_cases h0:xs=[]
  ·subst h0;generalize A:PV.sl sz t []=z at h;cases h <;> cases A
   ·exact nil _ _
   ·exact nil _ _
  ·obtain⟨b,off,cap,cs,H,rfl,_,_,_,h5,N,U,_⟩:=h.sl_cells u.phi h0;rw[c4o i.1 U]at N;exact back _ _ _ _ _ (by simp[KC]) N
 ·rename_i l n lo hi K;rw[K]at h;obtain⟨ob,I,hr⟩:=Vx hr;split at hr
  ·rename_i fz ty sz xs;obtain⟨i,hr⟩:=YU hr;obtain⟨rfl,rfl⟩:=ZJ hr;simp only[Ie,beq_iff_eq]at i;obtain⟨⟨hn,k⟩,rfl⟩:=i;generalize A:AV.row l n lo hi=z at h;cases h with
   | row _ _ _ _ B C S q' hm k2 k3 k4 ha=>
    cases A;obtain⟨rfl,H,J,m2,m3,m4,M,V,m7⟩:=Dv u I hn hm;by_cases hlh:lo<hi
    ·have i:=ha (.inl hlh);subst i;have s:hi - lo=(KC ((xs.take hi).drop lo)).length:=by simp[KC];omega
     refine back _ _ _ _ _ s ?_;have r:((xs.take hi).drop lo).all e5o=true:=by rw[aM]at k ⊢;intro y O;exact k y (IE (IB O))
     have D:=(V.drop (lo*1)).take ((hi - lo)*1);rw[D6 M,Sk (λx Q=>M x (IB Q))]at D;have W:(xs.take hi).drop lo=(xs.drop lo).take (hi - lo):=by rw[aJ]
     rw[<- W]at D;rw[<- c4o r D];obtain⟨_,J,_⟩:=J
     have:=UW J (lo*1) ((hi - lo)*1);have e:((H.toList.take (xs.length*1)).drop (lo*1)).take ((hi - lo)*1)=(H.toList.drop (lo*1)).take ((hi - lo)*1):=by rw[aJ,dA,bg];omega
     rw[e];exact this
    ·have:hi=lo:=by omega
     subst this;rw[dX];have T:KC ((xs.take hi).drop hi)=[]:=by simp[KC]
     rw[T];exact nil _ _
   | _=>cases A
  ·exact(Zy hr).elim
 ·exact(Zy hr).elim
theorem e7m{t e:TypeId}{n:Nat}{i:TypeInfo}{u v:Value}{X Y:IOp}(ht:P.underlying t=some (.array n e))(hi:P.info? e=some i)(l:(P.underlying e).isSome=true)(b:Ve P e=decide (2<=i.size))(B:Good c μ Φ σ w)(hu:R μ Φ u (ev env X))(g:R μ Φ v (ev env Y))
  (hr:(WJ L env (.indexA n i.size X Y)).run σ=some (x,σ')):VS P (bI t u v) w (YJ c μ Φ σ' x):=by
 simp only[WJ]at hr;split at hr
 ·rename_i ps k j E D;rw[E]at hu;rw[D]at g;split at hr
  ·rename_i h2;rw[h2]at b;obtain⟨q,hr⟩:=YU hr;obtain⟨C,rfl⟩:=Kh hr;simp only[Ie,decide_eq_true_eq]at q;obtain⟨s,r⟩:=q;replace hu:=Xa hu;replace g:=Xa g;cases g;have hc:=Cx hu rfl;cases hu with
   | agg cs _ hn ho h=>
    rw[<- b]at C;obtain⟨v,h1,h2⟩:=b6w (P:=P) (w:=w) (μ:=μ) (cs:=cs) l hi hc.1.toRL hc.2 C;refine⟨v,w,?_,Zw B h2⟩;have z:(dw e).run P w = .ok i.size w:=by simp[dw,typeInfo,hi]
    simp only[bI,asIntOf,Ig,IW,Il,run_underlying ht];rw[if_pos ⟨s,by omega⟩];simp only[Ig,z,Il];exact h1
  rename_i y;rw[y]at b;obtain⟨q,hr⟩:=YU hr;obtain⟨rfl,rfl⟩:=ZJ hr;simp only[Ie,decide_eq_true_eq,beq_iff_eq]at q;obtain⟨⟨⟨s,h1⟩,r⟩,h2⟩:=q;replace hu:=Xa hu;replace g:=Xa g;cases g;cases hu with
  | agg cs _ hsz ho h=>
   have A:j.toNat<cs.size:=by omega
   refine⟨cs[j.toNat],w,?_,Zw B (.pv _ _ ?_)⟩
   ·have z:(dw e).run P w = .ok i.size w:=by simp[dw,typeInfo,hi]
    simp only[bI,asIntOf,Ig,IW,Il,run_underlying ht];rw[if_pos ⟨s,by omega⟩];simp only[Ig,z,Il,h2,Nat.mul_one];exact Hg l b (Ik A)
   ·exact h j.toNat _ _ (Ik A) (by simp[I4,h1])
 ·exact(Zy hr).elim
end
end
section
def b9j(xs:Array Operand):Option (List IOp):=Wz YL xs.toList
def Pp(x:Option Operand):Option (Option IOp):=
 match x with
 | none=>some none
 | some x=>(YL x).map some
def u8T(P:Program)(e:TypeId):Bool:=match P.underlying e with|some (.int .u8)=>true|_=>false
def d3e{P:Program}{e:TypeId}(h:u8T P e=true):P.underlying e=some (.int .u8):=by
 unfold u8T at h;split at h
 ·assumption
 ·cases h
def h6q(P:Program)(k:TypeId):Option Bool:=
 match P.underlying k with
 | some .string=>some true
 | some (.int _)=>some false
 | _=>none
def places(P:Program)(b:Array Field):Option (List (Nat×Nat)):=Wz (λ(f:Field)=>(P.info? f.type).map λi=>(f.offset,i.size)) b.toList
def i6n(P:Program)(t:TypeId):Sh:=
 match P.underlying t with
 | some (.int k)=>.int k
 | some .string=>.str
 | some .bool=>.bool
 | some (.slice e)=>match P.info? e with|some i=>.sl i.size|none=>.any
 | _=>.any
def h7h(P:Program)(t:TypeId):List Sh:=
 match Ve P t with
 | true=>match P.cellTypes P.depth t with|some ts=>ts.map (i6n P)|none=>[]
 | false=>[i6n P t]
def Py(P:Program)(c:Call):Option POp:=
 match c.callee with
 | .value f=>(YL f).bind λf=>(b9j c.args).map λxs=>.call f xs
 | .builtin .len=>
  match c.args.toList,c.argTypes.toList with
  | [x],[t]=>(YL x).bind λx=>(FQ P t).map λk=>.len k x
  | _,_=>none
 | .builtin .max=>
  match c.args.toList with
  | [x,y]=>(YL x).bind λx=>(YL y).map λy=>.mm true x y
  | _=>none
 | .builtin .min=>
  match c.args.toList with
  | [x,y]=>(YL x).bind λx=>(YL y).map λy=>.mm false x y
  | _=>none
 | .builtin .append=>
  match c.args.toList,c.argTypes.toList with
  | [x,y],[t,t']=>
   if t=t' then
    match P.underlying t with
    | some (.slice e)=>(P.info? e).bind λi=>i.zero.bind λz=>(Dh z).bind λp=>(YL x).bind λx=>(YL y).bind λy=>if p.cells.length=i.size∧0<i.size then some (.append e i.size i.bytes x y)else none
    | _=>none
   else none
  | _,_=>none
 | _=>none
def Gz(P:Program)(o:Op):Option POp:=
 match o with
 | .move x | .assign x=>(YL x).map .mv
 | .pick c a b=>(YL c).bind λc=>(YL a).bind λa=>(YL b).map λb=>.pick c a b
 | .box t x=>(P.info? t).bind λi=>(YL x).map λx=>.box i.size x
 | .alloc t=>(P.info? t).bind λi=>i.zero.bind λz=>(Dh z).map .alloc
 | .build t ps=>
  (P.info? t).bind λi=>i.zero.bind λz=>(Dh z).bind λp=>
   match P.underlying t with
   | some (.struct fs)=>(places P fs).bind λh=>(Wz (λ(q:Nat×Operand)=>(h[q.1]?).bind λ(o,n)=>(YL q.2).map λx=>(o,n,x)) ps.toList).map λqs=>.build p.cells qs
   | some (.array _ e)=>(P.info? e).bind λg=>(Wz (λ(q:Nat×Operand)=>(YL q.2).map λx=>(q.1*g.size,g.size,x)) ps.toList).map λqs=>.build p.cells qs
   | _=>none
 | .buildSlice t n ps=>
  match P.underlying t with
  | some (.slice e)=>(P.info? e).bind λi=>i.zero.bind λz=>(Dh z).bind λp=>if n*i.size<=1048576∧n<=1048576 then(Wz (λ(q:Nat×Operand)=>(YL q.2).map λx=>(q.1,x)) ps.toList).map λqs=>.bslice e i.size n p qs else none
  | _=>none
 | .load t x=>if (P.underlying t).isSome then(P.info? t).bind λi=>if (h7h P t).length=i.size then(YL x).map λx=>.load (Ve P t) (h7h P t) x else none else none
 | .store t x v=>(P.info? t).bind λi=>(YL x).bind λx=>(YL v).map λv=>.store i.size x v
 | .nilCheck x=>(YL x).map .nilchk
 | .binOp op t x y _=>(c4d P op t y).bind λkd=>(YL x).bind λx=>(YL y).map λy=>.bin kd op x y
 | .unOp op _ x=>(YL x).map (.un op)
 | .convert src dst x=>
  if (P.underlying src).isSome then
   match P.underlying dst with
   | some (.int k)=>(YL x).map (.conv k)
   | some .string=>match P.underlying src with
    | some (.slice e)=>if u8T P e=true then(YL x).map .bstr else none
    | _=>(YL x).map .strid
   | some (.slice e)=>if u8T P e=true then(if src=dst then(YL x).map .sslice else(YL x).map .sbytes)else none
   | _=>none
  else none
 | .makeFunc (.func f) xs ys=>(b9j xs).bind λxs=>(b9j ys).map λys=>.mkfn f xs ys
 | .makeMap _ none=>some .mkmap
 | .makeSlice t l c=>
  match P.underlying t with
  | some (.slice e)=>(P.info? e).bind λi=>i.zero.bind λz=>(Dh z).bind λp=>(YL l).bind λl=>(YL c).bind λc=>if p.cells.length=i.size then some (.mksl e i.size i.bytes p l c)else none
  | _=>none
 | .slice t x lo hi mx=>
  match P.underlying t with
  | some .string=>if mx.isNone then(YL x).bind λx=>(Pp lo).bind λlo=>(Pp hi).map λhi=>.strslc x lo hi else none
  | some (.slice e)=>(P.info? e).bind λi=>(YL x).bind λx=>(Pp lo).bind λlo=>(Pp hi).bind λhi=>(Pp mx).map λmx=>.slc i.size x lo hi mx
  | _=>none
 | .fieldAddr s x n=>
  match P.underlying s with
  | some (.struct fs)=>(fs[n]?).bind λf=>(P.info? f.type).bind λi=>if (i.size==0)=false then(YL x).map (.faddr f.offset)else none
  | _=>none
 | .field s x n=>
  match P.underlying s with
  | some (.struct fs)=>(fs[n]?).bind λf=>(P.info? f.type).bind λi=>if (P.underlying f.type).isSome then(YL x).map (.field (Ve P f.type) f.offset i.size)else none
  | _=>none
 | .indexAddr t x i=>
  match P.underlying t with
  | some (.slice e)=>(P.info? e).bind λg=>(YL x).bind λx=>(YL i).map λi=>.iaddr g.size x i
  | some (.array n e)=>match i with
   | .const (.int _ z)=>(P.info? e).bind λg=>if 0<=z∧z<n then(YL x).map (.faddr (z.toNat*g.size))else none
   | _=>none
  | _=>none
 | .index t x i=>
  match P.underlying t with
  | some .string=>(YL x).bind λx=>(YL i).map λi=>.index x i
  | some (.array n e)=>(P.info? e).bind λg=>if (P.underlying e).isSome=true∧Ve P e=decide (2<=g.size)then(YL x).bind λx=>(YL i).map λi=>.indexA n g.size x i else none
  | _=>none
 | .lookup t m k ok=>
  match P.underlying t with
  | some (.map kt et)=>(h6q P kt).bind λst=>(P.info? et).bind λi=>i.zero.bind λz=>(Dh z).bind λp=>(YL m).bind λm=>(YL k).map λk=>.lookup st (i6n P et) p ok m k
  | _=>none
 | .mapUpdate t m k v=>
  match P.underlying t with
  | some (.map kt _)=>(h6q P kt).bind λst=>(YL m).bind λm=>(YL k).bind λk=>(YL v).map λv=>.mapupd st m k v
  | _=>none
 | .extract x i=>(YL x).map (.extract · i)
 | .call c=>Py P c
 | _=>none
def d6i{P:Program}{k:TypeId}{st:Bool}(h:h6q P k=some st): ∃ d,P.underlying k=some d∧DI d st:=by
 unfold h6q at h;split at h
 ·cases h;exact⟨_,‹_›,by simp[DI]⟩
 ·cases h;exact⟨_,‹_›,by simp[DI]⟩
 ·cases h
def POp.isCall:POp->Bool
 | .call _ _=>true
 | _=>false
section
variable {P:Program} {c:Ctx} {μ:Mu} {Φ:Ye} {σ σ':ZN} {w:World} {a:Act} {env:List AV} {L:Nat} {x:AV}
theorem FV{s:Sem Unit}(h : ∃ w',s.run P w = .ok () w'∧YJ c μ Φ σ' x aL w'):QV P (do s;pure .skip) w (YJ c μ Φ σ' x):=by obtain⟨w',h1,h2⟩:=h;simp[QV,h1,h2]
theorem a0k{xs:Array Operand}{ys:List IOp}(b:XN μ Φ a.tmps env)(h:b9j xs=some ys):RL μ Φ (xs.map a.eval).toList (ys.map (ev env)):=by rw[Array.toList_map];exact i6z h (λo p ho=>Yj b ho)
theorem a2f{o:Option Operand}{o':Option IOp}(b:XN μ Φ a.tmps env)(h:Pp o=some o')(d n:Nat)(hn:bnd env d o'=some (true,n)):BR d (o.map a.eval) n:=by refine i5f b (o:=o) (o':=o') ?_ hn;cases o <;> exact h
theorem g1m{cl:Call}{p:POp}(g:Py P cl=some p)(hc:p.isCall=false)(M:Good c μ Φ σ w)(I:XN μ Φ a.tmps env)(hr:(WJ L env p).run σ=some (x,σ'))(ty:TypeId):
  QV P (do let d <- resolve a.eval cl ty;invoke d.target d.args) w (YJ c μ Φ σ' x):=by
 obtain⟨callee,args,argTypes⟩:=cl;unfold Py at g;simp only at g;split at g
 ·simp only[Ib,Cm]at g;obtain⟨f,hf,xs,hxs,rfl⟩:=g;simp[POp.isCall]at hc
 ·split at g
  ·rename_i y t h1 h2;simp only[Ib,Cm]at g;obtain⟨y',s,k,hk,rfl⟩:=g;have K:args = #[y]:=by simpa using congrArg aW h1
   have U:argTypes = #[t]:=by simpa using congrArg aW h2
   subst K U;obtain⟨v,w',F,J⟩:=i7a (ty:=ty) hk M (Yj I s) hr;simp[QV,resolve,invoke,builtin,F,J]
  ·cases g
 ·split at g
  ·rename_i y z h1;simp only[Ib,Cm]at g;obtain⟨y',s,z',A,rfl⟩:=g;have K:args = #[y,z]:=by simpa using congrArg aW h1
   subst K;obtain⟨v,w',F,J⟩:=h7c (P:=P) (ts:=argTypes) (ty:=ty) M (Yj I s) (Yj I A) hr;simp only[if_true]at F;simp[QV,resolve,invoke,builtin,F,J]
  ·cases g
 ·split at g
  ·rename_i y z h1;simp only[Ib,Cm]at g;obtain⟨y',s,z',A,rfl⟩:=g;have K:args = #[y,z]:=by simpa using congrArg aW h1
   subst K;obtain⟨v,w',F,J⟩:=h7c (P:=P) (ts:=argTypes) (ty:=ty) M (Yj I s) (Yj I A) hr;simp only[if_false,IA]at F;simp[QV,resolve,invoke,builtin,F,J]
  ·cases g
 ·split at g
  ·rename_i y z t t' h1 h2;split at g
   ·rename_i X;subst X;split at g
    ·rename_i e ht;simp only[Ib]at g;obtain⟨i,hi,zv,hz,pz,N,y',s,z',A,g⟩:=g;split at g
     ·rename_i E;cases g;have K:args = #[y,z]:=by simpa using congrArg aW h1
      have U:argTypes = #[t,t]:=by simpa using congrArg aW h2
      subst K U;have V:=Yj I s;have r:=Yj I A;have key:VS P (IX #[t,t] ty #[a.eval y,a.eval z]) w (YJ c μ Φ σ' x):=by
       simp only[WJ]at hr;split at hr
       ·rename_i sz' tt ys Y;rw[Y]at r;replace r:=Xa r;have D:=YU hr;clear hr;obtain⟨W,hr⟩:=D;have H:ys=[]∨sz'=i.size:=by
         rcases au _ _ |>.mp W with h|h
         ·exact .inl (by simpa using h)
         ·exact .inr (beq_iff_eq.mp h)
        ·refine a7p ht hi hz N E.1 E.2 M V ?_ hr;by_cases h0:ys=[]
         ·subst h0;generalize a.eval z=q at r;cases r with
          | sl0 b Q _ _ _=>exact⟨b,Q,rfl,.inl rfl⟩
          | sl b off cs Q _ _ _ u=>exact⟨_,Q,rfl,.inl rfl⟩
         ·obtain⟨b,off,Q,cs,O,z1,z2,z3,z4,z5,z6,z7,z8⟩:=r.sl_cells M.phi h0;have hs:sz'=i.size:=H.resolve_left h0;subst hs;exact⟨_,Q,z1,.inr ⟨b,off,O,rfl,z6,z7,z8,z5⟩⟩
       ·rename_i l n lo j Y;rw[Y]at r;have D:=Vx hr;clear hr;obtain⟨ob,Z,hr⟩:=D;split at hr
        ·rename_i fz ty' sz' ys;split at hr
         ·rename_i H;subst H;have D:=YU hr;clear hr;obtain⟨hn,hr⟩:=D;have hn:=beq_iff_eq.mp hn;refine a7p ht hi hz N E.1 E.2 M V ?_ hr;generalize a.eval z=q at r;cases r with
          | row _ _ _ _ B C S q' hm k2 k3 k4 ha=>
           obtain⟨rfl,O,m1,m2,m3,m4,m5,m6,m7⟩:=Dv M Z hn hm;have T:((ys.take j).drop lo).length=j - lo:=by simp;omega
           rw[<- T];refine⟨q',_,rfl,?_⟩;by_cases hlh:lo<j
           ·have W:=ha (.inl hlh);subst W;refine .inr ⟨B,lo*i.size,((O.toList.take (ys.length*i.size)).drop (lo*i.size)).take ((j - lo)*i.size),rfl,?_,?_,?_,?_⟩
            ·obtain⟨_,m1,_⟩:=m1;have:=UW m1 (lo*i.size) ((j - lo)*i.size);have e:((O.toList.take (ys.length*i.size)).drop (lo*i.size)).take ((j - lo)*i.size)=(O.toList.drop (lo*i.size)).take ((j - lo)*i.size):=by rw[aJ,dA,bg];rw[<- Nat.sub_mul];exact IV _ (by omega)
             rw[e];exact this
            ·have:=(m6.drop (lo*i.size)).take ((j - lo)*i.size);rw[D6 m5,Sk (λx hx=>m5 x (IB hx))]at this;have U:(ys.take j).drop lo=(ys.drop lo).take (j - lo):=by rw[aJ]
             rw[U];exact this
            ·exact(m7.drop _).take _
            ·intro y V;exact m5 y (IE (IB V))
           ·left;have:lo=j:=by omega
            subst this;simp
         ·exact(Zy hr).elim
        ·exact(Zy hr).elim
       ·exact(Zy hr).elim
      obtain⟨v,w',F,J⟩:=key;simp[QV,resolve,invoke,builtin,F,J]
     ·cases g
    ·cases g
   ·cases g
  ·cases g
 ·cases g
theorem i7i{o:Oper}{p:POp}(g:Gz P o.op=some p)(hc:p.isCall=false)(s:Good c μ Φ σ w)(r:XN μ Φ a.tmps env)(hr:(WJ L env p).run σ=some (x,σ')):
  QV P (execOp a.eval o) w (YJ c μ Φ σ' x):=by
 obtain⟨dst,op,J,pos,after,guard⟩:=o;simp only at g;unfold Gz at g;split at g
 all_goals try simp only[Ib,Cm]at g
 ·obtain⟨y,l,rfl⟩:=g;simp only[WJ]at hr;obtain⟨rfl,rfl⟩:=ZJ hr;exact Zw s (Yj r l)
 ·obtain⟨y,l,rfl⟩:=g;simp only[WJ]at hr;obtain⟨rfl,rfl⟩:=ZJ hr;exact Zw s (Yj r l)
 ·obtain⟨y1,h1,y2,h2,y3,h3,rfl⟩:=g;obtain⟨v,w',U,r2⟩:=h0x (P:=P) s (Yj r h1) (Yj r h2) (Yj r h3) hr;simp only[Ig]at U;simp only[QV,execOp,Ig];cases B:(asBool (a.eval _)).run P w with
  | ok b w1=>simp only[B,Il,IW]at U ⊢;cases U;exact r2
  | halt h w1=>simp[B]at U
 ·obtain⟨i,hi,y,l,rfl⟩:=g;exact(i3c (P:=P) s (Yj r l) hr).gives
 ·obtain⟨i,hi,z,A,q,B,rfl⟩:=g;exact(e8x (P:=P) hi A B s hr).gives
 ·obtain⟨i,hi,z,A,q,B,g⟩:=g;split at g
  ·rename_i fs ht;simp only[Ib,Cm]at g;obtain⟨pl,hpl,qs,D,rfl⟩:=g;obtain⟨T,S⟩:=VM D;refine(f2t (P:=P) ht hi A B hpl s (by simpa using T) ?_ hr).gives;intro j pa O ha hb;rw[bK,Cm]at ha;obtain⟨⟨n,o⟩,ho,rfl⟩:=ha
   have:=S j (n,o) O (by simpa using ho) hb;simp only[Ib,Cm]at this;obtain⟨⟨o1,n1⟩,k1,y,M,rfl⟩:=this;exact⟨k1,Yj r M⟩
  ·rename_i len e ht;simp only[Ib,Cm]at g;obtain⟨ie,hie,qs,D,rfl⟩:=g;obtain⟨T,S⟩:=VM D;refine(e3n (P:=P) ht hi hie A B s (by simpa using T) ?_ hr).gives;intro j pa O ha hb;rw[bK,Cm]at ha;obtain⟨⟨n,o⟩,ho,rfl⟩:=ha
   have:=S j (n,o) O (by simpa using ho) hb;simp only[Cm]at this;obtain⟨y,M,rfl⟩:=this;exact⟨rfl,Yj r M⟩
  ·cases g
 ·split at g
  ·rename_i e ht;simp only[Ib]at g;obtain⟨i,hi,z,A,q,B,g⟩:=g;split at g
   ·rename_i N;simp only[Cm]at g;obtain⟨qs,D,rfl⟩:=g;obtain⟨T,S⟩:=VM D;refine(vs_bslice (P:=P) ht hi A B N.1 N.2 s (by simpa using T) ?_ hr).gives;intro j pa O ha hb;rw[bK,Cm]at ha;obtain⟨⟨n,o⟩,ho,rfl⟩:=ha
    have:=S j (n,o) O (by simpa using ho) hb;simp only[Cm]at this;obtain⟨y,M,rfl⟩:=this;exact⟨rfl,Yj r M⟩
   ·cases g
  ·cases g
 ·split at g
  ·rename_i hu;simp only[Ib]at g;obtain⟨i,hi,g⟩:=g;split at g
   ·rename_i Z;simp only[Cm]at g;obtain⟨y,l,rfl⟩:=g;exact(h4r (P:=P) hu hi Z s (Yj r l) hr).gives
   ·cases g
  ·cases g
 ·obtain⟨i,hi,y,l,z,A,rfl⟩:=g;exact FV (g5d (P:=P) hi s (Yj r l) (Yj r A) hr)
 ·obtain⟨y,l,rfl⟩:=g;exact e1t (P:=P) s (Yj r l) hr _ a.eval _ rfl rfl
 ·obtain⟨kd,Q,y,l,z,A,rfl⟩:=g;exact(i0z (P:=P) Q s (Yj r l) (Yj r A) hr).gives
 ·obtain⟨y,l,rfl⟩:=g;exact(j2u (P:=P) s (Yj r l) hr).gives
 ·split at g
  ·rename_i hs;split at g
   ·rename_i k hd;simp only[Cm]at g;obtain⟨y,l,rfl⟩:=g;exact(h6g (P:=P) hs hd s (Yj r l) hr).gives
   ·rename_i hd;split at g
    ·rename_i e hsl;split at g
     ·rename_i F;simp only[Cm]at g;obtain⟨y,l,rfl⟩:=g;exact(g8d (P:=P) hsl hd (d3e F) s (Yj r l) hr).gives
     ·cases g
    ·simp only[Cm]at g;obtain⟨y,l,rfl⟩:=g;exact(g0z (P:=P) hs hd s (Yj r l) hr).gives
   ·rename_i e hd;split at g
    ·rename_i F;split at g
     ·rename_i W;subst W;simp only[Cm]at g;obtain⟨y,l,rfl⟩:=g;exact(e4f (P:=P) hd (d3e F) s (Yj r l) hr).gives
     ·simp only[Cm]at g;obtain⟨y,l,rfl⟩:=g;exact(e5u (P:=P) hs hd (d3e F) s (Yj r l) hr).gives
    ·cases g
   ·cases g
  ·cases g
 ·obtain⟨xs,hxs,ys,V,rfl⟩:=g;exact(h4y (P:=P) s (a0k r hxs) (a0k r V) hr).gives
 ·cases g;exact(f5q (P:=P) s hr).gives
 ·split at g
  ·rename_i e ht;simp only[Ib]at g;obtain⟨i,hi,z,A,q,B,y,l,u,hu,g⟩:=g;split at g
   ·rename_i hs;cases g;exact(h5x (P:=P) ht hi A B hs s (Yj r l) (Yj r hu) hr).gives
   ·cases g
  ·cases g
 ·rename_i t o lo hi mx;split at g
  ·rename_i ht;split at g
   ·rename_i C;simp only[Ib,Cm]at g;obtain⟨y,l,lo',I,X,E,rfl⟩:=g;have:mx=none:=by simpa using C
    subst this;exact(e3e (P:=P) ht (λn hn=>a2f r I 0 n hn) (λd n hn=>a2f r E d n hn) s (Yj r l) hr).gives
   ·cases g
  ·rename_i e ht;simp only[Ib,Cm]at g;obtain⟨i,Y,y,l,lo',I,X,E,mx',C,rfl⟩:=g;refine(i7w (P:=P) ht Y (λn hn=>a2f r I 0 n hn) (λd n hn=>a2f r E d n hn) ?_ ?_ ?_ s (Yj r l) hr).gives
   ·rintro rfl;cases mx with
    | none=>rfl
    | some z=>simp[Pp]at C
   ·intro h;cases hi with
    | none=>simp[Pp]at E;exact absurd E.symm h
    | some z=>simp
   ·rintro m rfl;cases mx with
    | none=>simp[Pp]at C
    | some z=>exact⟨a.eval z,rfl,λd n hn=>a2f r (o:=some z) C d n hn⟩
  ·cases g
 ·split at g
  ·rename_i fs ht;simp only[Ib]at g;obtain⟨f,hf,i,hi,g⟩:=g;split at g
   ·rename_i A;simp only[Cm]at g;obtain⟨y,l,rfl⟩:=g;exact(f0x (P:=P) ht hf hi A s (Yj r l) hr).gives
   ·cases g
  ·cases g
 ·split at g
  ·rename_i fs ht;simp only[Ib]at g;obtain⟨f,hf,i,hi,g⟩:=g;split at g
   ·rename_i hu;simp only[Cm]at g;obtain⟨y,l,rfl⟩:=g;exact(g0o (P:=P) ht hf hu hi s (Yj r l) hr).gives
   ·cases g
  ·cases g
 ·split at g
  ·rename_i e ht;simp only[Ib,Cm]at g;obtain⟨i,hi,y,l,z,A,rfl⟩:=g;exact(g2h (P:=P) ht hi s (Yj r l) (Yj r A) hr).gives
  ·rename_i n e ht;split at g
   ·rename_i k z;simp only[Ib]at g;obtain⟨ie,hi,g⟩:=g;split at g
    ·rename_i A;simp only[Cm]at g;obtain⟨y,l,rfl⟩:=g;exact(f7y (P:=P) (k:=k) ht hi A s (Yj r l) hr).gives
    ·cases g
   ·cases g
  ·cases g
 ·split at g
  ·rename_i ht;simp only[Ib,Cm]at g;obtain⟨y,l,z,A,rfl⟩:=g;exact(f0w (P:=P) ht s (Yj r l) (Yj r A) hr).gives
  ·rename_i n e ht;simp only[Ib]at g;obtain⟨ie,hi,g⟩:=g;split at g
   ·rename_i K;simp only[Ib,Cm]at g;obtain⟨y,l,z,A,rfl⟩:=g;exact(e7m (P:=P) ht hi K.1 K.2 s (Yj r l) (Yj r A) hr).gives
   ·cases g
  ·cases g
 ·split at g
  ·rename_i kt et ht;simp only[Ib,Cm]at g;obtain⟨st,H,i,hi,z,A,q,B,y,l,u,hu,rfl⟩:=g;obtain⟨d,hd,Q⟩:=d6i H;exact(e1p (P:=P) ht hd Q hi A B s (Yj r l) (Yj r hu) hr).gives
  ·cases g
 ·split at g
  ·rename_i kt et ht;simp only[Ib,Cm]at g;obtain⟨st,H,y,l,u,hu,z,A,rfl⟩:=g;obtain⟨d,hd,Q⟩:=d6i H;exact FV (e5g (P:=P) ht hd Q s (Yj r l) (Yj r hu) (Yj r A) hr)
  ·cases g
 ·obtain⟨y,l,rfl⟩:=g;exact(c7t (P:=P) s (Yj r l) hr).gives
 ·exact g1m g hc s r hr J
 ·cases g
end
end
def a0u:List Nat->Bool
 | []=>true
 | x::xs=> !xs.contains x&&a0u xs
def Fj{ls:List Nat}{l i:Nat}(h:fwd ls l=some i):ls[i]? = some l:=by unfold fwd at h;rw[List.idxOf?,List.findIdx?_eq_some_iff_getElem]at h;obtain⟨hi,h1,_⟩:=h;rw[Ia hi];simp at h1;rw[h1]
def Nl{ρ:Nat->Option Nat}: ∀ {xs ys:List AV},MI ρ xs=some ys->xs.length=ys.length∧ ∀ (j:Nat) x y,xs[j]? = some x->ys[j]? = some y->x.ren ρ=some y:=by
 intro xs
 induction xs with
 | nil=>intro ys h;simp[MI]at h;subst h;simp
 | cons x xs ih=>
  intro ys h;simp only[MI,Ib,Cm]at h;obtain⟨y,g,ys',e,rfl⟩:=h;obtain⟨h1,h2⟩:=ih e;refine⟨by simp[h1],?_⟩;intro j a b ha hb;cases j with
  | zero=>simp at ha hb;subst ha hb;exact g
  | succ j=>simp at ha hb;exact h2 j a b ha hb
def h9j{μ μ':Mu}{Φ:Ye}{ρ:Nat->Option Nat}(r : ∀ l i,ρ l=some i-> ∀ n z,μ l n=some z->μ' i n=some z){v:Value}{x:AV}(h:R μ Φ v x): ∀ {y:AV},x.ren ρ=some y->R μ' Φ v y:=by
 induction h with
 | pv v p h=>intro y b;simp[AV.ren]at b;subst b;exact .pv v p h
 | junk v=>intro y b;simp[AV.ren]at b;subst b;exact .junk v
 | undef=>intro y b;simp[AV.ren]at b;subst b;exact .undef
 | agg cs xs hn ho h ih=>
  intro y b;simp only[AV.ren,Cm]at b;obtain⟨ys,g,rfl⟩:=b;obtain⟨h1,h2⟩:=Nl g;refine .agg cs ys (by omega) ho (λj v y q b=> ?_);have e:j<xs.length:=by have:=(Ic.1 b).1;omega
  exact ih j v xs[j] q (Ia e) (h2 j _ _ (Ia e) b)
 | tup cs xs hn h ih=>
  intro y b;simp only[AV.ren,Cm]at b;obtain⟨ys,g,rfl⟩:=b;obtain⟨h1,h2⟩:=Nl g;refine .tup cs ys (by omega) (λj v y q b=> ?_);have e:j<xs.length:=by have:=(Ic.1 b).1;omega
  exact ih j v xs[j] q (Ia e) (h2 j _ _ (Ia e) b)
 | ptr l o B C S h=>intro y b;simp only[AV.ren,Cm]at b;obtain⟨i,hi,rfl⟩:=b;exact .ptr i o B C S (r l i hi _ _ h)
 | row l n lo hi B C S a h h1 h2 h3 ha=>intro y b;simp only[AV.ren,Cm]at b;obtain⟨i,hi,rfl⟩:=b;exact .row i n lo _ B C S a (r l i hi _ _ h) h1 h2 h3 ha
 | eptr l n i o B C S h=>intro y b;simp only[AV.ren,Cm]at b;obtain⟨k,D,rfl⟩:=b;exact .eptr k n i o B C S (r l k D _ _ h)
 | map l B C S h=>intro y b;simp only[AV.ren,Cm]at b;obtain⟨i,hi,rfl⟩:=b;exact .map i B C S (r l i hi _ _ h)
 | fn f cs ds xs ys hn hm h k ih1 ih2=>
  intro y b;simp only[AV.ren,Ib,Cm]at b;obtain⟨A,s,u,g,rfl⟩:=b;obtain⟨h1,h2⟩:=Nl s;obtain⟨k1,E⟩:=Nl g;refine .fn f cs ds A u (by omega) (by omega) (λj v y q b=> ?_) (λj v y q b=> ?_)
  ·have e:j<xs.length:=by have:=(Ic.1 b).1;omega
   exact ih1 j v xs[j] q (Ia e) (h2 j _ _ (Ia e) b)
  ·have e:j<ys.length:=by have:=(Ic.1 b).1;omega
   exact ih2 j v ys[j] q (Ia e) (E j _ _ (Ia e) b)
 | yld l=>intro y b;simp only[AV.ren,Ii]at b;subst b;exact .yld l
def c7z{μ μ':Mu}{Φ:Ye}{ρ:Nat->Option Nat}(e : ∀ l i,ρ l=some i-> ∀ n z,μ l n=some z->μ' i n=some z){vs:List Value}{xs ys:List AV}(h:RL μ Φ vs xs)(a:MI ρ xs=some ys):RL μ' Φ vs ys:=by
 obtain⟨h1,h2⟩:=Nl a;refine⟨by rw[h.1,h1],λj v y g a=> ?_⟩;have b:j<xs.length:=by have:=(Ic.1 a).1;omega
 exact h9j e (h.2 j v xs[j] g (Ia b)) (h2 j _ _ (Ia b) a)
def WM{μ μ':Mu}{Φ:Ye}{w:World}{ρ:Nat->Option Nat}(g : ∀ l i,ρ l=some i-> ∀ n z,μ l n=some z->μ' i n=some z){l i:Nat}(a : ∀ n,μ' i n=μ l n){o o':AObj}(h:H5 μ Φ w l o)(ho:o.ren ρ=some o'):
  H5 μ' Φ w i o'∧blk μ' i o'=blk μ l o:=by
 cases o with
 | box xs=>simp only[AObj.ren,Cm]at ho;obtain⟨ys,b,rfl⟩:=ho;obtain⟨B,C,S,T,cs,h1,h2,h3,e,j⟩:=h;exact⟨⟨B,C,S,T,cs,by rw[a];exact h1,h2,c7z g h3 b,e,j⟩,by simp[blk,a]⟩
 | row fz ty sz xs=>simp only[AObj.ren,Ii]at ho;subst ho;obtain⟨B,C,cs,h1,h2,h3⟩:=h;exact⟨⟨B,C,cs,by rw[a];exact h1,λn hn=>by rw[a];exact h2 n hn,h3⟩,by simp[blk,a]⟩
 | map es=>simp only[AObj.ren,Ii]at ho;subst ho;obtain⟨B,C,S,m,k,h1,h2⟩:=h;exact⟨⟨B,C,S,m,k,by rw[a];exact h1,h2⟩,by simp[blk,a]⟩
def e3j: ∀ {l:List Nat},a0u l=true-> ∀ (i j:Nat) x,l[i]? = some x->l[j]? = some x->i=j:=by
 intro l
 induction l with
 | nil=>intro _ i j x h;simp at h
 | cons a l ih=>
  intro h i j x hi b;simp only[a0u,Ie,eD]at h;have e:a ∉ l:=by simpa using h.1
  cases i with
  | zero=>
   cases j with
   | zero=>rfl
   | succ j=>simp at hi b;subst hi;exact absurd (Iu b) e
  | succ i=>
   cases j with
   | zero=>simp at hi b;subst b;exact absurd (Iu hi) e
   | succ j=>simp at hi b;rw[ih h.2 i j x hi b]
def Mu.ren(μ:Mu)(ls:List Nat):Mu:=λi n=>match ls[i]? with|some l=>μ l n|none=>none
def c9q{α:Type}{σ:ZN}{k:List (Nat×AObj)->HM α}{r:α×ZN}: ∀ (n:Nat) {ls:List Nat} {e:List (Nat×AObj)},(Fq n ls e k).run σ=some r->(∀ p∈e,σ[p.1]? = some (.obj p.2))->(e.map (·.1)).Nodup ->
  ∃ g,(∀ p∈g,σ[p.1]? = some (.obj p.2))∧(g.map (·.1)).Nodup∧(k g).run σ=some r:=by
 intro n
 induction n with
 | zero=>intro ls e h _ _;simp[Fq,HM.run]at h
 | succ n ih=>
  intro ls e h h1 h2;cases ls with
  | nil=>exact⟨e,h1,h2,h⟩
  | cons l ls=>
   unfold Fq at h;split at h
   ·exact ih h h1 h2
   ·rename_i j;obtain⟨x,σ'⟩:=r;obtain⟨o,ho,h3⟩:=Vx h;refine ih h3 ?_ ?_
    ·intro p i;rw[Ij]at i;rcases i with i|i
     ·exact h1 p i
     ·simp at i;subst i;exact ho
    ·rw[aG,d9];refine⟨h2,by simp,?_⟩;intro a ha b hb;simp at hb;subst hb;rintro rfl;exact j (by simpa using ha)
def c7c{α:Type}{k:HM α}{r:α×ZN}: ∀ {ps:List (Nat×AObj)} {σ:ZN},(a1l ps k).run σ=some r->(ps.map (·.1)).Nodup ->
  ∃ b,k.run b=some r∧(∀ p∈ps,b[p.1]? = some (.obj p.2))∧ ∀ l,l ∉ ps.map (·.1)->b[l]? = σ[l]? :=by
 intro ps
 induction ps with
 | nil=>intro σ h _;exact⟨σ,h,by simp,λ_ _=>rfl⟩
 | cons p ps ih=>
  intro σ h hn;obtain⟨l,o⟩:=p;obtain⟨x,σ'⟩:=r;simp only[a1l]at h;obtain⟨⟨o',e⟩,h1⟩:=Td h;simp only[IG,List.nodup_cons]at hn;obtain⟨b,k1,k2,k3⟩:=ih h1 hn.2;refine⟨b,k1,?_,?_⟩
  ·intro p g;rcases IR.1 g with rfl|g
   ·rw[k3 _ hn.1];exact Yb e
   ·exact k2 p g
  ·intro l' a;simp only[IG,IR,not_or]at a;rw[k3 l' a.2,Z4 a.1]
def d1l{α:Type}{k:HM α}{r:α×ZN}: ∀ {os:List AObj} {L:Nat} {σ:ZN},(a0i L os k).run σ=some r ->
  ∃ g,k.run g=some r∧(∀ (j:Nat) o,os[j]? = some o->σ[L+j]? = some .fresh∧g[L+j]? = some (.obj o))∧ ∀ l,(l<L∨L+os.length<=l)->g[l]? = σ[l]? :=by
 intro os
 induction os with
 | nil=>intro L σ h;exact⟨σ,h,by simp,λ_ _=>rfl⟩
 | cons o os ih=>
  intro L σ h;obtain⟨x,σ'⟩:=r;simp only[a0i]at h;obtain⟨s,h1⟩:=Cc h;obtain⟨g,k1,k2,k3⟩:=ih h1;refine⟨g,k1,?_,?_⟩
  ·intro j u i;cases j with
   | zero=>simp at i;subst i;refine⟨s,?_⟩;rw[bV,k3 L (.inl (by omega))];exact Yb s
   | succ j=>
    simp at i;obtain⟨a,b⟩:=k2 j u i;have e:L+1+j=L+(j+1):=by omega
    rw[e]at a b;refine⟨?_,b⟩
    rwa [Z4 (by omega)]at a
  ·intro l q;rw[k3 l (by simp at q;omega),Z4 (by simp at q;omega)]
def Dn{ρ:Nat->Option Nat}: ∀ {xs ys:List AObj},Dx ρ xs=some ys->xs.length=ys.length∧ ∀ (j:Nat) x y,xs[j]? = some x->ys[j]? = some y->x.ren ρ=some y:=by
 intro xs
 induction xs with
 | nil=>intro ys h;simp[Dx]at h;subst h;simp
 | cons x xs ih=>
  intro ys h;simp only[Dx,Ib,Cm]at h;obtain⟨y,g,ys',e,rfl⟩:=h;obtain⟨h1,h2⟩:=ih e;refine⟨by simp[h1],?_⟩;intro j a b ha hb;cases j with
  | zero=>simp at ha hb;subst ha hb;exact g
  | succ j=>simp at ha hb;exact h2 j a b ha hb
def Mu.back(μ a:Mu)(ls:List Nat)(L k:Nat):Mu:=λl n=>
 if L<=l∧l<L+k then a (ls.length+(l - L)) n
 else match ls.idxOf? l with|some i=>a i n|none=>μ l n
section
def VB(P:Program)(f:Nat)(pre:List PV->Bool)(val:List PV->PV):Prop:=
 ∀ ps,pre ps=true-> ∀ Φ w (vs:Array Value),GlobOK Φ->Qg Φ w->Ub Φ vs.toList ps ->
  Calls P f vs w λe w'=> ∃ v Φ',e = .returned v∧Ye.le Φ Φ'∧Qg Φ' w'∧RP Φ' v (val ps)∧Below w.heap.size w w'∧ ∀ b cs,Φ' b=some cs->Φ b=some cs∨w.heap.size<=b
def entry(μ:Mu)(Φ:Ye)(σ:ZN)(w:World):Ctx:=⟨w,λb=> ∃ l o,σ[l]? = some (.obj o)∧blk μ l o=b,Φ,μ⟩
def Xl(os:List AObj):ZN:=os.map .obj
def Y4(P:Program)(f:Nat)(pre:List AV->List AObj->Bool)(val:List AV->List AObj->AV×List AObj×List AObj):Prop:=
 ∀ args os x b ext,pre args os=true->val args os=(x,b,ext)->b.length=os.length∧ ∀ μ Φ w (vs:Array Value),Good (entry μ Φ (Xl os) w) μ Φ (Xl os) w->RL μ Φ vs.toList args ->
  Calls P f vs w λe w'=> ∃ v g Φ',e = .returned v∧Good (entry μ Φ (Xl os) w) g Φ' (Xl (b++ext)) w'∧R g Φ' v x
def d8n(P:Program)(f:Nat):Den->Prop
 | .pure pre val=>VB P f pre val
 | .own pre val=>Y4 P f pre val
def YC(P:Program)(T:ZO):Prop:= ∀ f D,T f=some D->(∃ fn,P.funcs[f]? = some fn∧fn.body.isSome=true∧(fn.name == "runtime.NumGoroutine")=false)∧d8n P f D
section
variable {P:Program} {c:Ctx} {μ:Mu} {Φ:Ye} {σ σ':ZN} {w:World} {a:Act} {env:List AV} {L:Nat} {x:AV}
theorem JK{f:FuncId}{fn:Func}{args:Array Value}(hf:P.funcs[f]? = some fn)(hb:fn.body.isSome=true)(hn:(fn.name == "runtime.NumGoroutine")=false):(callFunc f args).run P w = .ok (.enter f args) w:=by
 have hb':fn.body.isNone=false:=by cases h:fn.body <;> simp_all
 unfold callFunc;simp only[Ig,run_program,Il,hf,hn,hb',if_false,IA];rfl
theorem f7h{f:Nat}{pre:List PV->Bool}{val:List PV->PV}(j:VB P f pre val){vs:Array Value}{args:List AV}(k:Good c μ Φ σ w)(l:RL μ Φ vs.toList args)
  (hr:((KM args).bind λps=>HM.req (pre ps) (.ret (.pv (val ps)))).run σ=some (x,σ')):Calls P f vs w λe w'=> ∃ v,e = .returned v∧YJ c μ Φ σ' x v w':=by
 rw[HM.run_bind,Ib]at hr;obtain⟨⟨ps,σ1⟩,h1,h2⟩:=hr;obtain⟨h3,b⟩:=YU h2;obtain⟨rfl,rfl⟩:=ZJ b;obtain⟨Φ1,f1,f2,f3⟩:=Kz args h1 k l;refine(j ps h3 Φ1 w vs (f2.laid.mono f2.Φle) f2.phi f3).mono ?_;rintro e w' ⟨v,Φ2,rfl,k1,i,k3,h,g⟩;exact⟨v,rfl,μ,Φ2,Mu.le.refl _,f1.trans k1,f2.below h k1 i g,.pv _ _ k3⟩
theorem Good.μ_fresh(h:Good c μ Φ σ w){l n:Nat}{z:Nat×Nat×Nat}(b:μ l n=some z): ∃ s,σ[l]? = some s∧s ≠ .fresh:=by
 cases hs:σ[l]? with
 | none=>rw[h.fresh l n (.inl hs)]at b;cases b
 | some s=>refine⟨s,rfl,?_⟩;rintro rfl;rw[h.fresh l n (.inr hs)]at b;cases b
theorem g5l{ls:List Nat}{os:List AObj}{u ext C A:List AObj}{σ1 σ2:ZN}{B:Mu}{Φ2:Ye}{w':World}(q:Good c μ Φ σ w)(hnd:ls.Nodup)
  (hls : ∀ (i l:Nat) o,ls[i]? = some l->os[i]? = some o->σ[l]? = some (.obj o)) (hlen:os.length=ls.length) {Q:List AObj} (hren:Dx (fwd ls) os=some Q)
  (y:Good (entry (μ.ren ls) Φ (Xl Q) w) B Φ2 (Xl (u++ext)) w') (h2:u.length=ls.length) (r1:Dx (bwd ls L) u=some C) (r2:Dx (bwd ls L) ext=some A)
  (a1 : ∀ (i l:Nat) o,ls[i]? = some l->C[i]? = some o->σ1[l]? = some (.obj o)) (a2 : ∀ l,l ∉ ls->σ1[l]? = σ[l]?)
  (b1 : ∀ (j:Nat) o,A[j]? = some o->σ1[L+j]? = some .fresh∧σ2[L+j]? = some (.obj o)) (b2 : ∀ l,(l<L∨L+A.length<=l)->σ2[l]? = σ1[l]?) :
  Mu.le μ (μ.back B ls L ext.length)∧Good c (μ.back B ls L ext.length) Φ2 σ2 w'∧ ∀ (i l:Nat),bwd ls L i=some l-> ∀ n z,B i n=some z->μ.back B ls L ext.length l n=some z:=by
 obtain⟨e1,q1⟩:=Dn r1;obtain⟨e2,q2⟩:=Dn r2;obtain⟨e3,q3⟩:=Dn hren;have hidx : ∀ (i l:Nat),ls[i]? = some l->ls.idxOf? l=some i:=by
  intro i l g;have hi:i<ls.length:=(Ic.1 g).1;have hm:l∈ls:=Iu g;cases hx:ls.idxOf? l with
  | none=>rw[bf]at hx;exact absurd hm hx
  | some j=>
   have hj:=Fj (ls:=ls) (l:=l) (i:=j) hx;have hj':j<ls.length:=(Ic.1 hj).1;rw[Ia hi]at g;rw[Ia hj']at hj;have:ls[i]=ls[j]:=by rw[Ii]at g hj;rw[g,hj]
   rw[(ed hnd).1 this]
 have Y : ∀ (l:Nat),l ∉ ls->ls.idxOf? l=none:=λl g=>by rw[bf];exact g
 have hL : ∀ (j:Nat),j<ext.length->L+j ∉ ls∧σ[L+j]? = some .fresh:=by
  intro j hj;obtain⟨f1,_⟩:=b1 j A[j] (Ia (by omega));have hn:L+j ∉ ls:=by
   intro hm;obtain⟨i,hi,e⟩:=IZ hm
   have:=a1 i (L+j) C[i] (by rw[Ia hi,e]) (Ia (by omega));rw[f1]at this;cases this
  exact⟨hn,by rw[<- a2 _ hn];exact f1⟩
 have hin : ∀ (i l:Nat),ls[i]? = some l-> ¬ (L<=l∧l<L+ext.length):=by
  intro i l g ⟨h3,E⟩
  have:=(hL (l - L) (by omega)).1;rw[show L+(l - L)=l by omega]at this;exact this (Iu g)
 have bk1 : ∀ (i l n:Nat),ls[i]? = some l->μ.back B ls L ext.length l n=B i n:=by intro i l n g;simp only[Mu.back,if_neg (hin i l g),hidx i l g]
 have bk2 : ∀ (j n:Nat),j<ext.length->μ.back B ls L ext.length (L+j) n=B (ls.length+j) n:=by intro j n hj;simp only[Mu.back];rw[if_pos ⟨by omega,by omega⟩,show ls.length+(L+j - L)=ls.length+j by omega]
 have M : ∀ (l n:Nat),l ∉ ls-> ¬ (L<=l∧l<L+ext.length)->μ.back B ls L ext.length l n=μ l n:=by intro l n g hr;simp only[Mu.back,if_neg hr,Y l g]
 have hρ : ∀ (i l:Nat),bwd ls L i=some l-> ∀ n z,B i n=some z->μ.back B ls L ext.length l n=some z:=by
  intro i l g n z S;unfold bwd at g;split at g
  ·rw[bk1 i l n g];exact S
  ·rename_i hi;simp only[Ii]at g;subst g;obtain⟨s,hs,_⟩:=y.μ_fresh S;have:i<(Xl (u++ext)).length:=(Ic.1 hs).1;simp[Xl]at this;rw[bk2 (i - ls.length) n (by omega),show ls.length+(i - ls.length)=i by omega];exact S
 have hle:Mu.le μ (μ.back B ls L ext.length):=by
  intro l n z S;by_cases hm:l∈ls
  ·obtain⟨i,hi,e⟩:=IZ hm;have g:ls[i]? = some l:=by rw[Ia hi,e]
   rw[bk1 i l n g];refine y.μle i n z ?_;simp[entry,Mu.ren,g,S]
  ·by_cases hr:L<=l∧l<L+ext.length
   ·have:=(hL (l - L) (by omega)).2;rw[show L+(l - L)=l by omega]at this;rw[q.fresh l n (.inr this)]at S;cases S
   ·rw[M l n hm hr];exact S
 have r : ∀ (l:Nat) (o:AObj),σ2[l]? = some (.obj o)->(∃ (i:Nat) (p:AObj),(u++ext)[i]? = some p∧bwd ls L i=some l∧p.ren (bwd ls L)=some o∧(∀ n,μ.back B ls L ext.length l n=B i n))∨(l ∉ ls∧ ¬ (L<=l∧l<L+ext.length)∧σ[l]? = some (.obj o)):=by
  intro l o g;by_cases hr:L<=l∧l<L+ext.length
  ·left;obtain⟨_,f2⟩:=b1 (l - L) A[l - L] (Ia (by omega));rw[show L+(l - L)=l by omega,g]at f2;cases f2;refine⟨ls.length+(l - L),ext[l - L],?_,?_,?_,?_⟩
   ·rw[I6 (by omega),show ls.length+(l - L) - u.length=l - L by omega];exact Ia (by omega)
   ·simp only[bwd];rw[if_neg (by omega)];congr 1;omega
   ·exact q2 (l - L) _ _ (Ia (by omega)) (Ia (by omega))
   ·intro n
    have:=bk2 (l - L) n (by omega)
    rwa [show L+(l - L)=l by omega]at this
  ·rw[b2 l (by omega)]at g;by_cases hm:l∈ls
   ·left;obtain⟨i,hi,e⟩:=IZ hm;have K:ls[i]? = some l:=by rw[Ia hi,e]
    have:=a1 i l C[i] K (Ia (by omega));rw[g]at this;cases this;refine⟨i,u[i],?_,?_,q1 i _ _ (Ia (by omega)) (Ia (by omega)),λn=>bk1 i l n K⟩
    ·rw[IK (by omega)];exact Ia (by omega)
    ·simp only[bwd];rw[if_pos hi];exact K
   ·right;rw[a2 l hm]at g;exact⟨hm,hr,g⟩
 have D : ∀ (i:Nat) (p:AObj),(u++ext)[i]? = some p->(Xl (u++ext))[i]? = some (.obj p):=by intro i p h;simp only[Xl,Im,h,aR]
 have H : ∀ b,(entry (μ.ren ls) Φ (Xl Q) w).own b-> ∃ (l:Nat) (o:AObj),l∈ls∧σ[l]? = some (.obj o)∧blk μ l o=b:=by rintro b ⟨i,o',ho',hb⟩;simp only[Xl,Im,Cm]at ho';obtain⟨V,ho1,e⟩:=ho';cases e;have hi:i<Q.length:=(Ic.1 ho1).1;have g:ls[i]? = some ls[i]:=Ia (by omega);have ho:os[i]? = some os[i]:=Ia (by omega);have hσ:=hls i _ _ g ho;refine⟨ls[i],os[i],eX _,hσ,?_⟩;rw[<- hb];exact(WM (μ':=μ.ren ls) (i:=i) (ρ:=fwd ls) (λl i hi n z S=>by simp[Mu.ren,Fj hi,S]) (λn=>by simp[Mu.ren,g]) (q.obj _ _ hσ) (q3 i _ _ ho ho1)).2.symm
 have N : ∀ (i:Nat) (p:AObj),(u++ext)[i]? = some p->w.heap.size<=blk B i p ∨ ∃ (l:Nat) (o:AObj),l∈ls∧σ[l]? = some (.obj o)∧blk μ l o=blk B i p:=by
  intro i p h;rcases y.own i p (D i p h)with k|k
  ·exact .inl k
  ·exact .inr (H _ k)
 refine⟨hle,⟨y.phi,?_,?_,?_,?_,y.os.trans q.os,y.tape.trans q.tape,y.output.trans q.output,Iz q.size y.size,?_,q.Φle.trans y.Φle,q.μle.trans hle,?_,q.laid⟩,hρ⟩
 ·intro l o g;rcases r l o g with ⟨i,p,h3,E,F,h6⟩|⟨h3,E,F⟩
  ·exact(WM hρ h6 (y.obj i p (D i p h3)) F).1
  ·have hox:=q.obj l o F;have J : ¬ (entry (μ.ren ls) Φ (Xl Q) w).own (blk μ l o):=by intro k;obtain⟨l',o',k1,U,k3⟩:=H _ k;exact q.apart l' l o' o (λe=>h3 (e▸k1)) U F k3
   refine(hox.keep hle (λn=>M l n h3 E) y.Φle ?_ (y.frame _ hox.blk_lt J)).1;cases hp:Φ2 (blk μ l o)with
   | none=>
    cases hq:Φ (blk μ l o)with
    | none=>rfl
    | some cs=>rw[y.Φle _ _ hq]at hp;cases hp
   | some cs=>
    rcases y.dom _ _ hp with hd|hd|hd
    ·exact hd.symm
    ·have:=hox.blk_lt;have hd':w.heap.size<=blk μ l o:=hd;omega
    ·exact absurd hd J
 ·intro l l' o o' hne g hl';have O : ∀ (l:Nat) (o:AObj),l ∉ ls->σ[l]? = some (.obj o)-> ∀ (i:Nat) (p:AObj),(u++ext)[i]? = some p->blk μ l o≠blk B i p:=by
   intro l o h3 E i p F e;rcases N i p F with k|⟨Z,V,k1,U,k3⟩
   ·have:=(q.obj l o E).blk_lt;omega
   ·exact q.apart Z l V o (λe=>h3 (e▸k1)) U E (k3.trans e.symm)
  have I : ∀ (l:Nat) (o:AObj),l ∉ ls-> ¬ (L<=l∧l<L+ext.length)->blk (μ.back B ls L ext.length) l o=blk μ l o:=by intro l o h3 E;simp only[blk,M l _ h3 E]
  rcases r l o g with ⟨i,p,h3,E,F,h6⟩|⟨h3,E,F⟩
  ·rw[(WM hρ h6 (y.obj i p (D i p h3)) F).2];rcases r l' o' hl' with ⟨X,W,k3,k4,k5,k6⟩|⟨k3,k4,k5⟩
   ·rw[(WM hρ k6 (y.obj X W (D X W k3)) k5).2];refine y.apart i X p W ?_ (D i p h3) (D X W k3);rintro rfl;rw[E]at k4;cases k4;exact hne rfl
   ·rw[I l' o' k3 k4];exact λe=>O l' o' k3 k5 i p h3 e.symm
  ·rw[I l o h3 E];rcases r l' o' hl' with ⟨X,W,k3,k4,k5,k6⟩|⟨k3,k4,k5⟩
   ·rw[(WM hρ k6 (y.obj X W (D X W k3)) k5).2];exact O l o h3 F X W k3
   ·rw[I l' o' k3 k4];exact q.apart l l' o o' hne F k5
 ·intro l n T;have hm:l ∉ ls:=by
   intro hm;obtain⟨i,hi,e⟩:=IZ hm;have g:ls[i]? = some l:=by rw[Ia hi,e]
   have hnr:=hin i l g
   have:=a1 i l C[i] g (Ia (by omega));rw[<- b2 l (by omega)]at this;rcases T with k|k <;> rw[k]at this <;> cases this
  have hnr : ¬ (L<=l∧l<L+ext.length):=by intro hr;obtain⟨_,f2⟩:=b1 (l - L) A[l - L] (Ia (by omega));rw[show L+(l - L)=l by omega]at f2;rcases T with k|k <;> rw[k]at f2 <;> cases f2
  rw[M l n hm hnr];rw[b2 l (by omega),a2 l hm]at T;exact q.fresh l n T
 ·intro l o g;rcases r l o g with ⟨i,p,h3,E,F,h6⟩|⟨h3,E,F⟩
  ·rw[(WM hρ h6 (y.obj i p (D i p h3)) F).2];rcases N i p h3 with k|⟨Z,V,k1,U,k3⟩
   ·exact .inl (Iz q.size k)
   ·rw[<- k3];exact q.own Z V U
  ·have:blk (μ.back B ls L ext.length) l o=blk μ l o:=by simp only[blk,M l _ h3 E]
   rw[this];exact q.own l o F
 ·intro b hb J;rw[y.frame b (aT hb q.size) ?_]
  ·exact q.frame b hb J
  ·intro k;obtain⟨Z,V,k1,U,k3⟩:=H _ k;rcases q.own Z V U with m|m
   ·omega
   ·rw[k3]at m;exact J m
 ·intro b cs hcs;rcases y.dom b cs hcs with k|k|k
  ·exact q.dom b cs k
  ·exact .inr (.inl (Iz q.size k))
  ·obtain⟨Z,V,k1,U,k3⟩:=H _ k;rcases q.own Z V U with m|m
   ·rw[k3]at m;exact .inr (.inl m)
   ·rw[k3]at m;exact .inr (.inr m)
theorem e7d{ls:List Nat}{os g:List AObj}(r:Good c μ Φ σ w)(H:ls.Nodup)(E : ∀ (i l:Nat) o,ls[i]? = some l->os[i]? = some o->σ[l]? = some (.obj o))(hlen:os.length=ls.length)(u:Dx (fwd ls) os=some g):
  Good (entry (μ.ren ls) Φ (Xl g) w) (μ.ren ls) Φ (Xl g) w:=by
 obtain⟨e3,V⟩:=Dn u;have I : ∀ l i,fwd ls l=some i-> ∀ n z,μ l n=some z->μ.ren ls i n=some z:=λl i hi n z Y=>by simp[Mu.ren,Fj hi,Y]
 have k : ∀ (i:Nat) (o':AObj),(Xl g)[i]? = some (.obj o')-> ∃ (l:Nat) (o:AObj),ls[i]? = some l∧σ[l]? = some (.obj o)∧o.ren (fwd ls)=some o':=by intro i o' B;simp only[Xl,Im,Cm]at B;obtain⟨K,y,e⟩:=B;cases e;have hi:i<g.length:=(Ic.1 y).1;have C:ls[i]? = some ls[i]:=Ia (by omega);have ho:os[i]? = some os[i]:=Ia (by omega);exact⟨_,_,C,E i _ _ C ho,V i _ _ ho y⟩
 refine⟨r.phi,?_,?_,?_,?_,rfl,rfl,rfl,IJ _,λ_ _ _=>rfl,Ye.le.refl _,Mu.le.refl _,λb cs h=>.inl h,r.laid.mono r.Φle⟩
 ·intro i o' ho;obtain⟨l,o,C,Z,hr⟩:=k i o' ho;exact(WM I (λn=>by simp[Mu.ren,C]) (r.obj l o Z) hr).1
 ·intro i j K X F k1 U;obtain⟨N,J,A,M,m3⟩:=k i K k1;obtain⟨Q,S,s,O,T⟩:=k j X U;rw[(WM I (λn=>by simp[Mu.ren,A]) (r.obj N J M) m3).2,(WM I (λn=>by simp[Mu.ren,s]) (r.obj Q S O) T).2];refine r.apart N Q J S ?_ M O;rintro rfl;have hi:=(Ic.1 A).1;have W:=(Ic.1 s).1;rw[Ia hi]at A;rw[Ia W]at s;rw[Ii]at A s;exact F ((ed H).1 (A.trans s.symm))
 ·intro i n D;have:ls[i]? = none:=by
   have h:(Xl g)[i]? = none:=by
    rcases D with h|h
    ·exact h
    ·simp only[Xl,Im,Cm]at h;obtain⟨q,hq,e⟩:=h;cases e
   simp only[Xl,Im,Option.map_eq_none_iff,aS]at h;rw[aS];omega
  simp[Mu.ren,this]
 ·intro i o' ho;exact .inr ⟨i,o',ho,rfl⟩
theorem d8h{f:Nat}{pre:List AV->List AObj->Bool}{val:List AV->List AObj->AV×List AObj×List AObj}(X:Y4 P f pre val){vs:Array Value}{args:List AV}(S:Good c μ Φ σ w)(Y:RL μ Φ vs.toList args)
  (hr:(PQ L pre val args).run σ=some (x,σ')):Calls P f vs w λe w'=> ∃ v,e = .returned v∧YJ c μ Φ σ' x v w':=by
 unfold PQ at hr;obtain⟨F,h1,h2,h3⟩:=c9q 64 hr (by simp) (by simp);clear hr;simp only at h3;generalize s:F.map (·.1)=ls at h2 h3;generalize r:F.map (·.2)=os at h3;have k:os.length=ls.length:=by rw[<- s,<- r];simp
 have C : ∀ (i l:Nat) o,ls[i]? = some l->os[i]? = some o->σ[l]? = some (.obj o):=by intro i l o A ho;rw[<- s,Im,Cm]at A;rw[<- r,Im,Cm]at ho;obtain⟨p,O,rfl⟩:=A;obtain⟨q,N,rfl⟩:=ho;rw[O]at N;cases N;exact h1 p (Iu O)
 split at h3
 ·rename_i b h y g;obtain⟨E,u⟩:=YU h3;generalize D:val b h=q at u;obtain⟨Z,M,ext⟩:=q;simp only at u;split at u
  ·rename_i x' B ext' W j H;split at u
   ·rename_i hl2;obtain⟨k1,T⟩:=X b h Z M ext E D;have J:=e7d S h2 C k g;have K:RL (μ.ren ls) Φ vs.toList b:=c7z (λl i hi n z I=>by simp[Mu.ren,Fj hi,I]) Y y;refine(T (μ.ren ls) Φ w vs J K).mono ?_;rintro e w' ⟨v,μ2,Φ2,rfl,Q,U⟩;have I:(ls.zip B).map (·.1)=ls:=by rw[List.map_fst_zip];omega
    obtain⟨σ1,n1,n2,n3⟩:=c7c u (by rw[I];exact h2);obtain⟨σ2,o1,o2,o3⟩:=d1l n1;obtain⟨rfl,rfl⟩:=ZJ o1;have eos:=(Dn j).1;have eob:=(Dn g).1;obtain⟨r1,V,r3⟩:=g5l (L:=L) S h2 C k g Q (by omega) j H
     (λi l o A ho=>n2 (l,o) (Iu (i:=i) (by rw[List.getElem?_zip_eq_some];exact⟨A,ho⟩))) (λl A=>n3 l (by rw[I];exact A)) o2 o3
    exact⟨v,rfl,_,Φ2,r1,Q.Φle,V,h9j r3 U W⟩
   ·exact(Zy u).elim
  ·exact(Zy u).elim
 ·exact(Zy h3).elim
theorem RL.app{cs ds:Array Value}{xs ys:List AV}(h:RL μ Φ cs.toList xs)(k:RL μ Φ ds.toList ys):RL μ Φ (cs++ds).toList (xs++ys):=by rw[Array.toList_append];exact h.append k
theorem a8o{T:ZO}(hT:YC P T){g:Nat}{vs:Array Value}{args:List AV}(hg:Good c μ Φ σ w)(hv:RL μ Φ vs.toList args)(hr:(e1b T L g args).run σ=some (x,σ')):
  (∃ fn,P.funcs[g]? = some fn∧fn.body.isSome=true∧(fn.name == "runtime.NumGoroutine")=false)∧Calls P g vs w λe w'=> ∃ v,e = .returned v∧YJ c μ Φ σ' x v w':=by
 unfold e1b at hr;split at hr
 ·rename_i F F' hF;exact⟨(hT g _ hF).1,f7h (hT g _ hF).2 hg hv hr⟩
 ·rename_i G G' hG;exact⟨(hT g _ hG).1,d8h (hT g _ hG).2 hg hv hr⟩
 ·exact(Zy hr).elim
theorem e1d{T:ZO}(I:YC P T){o:Oper}{p:POp}(b:Gz P o.op=some p)(F:Good c μ Φ σ w)(D:XN μ Φ a.tmps env)(hr:(VA T L env p).run σ=some (x,σ')):
  QV P (execOp a.eval o) w (YJ c μ Φ σ' x):=by
 cases hc:p.isCall with
 | false=>refine i7i b hc F D ?_ (L:=L);cases p <;> first|exact hr|simp[POp.isCall]at hc
 | true=>
  cases p <;> simp[POp.isCall]at hc;rename_i f xs;obtain⟨dst,op,type,pos,after,guard⟩:=o;simp only at b
  have C : ∃ u args r,op = .call {callee:=.value u,args:=args,argTypes:=r}∧YL u=some f∧b9j args=some xs:=by
   unfold Gz at b;split at b
   all_goals try simp only[Ib,Cm,reduceCtorEq,and_false,exists_false]at b
   all_goals first
    | (obtain⟨_,_,_,_,_,_,b⟩:=b;(repeat' split at b) <;> simp[Ib,Cm]at b;done)
    | ((repeat' split at b) <;> simp[Ib,Cm]at b;done)
    | skip
   rename_i J;obtain⟨callee,args,r⟩:=J;unfold Py at b;simp only at b;split at b
   ·rename_i u;simp only[Ib,Cm]at b;obtain⟨f2,i,xs',l,e⟩:=b;cases e;exact⟨u,args,r,rfl,i,l⟩
   all_goals ((repeat' split at b) <;> simp[Ib,Cm]at b;done)
  obtain⟨u,args,r,rfl,y,s⟩:=C;have i:=Yj D y;have l:=a0k D s;simp only[VA]at hr;split at hr
  ·rename_i g B;rw[B]at i;obtain⟨⟨fn,k1,A,k3⟩,k4⟩:=a8o I F l hr;replace i:=Xa i;generalize z:a.eval u=q at i;cases i;have e:(args.map a.eval)++ #[]=args.map a.eval:=by simp
   simp only[QV,execOp,Ig,resolve,z,Deferred.ofValue,IW,Il,invoke,Array.empty_append,e,JK k1 A k3];exact k4
  ·rename_i g fst cap B;rw[B]at i;generalize z:a.eval u=q at i;cases i with
   | fn _ cs ds _ _ hn hm h k=>
    have h1:RL μ Φ cs.toList fst:=⟨by simpa using hn,λj v x H E=>h j v x (by simpa using H) E⟩
    have h2:RL μ Φ ds.toList cap:=⟨by simpa using hm,λj v x H E=>k j v x (by simpa using H) E⟩
    obtain⟨⟨fn,k1,A,k3⟩,k4⟩:=a8o I F ((h1.app l).app h2) hr;simp only[QV,execOp,Ig,resolve,z,Deferred.ofValue,IW,Il,invoke,JK k1 A k3];exact k4
  ·exact(Zy hr).elim
end
end
def HM.runF{α:Type}:HM α->ZN->Option (α×ZN×List Nat×List Nat)
 | .ret a,σ=>some (a,σ,[],[])
 | .fail,_=>none
 | .get l k,σ=>match σ[l]? with
  | some (.obj o)=>((k o).runF σ).map λ(a,σ',R,W)=>(a,σ',l::R,W)
  | _=>none
 | .put l o k,σ=>match σ[l]? with
  | some (.obj _)=>(k.runF (σ.set l (.obj o))).map λ(a,σ',R,W)=>(a,σ',R,l::W)
  | _=>none
 | .new l o k,σ=>match σ[l]? with
  | some .fresh=>(k.runF (σ.set l (.obj o))).map λ(a,σ',R,W)=>(a,σ',R,l::W)
  | _=>none
 | .ask b k,σ=>(k b).runF σ
 | .req b k,σ=>match b with|true=>k.runF σ|false=>none
def HM.run_of_runF{α:Type}(m:HM α): ∀ {σ:ZN} {a:α} {e:ZN} {R W:List Nat},m.runF σ=some (a,e,R,W)->m.run σ=some (a,e):=by
 induction m with
 | ret a=>intro σ b e R W h;simp only[HM.runF,Ii,Ih]at h;simp[HM.run,h.1,h.2.1]
 | fail=>intro σ b e R W h;simp[HM.runF]at h
 | get l k ih=>
  intro σ b e R W h;simp only[HM.runF]at h;simp only[HM.run];split at h
  ·rename_i o ho;rw[Cm]at h;obtain⟨⟨g,σ1,R1,W1⟩,h1,h2⟩:=h;simp only[Ih]at h2;obtain⟨rfl,rfl,_,_⟩:=h2
   try simp only[ho]
   exact ih o h1
  ·cases h
 | put l o k ih=>
  intro σ b e R W h;simp only[HM.runF]at h;simp only[HM.run];split at h
  ·rename_i o' ho;rw[Cm]at h;obtain⟨⟨g,σ1,R1,W1⟩,h1,h2⟩:=h;simp only[Ih]at h2;obtain⟨rfl,rfl,_,_⟩:=h2
   try simp only[ho]
   exact ih h1
  ·cases h
 | new l o k ih=>
  intro σ b e R W h;simp only[HM.runF]at h;simp only[HM.run];split at h
  ·rename_i ho;rw[Cm]at h;obtain⟨⟨g,σ1,R1,W1⟩,h1,h2⟩:=h;simp only[Ih]at h2;obtain⟨rfl,rfl,_,_⟩:=h2
   try simp only[ho]
   exact ih h1
  ·cases h
 | ask b k ih=>intro σ a e R W h;exact ih b h
 | req b k ih=>
  intro σ a e R W h;cases b
  ·simp[HM.runF]at h
  ·exact ih h
def HM.local_{α:Type}(m:HM α): ∀ {σ:ZN} {a:α} {q:ZN} {R W:List Nat},m.runF σ=some (a,q,R,W) ->
  (∀ l,l ∉ W->q[l]? = σ[l]?)∧q.length=σ.length ∧
  ∀ τ:ZN,τ.length=σ.length->(∀ l,l∈R∨l∈W->τ[l]? = σ[l]?)-> ∃ r,m.runF τ=some (a,r,R,W)∧(∀ l,l∈W->r[l]? = q[l]?)∧(∀ l,l ∉ W->r[l]? = τ[l]?):=by
 induction m with
 | ret a=>intro σ b q R W h;simp only[HM.runF,Ii,Ih]at h;obtain⟨rfl,rfl,rfl,rfl⟩:=h;exact⟨λ_ _=>rfl,rfl,λτ _ _=>⟨τ,rfl,λl z=>by simp at z,λ_ _=>rfl⟩⟩
 | fail=>intro σ b q R W h;simp[HM.runF]at h
 | get l k ih=>
  intro σ b q R W h;simp only[HM.runF]at h;split at h
  ·rename_i o ho;rw[Cm]at h;obtain⟨⟨y,σ1,R1,W1⟩,h1,h2⟩:=h;simp only[Ih]at h2;obtain⟨rfl,rfl,rfl,rfl⟩:=h2;obtain⟨k1,u,k3⟩:=ih o h1;refine⟨k1,u,λτ s i=> ?_⟩;obtain⟨r,m1,m2,m3⟩:=k3 τ s (λl' g=>i l' (g.imp (λh=>by simp[h]) id));refine⟨r,?_,m2,m3⟩;simp only[HM.runF];rw[i l (.inl (by simp)),ho];simp[m1]
  ·cases h
 | put l o k ih=>
  intro σ b q R W h;simp only[HM.runF]at h;split at h
  ·rename_i o' ho;rw[Cm]at h;obtain⟨⟨y,σ1,R1,W1⟩,h1,h2⟩:=h;simp only[Ih]at h2;obtain⟨rfl,rfl,rfl,rfl⟩:=h2;obtain⟨k1,u,k3⟩:=ih h1;refine⟨λl' g=> ?_,by simpa using u,λτ s i=> ?_⟩
   ·simp only[IR,not_or]at g;rw[k1 l' g.2,Z4 g.1]
   ·have j:=i l (.inr (by simp))
    obtain⟨r,m1,m2,m3⟩:=k3 (τ.set l (.obj o)) (by simpa using s) (λl' g=>by
     by_cases e:l'=l
     ·subst e;rw[Yb (j.trans ho),Yb ho]
     ·rw[Z4 e,Z4 e]
      exact i l' (g.imp id (λh=>by simp[h])))
    refine⟨r,?_,?_,?_⟩
    ·simp only[HM.runF];rw[j,ho];simp[m1]
    ·intro l' g;by_cases hw:l'∈W1
     ·exact m2 l' hw
     ·simp only[IR,hw,or_false]at g;subst g;rw[m3 l' hw,k1 l' hw,Yb (j.trans ho),Yb ho]
    ·intro l' g;simp only[IR,not_or]at g;rw[m3 l' g.2,Z4 g.1]
  ·cases h
 | new l o k ih=>
  intro σ b q R W h;simp only[HM.runF]at h;split at h
  ·rename_i ho;rw[Cm]at h;obtain⟨⟨y,σ1,R1,W1⟩,h1,h2⟩:=h;simp only[Ih]at h2;obtain⟨rfl,rfl,rfl,rfl⟩:=h2;obtain⟨k1,u,k3⟩:=ih h1;refine⟨λl' g=> ?_,by simpa using u,λτ s i=> ?_⟩
   ·simp only[IR,not_or]at g;rw[k1 l' g.2,Z4 g.1]
   ·have j:=i l (.inr (by simp))
    obtain⟨r,m1,m2,m3⟩:=k3 (τ.set l (.obj o)) (by simpa using s) (λl' g=>by
     by_cases e:l'=l
     ·subst e;rw[Yb (j.trans ho),Yb ho]
     ·rw[Z4 e,Z4 e]
      exact i l' (g.imp id (λh=>by simp[h])))
    refine⟨r,?_,?_,?_⟩
    ·simp only[HM.runF];rw[j,ho];simp[m1]
    ·intro l' g;by_cases hw:l'∈W1
     ·exact m2 l' hw
     ·simp only[IR,hw,or_false]at g;subst g;rw[m3 l' hw,k1 l' hw,Yb (j.trans ho),Yb ho]
    ·intro l' g;simp only[IR,not_or]at g;rw[m3 l' g.2,Z4 g.1]
  ·cases h
 | ask b k ih=>intro σ a q R W h;exact ih b h
 | req b k ih=>
  intro σ a q R W h;cases b
  ·simp[HM.runF]at h
  ·exact ih h
def a4z(xs ys:List Nat):Bool:=xs.all λx=> !ys.contains x
def Nf{xs ys:List Nat}(h:a4z xs ys=true){l:Nat}(h1:l∈xs)(h2:l∈ys):False:=by have:=aM.1 h l h1;simp at this;exact this h2
def HM.comm{α β:Type}{m:HM α}{n:HM β}{σ A q:ZN}{a:α}{b:β}{u k s i:List Nat}(h1:m.runF σ=some (a,A,u,k))(h2:n.runF A=some (b,q,s,i))
  (C:a4z k s=true) (r:a4z k i=true) (E:a4z u i=true) : ∃ τ,n.runF σ=some (b,τ,s,i)∧m.runF τ=some (a,q,u,k):=by
 obtain⟨z,F,B⟩:=HM.local_ m h1;obtain⟨y,q2,H⟩:=HM.local_ n h2
 obtain⟨τ,t1,t2,t3⟩:=H σ F.symm (λl e=>(z l (λj=>by
  rcases e with e|e
  ·exact Nf C j e
  ·exact Nf r j e)).symm)
 have D:=(HM.local_ n t1).2.1
 obtain⟨τ',u1,u2,u3⟩:=B τ D (λl e=>t3 l (λj=>by
  rcases e with e|e
  ·exact Nf E e j
  ·exact Nf r e j))
 refine⟨τ,t1,?_⟩;have:τ'=q:=by
  apply IY;intro l;by_cases hw1:l∈k
  ·have g:l ∉ i:=λh=>Nf r hw1 h
   rw[u2 l hw1,y l g]
  ·rw[u3 l hw1];by_cases g:l∈i
   ·rw[t2 l g]
   ·rw[t3 l g,y l g,z l hw1]
 rw[<- this];exact u1
structure PI where
 dst:Option Nat
 op:POp
 L:Nat
 gd:Option (Nat×Bool)
def WC(env:List AV):Option (Nat×Bool)->Option Bool
 | none=>some true
 | some (s,b)=>match env[s]? with
  | some (.pv (.bool v))=>some (v==b)
  | some .undef=>some false
  | _=>none
def Y5(env:List AV)(d:Option Nat)(v:AV):List AV:=
 match d with
 | some d=>env.set d v
 | none=>env
def Vr(T:ZO)(a:Nat)(p:PI)(st:St):Option (St×List Nat×List Nat):=
 match WC st.env p.gd with
 | none=>none
 | some false=>some (⟨Y5 st.env p.dst .undef,st.heap⟩,[],[])
 | some true=>((VA T (a+p.L) st.env p.op).runF st.heap).map λ(v,σ,R,W)=>(⟨Y5 st.env p.dst v,σ⟩,R,W)
def IOp.slot:IOp->List Nat
 | .t n=>[n]
 | .c _=>[]
def RV(x:Option IOp):List Nat:=x.toList.flatMap IOp.slot
def POp.slots:POp->List Nat
 | .mv x | .box _ x | .load _ _ x | .nilchk x | .un _ x | .conv _ x | .faddr _ x | .field _ _ _ x | .extract x _ | .len _ x | .strid x | .sbytes x | .sslice x | .bstr x=>x.slot
 | .pick a b c | .mapupd _ a b c=>a.slot++b.slot++c.slot
 | .alloc _ | .mkmap=>[]
 | .build _ ps=>ps.flatMap λq=>q.2.2.slot
 | .bslice _ _ _ _ ps=>ps.flatMap λq=>q.2.slot
 | .store _ a b | .bin _ _ a b | .mm _ a b | .mksl _ _ _ _ a b | .iaddr _ a b | .index a b | .indexA _ _ a b | .lookup _ _ _ _ a b | .append _ _ _ a b | .apps _ _ _ a b=>a.slot++b.slot
 | .mkfn _ xs ys=>(xs++ys).flatMap IOp.slot
 | .strslc x lo hi=>x.slot++RV lo++RV hi
 | .slc _ x lo hi mx=>x.slot++RV lo++RV hi++RV mx
 | .call f xs=>f.slot++xs.flatMap IOp.slot
def PI.looks(p:PI):List Nat:=p.op.slots++(match p.gd with|some (s,_)=>[s]|none=>[])
def YZ{env:List AV}{d:Option Nat}{v:AV}{x:IOp}(h : ∀ n,d=some n->n ∉ x.slot):ev (Y5 env d v) x=ev env x:=by
 cases d with
 | none=>rfl
 | some d=>
  cases x with
  | c p=>rfl
  | t n=>
   have a:d≠n:=by have:=h d rfl;simpa [IOp.slot]using this
   simp[ev,Y5,I4,a]
def Pz{env:List AV}{d:Option Nat}{v:AV}{m:Nat}{x:Option IOp}(h : ∀ n,d=some n->n ∉ RV x):bnd (Y5 env d v) m x=bnd env m x:=by
 cases x with
 | none=>rfl
 | some x=>simp only[bnd];rw[YZ (λn hn=>by have:=h n hn;simpa [RV]using this)]
def b7i{env:List AV}{d:Option Nat}{v:AV}{xs:List IOp}(h : ∀ n,d=some n->n ∉ xs.flatMap IOp.slot):xs.map (ev (Y5 env d v))=xs.map (ev env):=by apply bC;intro x a;exact YZ (λn hn hs=>h n hn (bY.2 ⟨x,a,hs⟩))
def e0x{T:ZO}{L:Nat}{env:List AV}{d:Option Nat}{v:AV}{p:POp}(h : ∀ n,d=some n->n ∉ p.slots):VA T L (Y5 env d v) p=VA T L env p:=by
 cases p with
 | build z ps=>
  have e:(ps.map λ(x:Nat×Nat×IOp)=>(x.1,x.2.1,ev (Y5 env d v) x.2.2))=ps.map λ(x:Nat×Nat×IOp)=>(x.1,x.2.1,ev env x.2.2):=by apply bC;intro q g;rw[YZ (λn hn hs=>h n hn (bY.2 ⟨q,g,hs⟩))]
  simp only[VA,WJ];rw[e]
 | bslice ty sz n z ps=>
  have e:(ps.map λ(x:Nat×IOp)=>ev (Y5 env d v) x.2)=ps.map λ(x:Nat×IOp)=>ev env x.2:=by apply bC;intro q g;rw[YZ (λn hn hs=>h n hn (bY.2 ⟨q,g,hs⟩))]
  simp only[VA,WJ];rw[e]
 | mkfn f xs ys=>
  have h1:xs.map (ev (Y5 env d v))=xs.map (ev env):=b7i (λn hn hs=>h n hn (by simp only[POp.slots,dU,Ij];exact .inl hs));have h2:ys.map (ev (Y5 env d v))=ys.map (ev env):=b7i (λn hn hs=>h n hn (by simp only[POp.slots,dU,Ij];exact .inr hs));simp only[VA,WJ];cases xs with
  | nil=>
   cases ys with
   | nil=>rfl
   | cons y ys=>show HM.ret (AV.fn f _ _)=HM.ret (AV.fn f _ _);rw[h1,h2]
  | cons x xs=>show HM.ret (AV.fn f _ _)=HM.ret (AV.fn f _ _);rw[h1,h2]
 | strslc x lo hi=>simp only[POp.slots,Ij,not_or]at h;simp only[VA,WJ];rw[YZ (λn hn=>(h n hn).1.1)];simp only[Pz (λn hn=>(h n hn).1.2),Pz (λn hn=>(h n hn).2)]
 | slc sz x lo hi mx=>
  simp only[POp.slots,Ij,not_or]at h;simp only[VA,WJ];rw[YZ (λn hn=>(h n hn).1.1.1)];simp only[Pz (λn hn=>(h n hn).1.1.2),Pz (λn hn=>(h n hn).1.2)];cases mx with
  | none=>rfl
  | some m=>
   have : ∀ k,bnd (Y5 env d v) k (some m)=bnd env k (some m):=λk=>Pz (λn hn=>(h n hn).2)
   simp only[this]
 | call f xs=>simp only[POp.slots,Ij,not_or]at h;simp only[VA];rw[YZ (λn hn=>(h n hn).1),b7i (λn hn=>(h n hn).2)]
 | pick a b c=>simp only[POp.slots,Ij,not_or]at h;simp only[VA,WJ];rw[YZ (λn hn=>(h n hn).1.1),YZ (x:=b) (λn hn=>(h n hn).1.2),YZ (x:=c) (λn hn=>(h n hn).2)]
 | mapupd st a b c=>simp only[POp.slots,Ij,not_or]at h;simp only[VA,WJ];rw[YZ (λn hn=>(h n hn).1.1),YZ (x:=b) (λn hn=>(h n hn).1.2),YZ (x:=c) (λn hn=>(h n hn).2)]
 | alloc z=>rfl
 | mkmap=>rfl
 | store n a b=>simp only[POp.slots,Ij,not_or]at h;simp only[VA,WJ];rw[YZ (x:=a) (λn hn=>(h n hn).1),YZ (x:=b) (λn hn=>(h n hn).2)]
 | bin kd op a b=>simp only[POp.slots,Ij,not_or]at h;simp only[VA,WJ];rw[YZ (x:=a) (λn hn=>(h n hn).1),YZ (x:=b) (λn hn=>(h n hn).2)]
 | mm mx a b=>simp only[POp.slots,Ij,not_or]at h;simp only[VA,WJ];rw[YZ (x:=a) (λn hn=>(h n hn).1),YZ (x:=b) (λn hn=>(h n hn).2)]
 | mksl ty sz by_ z a b=>simp only[POp.slots,Ij,not_or]at h;simp only[VA,WJ];rw[YZ (x:=a) (λn hn=>(h n hn).1),YZ (x:=b) (λn hn=>(h n hn).2)]
 | iaddr sz a b=>simp only[POp.slots,Ij,not_or]at h;simp only[VA,WJ];rw[YZ (x:=a) (λn hn=>(h n hn).1),YZ (x:=b) (λn hn=>(h n hn).2)]
 | index a b=>simp only[POp.slots,Ij,not_or]at h;simp only[VA,WJ];rw[YZ (x:=a) (λn hn=>(h n hn).1),YZ (x:=b) (λn hn=>(h n hn).2)]
 | indexA n sz a b=>simp only[POp.slots,Ij,not_or]at h;simp only[VA,WJ];rw[YZ (x:=a) (λn hn=>(h n hn).1),YZ (x:=b) (λn hn=>(h n hn).2)]
 | lookup st sh z ok a b=>simp only[POp.slots,Ij,not_or]at h;simp only[VA,WJ];rw[YZ (x:=a) (λn hn=>(h n hn).1),YZ (x:=b) (λn hn=>(h n hn).2)]
 | apps ty sz by_ a b=>simp only[POp.slots,Ij,not_or]at h;simp only[VA,WJ];rw[YZ (x:=a) (λn hn=>(h n hn).1),YZ (x:=b) (λn hn=>(h n hn).2)]
 | append ty sz by_ a b=>simp only[POp.slots,Ij,not_or]at h;simp only[VA,WJ];rw[YZ (x:=a) (λn hn=>(h n hn).1),YZ (x:=b) (λn hn=>(h n hn).2)]
 | _=>simp only[POp.slots]at h;simp only[VA,WJ];rw[YZ h]
section
abbrev FP:=Nat×List Nat×List Nat
def runF(T:ZO)(a:Nat):List (Nat×PI)->St->Option (St×List FP)
 | [],st=>some (st,[])
 | (i,p)::r,st=>(Vr T a p st).bind λ(st',R,W)=>(runF T a r st').map λ(st'',tr)=>(st'',(i,R,W)::tr)
def PY(T:ZO)(a:Nat)(p:PI)(st:St):Option St:=
 match WC st.env p.gd with
 | none=>none
 | some false=>some ⟨Y5 st.env p.dst .undef,st.heap⟩
 | some true=>((VA T (a+p.L) st.env p.op).run st.heap).map λ(v,σ)=>⟨Y5 st.env p.dst v,σ⟩
def Jm(T:ZO)(a:Nat):List PI->St->Option St
 | [],st=>some st
 | p::r,st=>(PY T a p st).bind (Jm T a r)
def RZ{T:ZO}{a:Nat}{p:PI}{st st':St}{R W:List Nat}(h:Vr T a p st=some (st',R,W)):PY T a p st=some st':=by
 unfold Vr at h;unfold PY;split at h
 ·cases h
 ·rename_i b;simp only[Ii,Ih]at h;simp[b,h.1]
 ·rename_i b;rw[Cm]at h;obtain⟨⟨v,σ,R1,W1⟩,h1,h2⟩:=h;simp only[Ih]at h2;simp[b,HM.run_of_runF _ h1,h2.1]
def fpOK(x y:FP):Bool:=a4z x.2.2 y.2.1&&a4z x.2.2 y.2.2&&a4z x.2.1 y.2.2
def apartP(p q:PI):Bool:=(match p.dst with|some d=> !q.looks.contains d&&q.dst != some d|none=>true)&&(match q.dst with|some d=> !p.looks.contains d|none=>true)
def b8h{p q:PI}(h:apartP p q=true):(∀ d,p.dst=some d->d ∉ q.looks)∧(∀ d,p.dst=some d->q.dst≠some d)∧(∀ d,q.dst=some d->d ∉ p.looks):=by
 refine⟨λd hd=> ?_,λd hd=> ?_,λd hd=> ?_⟩ <;> simp[apartP,hd]at h
 ·exact h.1.1
 ·exact h.1.2
 ·exact h.2
def c2m{env:List AV}{d:Option Nat}{v:AV}{g:Option (Nat×Bool)}(h : ∀ n,d=some n-> ∀ s b,g=some (s,b)->n≠s):WC (Y5 env d v) g=WC env g:=by
 cases g with
 | none=>rfl
 | some g=>
  obtain⟨s,b⟩:=g;cases d with
  | none=>rfl
  | some d=>have:=h d rfl s b rfl;simp[WC,Y5,dI this]
def g5j{env:List AV}{d e:Option Nat}{u v:AV}(h : ∀ n,d=some n->e≠some n):Y5 (Y5 env d u) e v=Y5 (Y5 env e v) d u:=by
 cases d with
 | none=>rfl
 | some d=>
  cases e with
  | none=>rfl
  | some e=>
   have:d≠e:=λx=>h d rfl (by rw[x])
   simp only[Y5];exact List.set_comm u v this
def F6{p:PI}{n s:Nat}{b:Bool}(h:n ∉ p.looks)(a:p.gd=some (s,b)):n≠s:=by intro e;subst e;apply h;simp[PI.looks,a]
def c1n{p:PI}{n:Nat}(h:n ∉ p.looks):n ∉ p.op.slots:=by intro e;exact h (by simp[PI.looks,e])
def j7g{T:ZO}{g:Nat}{p q:PI}{st k j:St}{C z B l:List Nat}(i:Vr T g p st=some (k,C,z))(a:Vr T g q k=some (j,B,l))(ha:apartP p q=true)
  (M:a4z z B=true) (K:a4z z l=true) (N:a4z C l=true) : ∃ st',Vr T g q st=some (st',B,l)∧Vr T g p st'=some (j,C,z):=by
 obtain⟨F,J,D⟩:=b8h ha
 have I : ∀ v,WC (Y5 st.env p.dst v) q.gd=WC st.env q.gd:=λv=>c2m (λn hn s b A=>F6 (F n hn) A)
 have r : ∀ v,WC (Y5 st.env q.dst v) p.gd=WC st.env p.gd:=λv=>c2m (λn hn s b A=>F6 (D n hn) A)
 have H : ∀ v L,VA T L (Y5 st.env p.dst v) q.op=VA T L st.env q.op:=λv L=>e0x (λn hn=>c1n (F n hn))
 have E : ∀ v L,VA T L (Y5 st.env q.dst v) p.op=VA T L st.env p.op:=λv L=>e0x (λn hn=>c1n (D n hn))
 have y : ∀ u v,Y5 (Y5 st.env q.dst v) p.dst u=Y5 (Y5 st.env p.dst u) q.dst v:=λu v=>(g5j (λn hn=>J n hn)).symm
 unfold Vr at i;split at i
 ·cases i
 ·rename_i h;simp only[Ii,Ih]at i;obtain⟨rfl,rfl,rfl⟩:=i;unfold Vr at a;simp only[I]at a;split at a
  ·cases a
  ·rename_i e;simp only[Ii,Ih]at a;obtain⟨rfl,rfl,rfl⟩:=a;exact⟨⟨Y5 st.env q.dst .undef,st.heap⟩,by simp[Vr,e],by simp[Vr,r,h,y]⟩
  ·rename_i e;rw[Cm]at a;obtain⟨⟨v,σ,R,W⟩,h1,h2⟩:=a;simp only[Ih]at h2;obtain⟨rfl,rfl,rfl⟩:=h2;rw[H]at h1;exact⟨⟨Y5 st.env q.dst v,σ⟩,by simp[Vr,e,h1],by simp[Vr,r,h,y]⟩
 ·rename_i h;rw[Cm]at i;obtain⟨⟨u,σ1,R,W⟩,h1,h2⟩:=i;simp only[Ih]at h2;obtain⟨rfl,rfl,rfl⟩:=h2;unfold Vr at a;simp only[I]at a;split at a
  ·cases a
  ·rename_i e;simp only[Ii,Ih]at a;obtain⟨rfl,rfl,rfl⟩:=a;exact⟨⟨Y5 st.env q.dst .undef,st.heap⟩,by simp[Vr,e],by simp[Vr,r,h,E,h1,y]⟩
  ·rename_i e;rw[Cm]at a;obtain⟨⟨v,σ2,R',W'⟩,k1,k2⟩:=a;simp only[Ih]at k2;obtain⟨rfl,rfl,rfl⟩:=k2;rw[H]at k1;obtain⟨τ,t1,t2⟩:=HM.comm h1 k1 M K N;exact⟨⟨Y5 st.env q.dst v,τ⟩,by simp[Vr,e,t1],by simp[Vr,r,h,E,t2,y]⟩
def h8l{T:ZO}{e i:Nat}{p:PI}{B:List (Nat×PI)}{dep:Nat->Nat->Bool}: ∀ (A:List (Nat×PI)) {st g:St} {s:List FP},runF T e (A++(i,p)::B) st=some (g,s) ->
  (∀ q∈A,dep q.1 i=false∧apartP q.2 p=true)->s.Pairwise (λx y=>dep x.1 y.1=true∨fpOK x y=true) ->
  ∃ b R W k,Vr T e p st=some (b,R,W)∧runF T e (A++B) b=some (g,k)∧k.Sublist s∧(i,R,W)∈s:=by
 intro A
 induction A with
 | nil=>intro st g s h _ _;simp only[List.nil_append,runF,Ib,Cm]at h;obtain⟨⟨b,R,W⟩,h1,⟨D,u⟩,h2,h3⟩:=h;simp only[Ih]at h3;obtain⟨rfl,rfl⟩:=h3;exact⟨b,R,W,u,h1,h2,cz _ _,by simp⟩
 | cons a A ih=>intro st g s h F r;obtain⟨j,q⟩:=a;simp only[List.cons_append,runF,Ib,Cm]at h;obtain⟨⟨b,R1,W1⟩,h1,⟨D,u⟩,h2,h3⟩:=h;simp only[Ih]at h3;obtain⟨rfl,rfl⟩:=h3;rw[bL]at r;obtain⟨st3,R,W,k,k1,H,k3,E⟩:=ih h2 (λz J=>F z (by simp[J])) r.2;have C:=F (j,q) (by simp);have l:=(r.1 (i,R,W) E).resolve_left (by simp only at C ⊢;simp[C.1]);simp only[fpOK,Ie]at l;obtain⟨st',K,I⟩:=j7g h1 k1 C.2 l.1.1 l.1.2 l.2;refine⟨st',R,W,(j,R1,W1)::k,K,?_,List.Sublist.cons_cons _ k3,by simp[E]⟩;simp[runF,I,H]
def QM(P:Program)(ops:Array Oper)(L:Nat)(o:Oper):Option PI:=
 match o.guard with
 | none=>(Gz P o.op).map λp=>⟨o.dst,p,L,none⟩
 | some (j,b)=>((ops[j]?).bind (·.dst)).bind λs=>(Gz P o.op).map λp=>⟨o.dst,p,L,some (s,b)⟩
section
variable {P:Program} {c:Ctx} {T:ZO}
theorem Ur{μ:Mu}{Φ:Ye}{a:Act}{env:List AV}{d:Option Nat}{u:Value}{v:AV}(h:XN μ Φ a.tmps env)(k:R μ Φ u v):XN μ Φ (a.put d u).tmps (Y5 env d v):=by
 cases d with
 | none=>exact h
 | some d=>
  refine⟨by have:=h.1;simpa [Act.put,Y5]using this,?_⟩;intro j x y e b;simp only[Act.put,ah]at e;simp only[Y5]at b;by_cases hjd:d=j
  ·subst hjd;have i:d<env.length:=by have:=(Ic.1 b).1;simpa using this
   have g:d<a.tmps.size:=by have:=h.1;simp at this;omega
   rw[aZ,if_pos rfl,if_pos i]at b;rw[aO g]at e;cases e;cases b;exact k
  ·rw[dI hjd]at b;rw[aC hjd]at e;exact h.2 j x y (by simpa using e) b
theorem Xt(a:Act)(d:Option Nat)(v:Value):(a.put d v).defers=a.defers:=by cases d <;> rfl
theorem Ei{μ:Mu}{Φ:Ye}{ops:Array Oper}{o:Oper}{L:Nat}{p:PI}{a:Act}{env:List AV}{b:Bool}(g:QM P ops L o=some p)(r:XN μ Φ a.tmps env)(e:WC env p.gd=some b):dQ o (yielded ops a.tmps)=b:=by
 unfold QM at g;split at g
 ·rename_i i;rw[Cm]at g;obtain⟨q,y,rfl⟩:=g;simp[WC]at e;simp[dQ,i,e]
 ·rename_i j bb i;simp only[Ib,Cm]at g;obtain⟨s,⟨o',k,hs⟩,q,y,rfl⟩:=g;simp only[WC]at e;simp only[dQ,i,yielded,k,Option.bind_some,hs];split at e
  ·rename_i v l;cases e;obtain⟨u,hu,h⟩:=r.at_ l;have h:=Xa h;cases h;have:a.tmps[s]? = some (.bool v):=by simpa using hu
   simp[this]
  ·rename_i l;cases e;obtain⟨u,hu,h⟩:=r.at_ l;cases h;have:a.tmps[s]? = some aL:=by simpa using hu
   rw[this];simp[aL]
  ·cases e
theorem b8b(B:YC P T){ops:Array Oper}{Q:Exit->Act->World->Prop}{i L k:Nat}{o:Oper}{p:PI}{K:Act->World->Prop}{st st':St}{a:Act}{w:World}(ho:ops[i]? = some o)(j:QM P ops L o=some p)
  (hr:VL c st a w) (hs:PY T k p st=some st') (z : ∀ a' w',VL c st' a' w'->K a' w'):wpOp P ops Q i K a w:=by
 obtain⟨μ,Φ,hg,he,hd⟩:=hr;have y : ∃ q,Gz P o.op=some q∧p.op=q∧p.dst=o.dst:=by
  unfold QM at j;split at j
  ·rw[Cm]at j;obtain⟨q,l,rfl⟩:=j;exact⟨q,l,rfl,rfl⟩
  ·simp only[Ib,Cm]at j;obtain⟨s,_,q,l,rfl⟩:=j;exact⟨q,l,rfl,rfl⟩
 obtain⟨q,l,C,A⟩:=y;unfold wpOp;simp only[ho];unfold PY at hs;split at hs
 ·cases hs
 ·rename_i r;cases hs;rw[Ei j he r];simp only[IA,if_false];refine z _ _ ⟨μ,Φ,hg,?_,by rw[Xt];exact hd⟩;rw[<- A];exact Ur he .undef
 ·rename_i r;rw[Cm]at hs;obtain⟨⟨v,σ⟩,h1,rfl⟩:=hs;rw[Ei j he r];simp only[if_true];left;rw[C]at h1;have b:=e1d B l hg he h1;have fin : ∀ u w',YJ c μ Φ σ v u w'->K (a.put o.dst u) w':=by rintro u w' ⟨μ',Φ',k1,k2,k3,k4⟩;refine z _ _ ⟨μ',Φ',k3,?_,by rw[Xt];exact hd⟩;rw[<- A];exact Ur (he.mono k1 k2) k4
  unfold Oper.wp;unfold QV at b;cases g:(execOp a.eval o).run P w with
  | halt h w'=>rw[g]at b;exact b.elim
  | ok n w'=>
   rw[g]at b;cases n <;> simp only at b
   ·exact fin _ _ b
   ·exact fin _ _ b
   ·refine Calls.mono b ?_;rintro e w'' ⟨u,rfl,hu⟩;exact fin _ _ hu
   all_goals exact b.elim
theorem e4e(k:YC P T){ops:Array Oper}{Q:Exit->Act->World->Prop}{b:Nat}{e:St}(u : ∀ a w,VL c e a w->Q .normal a w): ∀ (l:List (Nat×PI)) (st:St) (a:Act) (w:World),
  (∀ q∈l,∃ o L,ops[q.1]? = some o∧QM P ops L o=some q.2)->VL c st a w->Jm T b (l.map (·.2)) st=some e->wpOps P ops Q (l.map (·.1)) a w:=by
 intro l
 induction l with
 | nil=>intro st a w _ hr h;simp[Jm]at h;subst h;exact u a w hr
 | cons q l ih=>intro st a w j hr h;simp only[IG,Jm,Ib]at h;obtain⟨g,h1,h2⟩:=h;obtain⟨o,L,ho,r⟩:=j q (by simp);rw[IG,wpOps_cons];exact b8b k ho r hr h1 (λa' w' i=>ih g a' w' (λz s=>j z (by simp[s])) i h2)
end
end
section
def EL{T:ZO}{a:Nat}: ∀ {l:List (Nat×PI)} {st st':St} {b:List FP},runF T a l st=some (st',b)->Jm T a (l.map (·.2)) st=some st':=by
 intro l
 induction l with
 | nil=>intro st st' b h;simp[runF]at h;simp[Jm,h.1]
 | cons q l ih=>intro st st' b h;obtain⟨i,p⟩:=q;simp only[runF,Ib,Cm]at h;obtain⟨⟨st1,R,W⟩,h1,⟨st2,tr2⟩,h2,h3⟩:=h;simp only[Ih]at h3;obtain⟨rfl,rfl⟩:=h3;simp[Jm,RZ h1,ih h2]
structure Edges (ops:Array Oper) (dep:Nat->Nat->Bool):Prop where
 fwd : ∀ i o,ops[i]? = some o-> ∀ e∈o.after,ax .any e=true->e.on<i
 clo : ∀ i o d,ops[i]? = some o->dep d i=true-> ∃ e∈o.after,ax .any e=true∧(d=e.on∨dep d e.on=true)
section
variable {P:Program} {c:Ctx} {T:ZO}
theorem e2j(hT:YC P T){ops:Array Oper}{dep:Nat->Nat->Bool}(hE:Edges ops dep){Q:Exit->Act->World->Prop}{base:Nat}{stF:St}(hQ : ∀ a w,VL c stF a w->Q .normal a w): ∀ (fuel:Nat) (b:Array Bool) (rest:List (Nat×PI)) (st:St) (a:Act) (w:World) (tr:List FP),
  fuel=rest.length->b.size=ops.size->(∀ i,i<ops.size->(b[i]? = some false ↔ i∈rest.map (·.1)))->(∀ q∈rest,q.1<ops.size∧ ∃ o L,ops[q.1]? = some o∧QM P ops L o=some q.2) ->
  (rest.map (·.1)).Pairwise (· < ·)->rest.Pairwise (λx y=>dep x.1 y.1=true∨apartP x.2 y.2=true)->(∀ d i,i<ops.size->dep d i=true->i ∉ rest.map (·.1)->d ∉ rest.map (·.1)) ->
  VL c st a w->runF T base rest st=some (stF,tr)->tr.Pairwise (λx y=>dep x.1 y.1=true∨fpOK x y=true)->wpAny P .any ops Q fuel b a w:=by
 intro fuel
 induction fuel with
 | zero=>
  intro b rest st a w tr hf hl hm hi l U S hr E X;have:rest=[]:=List.eq_nil_of_length_eq_zero hf.symm;subst this;simp[runF]at E;obtain⟨rfl,_⟩:=E;refine⟨?_,hQ a w hr⟩;unfold bZ;rw[List.filter_eq_nil_iff];intro i s;simp only[fE]at s
  have:=hm i s;simp only[fG,List.not_mem_nil,iff_false]at this;have C:i<b.size:=by omega
  have e:b[i]? = some b[i]:=Ik C;rw[e]at this;have ht:b[i]=true:=by
   cases hb:b[i]with
   | true=>rfl
   | false=>rw[hb]at this;exact absurd rfl this
  simp[Iq,e,ht]
 | succ fuel ih=>
  intro b rest st a w tr hf hl hm hi l U S hr E X;have hmem : ∀ i,i<ops.size->b.getD i true=false->i∈rest.map (·.1):=by
   intro i J hg;refine(hm i J).1 ?_;have C:i<b.size:=by omega
   have e:b[i]? = some b[i]:=Ik C;simp[Iq,e]at hg;rw[e,hg]
  have V : ∀ i,b.getD i false=true->i<ops.size∧i ∉ rest.map (·.1):=by
   intro i hg;have C:i<b.size:=by
    rcases bU i b.size with h|h
    ·exact h
    ·simp[Iq,bv h]at hg
   have e:b[i]? = some b[i]:=Ik C;simp[Iq,e]at hg;refine⟨by omega,λF=> ?_⟩
   have:=(hm i (by omega)).2 F;rw[e,hg]at this;cases this
  refine⟨?_,?_⟩
  ·intro Y;exfalso;cases rest with
   | nil=>simp at hf
   | cons q rest=>
    obtain⟨h1,o,L,ho,_⟩:=hi q (by simp);have F:q.1∈bZ .any ops b:=by
     unfold bZ;rw[az];refine⟨by simpa using h1,?_⟩;have e1:b[q.1]? = some false:=(hm q.1 h1).2 (by simp);simp only[ho,aR,eu,Ie];refine⟨by simp[Iq,e1],?_⟩;rw[eF];intro k hk;cases hb:ax .any o.after[k]with
     | false=>simp
     | true=>
      have hon:=hE.fwd q.1 o ho o.after[k] (Array.getElem_mem hk) hb;have C:o.after[k].on<ops.size:=by omega
      have N:o.after[k].on ∉ (q::rest).map (·.1):=by
       intro Z;rw[IG,bL]at l;rcases IR.1 Z with h|h
       ·have h:o.after[k].on=q.1:=h;omega
       ·have:q.1<o.after[k].on:=l.1 _ h;omega
      have hlt':o.after[k].on<b.size:=by omega
      have e2:b[o.after[k].on]? = some b[o.after[k].on]:=Ik hlt';have e3:b[o.after[k].on]=true:=by
       cases hb2:b[o.after[k].on]with
       | true=>rfl
       | false=>exact absurd ((hm _ C).1 (by rw[e2,hb2])) N
      simp[Iq,e2,e3]
    rw[Y]at F;cases F
  ·intro i s;unfold bZ at s;rw[az]at s;obtain⟨s,M⟩:=s;simp only[fE]at s;simp only[Ie,eD]at M;obtain⟨hl0,hready⟩:=M;have F:=hmem i s hl0;obtain⟨q,hq,hqi⟩:=IP.1 F;obtain⟨A,B,hAB⟩:=List.append_of_mem hq;obtain⟨j,p⟩:=q;simp only at hqi;subst hqi;subst hAB;obtain⟨_,o,L,ho,hp⟩:=hi (j,p) hq;simp only at ho hp;simp only[ho,aR,eu]at hready;rw[eF]at hready;have z : ∀ e∈o.after,ax .any e=true->b.getD e.on false=true:=by
    intro e he hb;obtain⟨k,hk,rfl⟩:=Array.getElem_of_mem he
    have:=hready k hk;simpa [hb]using this
   have hA : ∀ q∈A,dep q.1 j=false∧apartP q.2 p=true:=by
    intro q hqA;have hd:dep q.1 j=false:=by
     cases D:dep q.1 j with
     | false=>rfl
     | true=>
      exfalso;obtain⟨e,he,hb,g⟩:=hE.clo j o q.1 ho D;obtain⟨h1,h2⟩:=V _ (z e he hb);have O:q.1∈(A++(j,p)::B).map (·.1):=IP.2 ⟨q,by simp[hqA],rfl⟩;rcases g with g|g
      ·rw[g]at O;exact h2 O
      ·exact S q.1 e.on h1 g h2 O
    refine⟨hd,?_⟩;rw[dJ]at U
    have:=U.2.2 q hqA (j,p) (by simp);rcases this with h|h
    ·simp only at h;rw[hd]at h;cases h
    ·exact h
   obtain⟨st1,R,W,tr',k1,k2,k3,k4⟩:=h8l A E hA X;refine b8b hT ho hp hr (RZ k1) ?_;intro a' w' hr';have I:(A++B).Sublist (A++(j,p)::B):=List.Sublist.append (List.Sublist.refl _) (cz _ _);have K:((A++B).map (·.1)).Sublist ((A++(j,p)::B).map (·.1)):=I.map _;have hjn:j ∉ (A++B).map (·.1):=by
    rw[aG,IG,dJ]at l;obtain⟨s1,s2,s3⟩:=l;rw[bL]at s2;intro hj;rw[aG,Ij]at hj;rcases hj with hj|hj
    ·have:=s3 j hj j (by simp);omega
    ·have:=s2.1 j hj;omega
   have hmm : ∀ H,H≠j->(H∈(A++B).map (·.1) ↔ H∈(A++(j,p)::B).map (·.1)):=by
    intro H u;rw[aG,aG,IG,Ij,Ij,IR];constructor
    ·rintro(h|h)
     ·exact .inl h
     ·exact .inr (.inr h)
    ·rintro(h|h|h)
     ·exact .inl h
     ·exact absurd h u
     ·exact .inr h
   refine ih (b.setIfInBounds j true) (A++B) st1 a' w' tr' (by simp at hf ⊢;omega) (by simpa using hl) ?_ (λq hq=>hi q (I.subset hq)) (l.sublist K) (U.sublist I) ?_ hr' k2 (X.sublist k3)
   ·intro H J;by_cases u:H=j
    ·subst u;rw[aO (by omega)];simp only[Ii,Bool.true_eq_false,false_iff];exact hjn
    ·rw[aC (aY u),hm H J,hmm H u]
   ·intro d H J D N hdin;have r:=K.subset hdin;by_cases u:H=j
    ·subst u;obtain⟨e,he,hb,g⟩:=hE.clo H o d ho D;obtain⟨h1,h2⟩:=V _ (z e he hb);rcases g with g|g
     ·rw[g]at r;exact h2 r
     ·exact S d e.on h1 g h2 r
    ·exact S d H J D (λh=>N ((hmm H u).2 h)) r
end
def POp.news:POp->Nat
 | .box .. | .alloc .. | .bslice .. | .mkmap | .mksl .. | .append .. | .apps .. =>1
 | .call .. =>2
 | _=>0
def XL(P:Program)(ops:Array Oper):Nat->List Oper->Option (List PI)
 | _,[]=>some []
 | L,o::r=>(QM P ops L o).bind λp=>(XL P ops (L+p.op.news) r).map (p:: ·)
def a1p{P:Program}{ops:Array Oper}: ∀ {os:List Oper} {L:Nat} {ps:List PI},XL P ops L os=some ps->ps.length=os.length∧ ∀ (j:Nat) o p,os[j]? = some o->ps[j]? = some p-> ∃ i,QM P ops i o=some p:=by
 intro os
 induction os with
 | nil=>intro L ps h;simp[XL]at h;subst h;simp
 | cons o os ih=>
  intro L ps h;simp only[XL,Ib,Cm]at h;obtain⟨p,e,ps',hps,rfl⟩:=h;obtain⟨h1,h2⟩:=ih hps;refine⟨by simp[h1],?_⟩;intro j o' g b a;cases j with
  | zero=>simp at b a;subst b a;exact⟨L,e⟩
  | succ j=>simp at b a;exact h2 j o' g b a
def ons(o:Oper):List Nat:=(o.after.toList.filter λe=>ax .any e).map (·.on)
def b3g:List (List Nat)->List Oper->List (List Nat)
 | acc,[]=>acc
 | acc,o::r=>b3g (acc++[((ons o)++(ons o).flatMap λi=>acc.getD i []).eraseDups]) r
def depB(deps:List (List Nat))(i j:Nat):Bool:=(deps.getD j []).contains i
def AQ(ops:List Oper)(deps:List (List Nat)):Bool:=
 deps.length==ops.length &&
 ops.zipIdx.all λ(o,i)=>(ons o).all (λk=>k<i)&&(deps.getD i []).all λd=>(ons o).any λk=>k==d||depB deps d k
def a8a{ops:Array Oper}{deps:List (List Nat)}(h:AQ ops.toList deps=true):Edges ops (depB deps):=by
 simp only[AQ,Ie,aM,beq_iff_eq]at h;obtain⟨hlen,h⟩:=h;have get : ∀ i o,ops[i]? = some o->(o,i)∈ops.toList.zipIdx:=by intro i o ho;rw[bG];simpa using ho
 refine⟨λi o ho e a hb=> ?_,λi o d ho hd=> ?_⟩
 ·have:=(h _ (get i o ho)).1 e.on (IP.2 ⟨e,az.2 ⟨by simpa using a,hb⟩,rfl⟩);simpa using this
 ·have hd':d∈deps.getD i []:=by simpa [depB]using hd
  have:=(h _ (get i o ho)).2 d hd';rw[List.any_eq_true]at this;obtain⟨k,g,b⟩:=this;obtain⟨e,a,rfl⟩:=IP.1 g;rw[az]at a;refine⟨e,by simpa using a.1,a.2,?_⟩;simp only[au,beq_iff_eq]at b;exact b.imp (λh=>h.symm) id
def a2w{α:Type}(r:α->α->Bool):List α->Bool
 | []=>true
 | x::xs=>xs.all (r x)&&a2w r xs
def S9{α:Type}{r:α->α->Bool}: ∀ {l:List α},a2w r l=true->l.Pairwise (λx y=>r x y=true):=by
 intro l
 induction l with
 | nil=>intro _;exact .nil
 | cons x xs ih=>intro h;simp only[a2w,Ie,aM]at h;exact .cons (λy a=>h.1 y a) (ih h.2)
def Ba(ps:List PI):List (Nat×PI):=ps.zipIdx.map λq=>(q.2,q.1)
def Ls(deps:List (List Nat))(ps:List PI):Bool:=a2w (λ(x y:Nat×PI)=>depB deps x.1 y.1||apartP x.2 y.2) (Ba ps)
def b2t(deps:List (List Nat))(a:List FP):Bool:=a2w (λ(x y:FP)=>depB deps x.1 y.1||fpOK x y) a
def news(ps:List PI):Nat:=(ps.map (·.op.news)).foldl (· + ·) 0
def grow(st:St)(n:Nat):St:=⟨st.env,st.heap++Iy n .fresh⟩
def Jl(T:ZO)(ps:List PI)(deps:Option (List (List Nat)))(st:St):Option St:=
 match deps with
 | none=>Jm T st.heap.length ps (grow st (news ps))
 | some d=>(runF T st.heap.length (Ba ps) (grow st (news ps))).bind λ(st',tr)=>if b2t d tr then some st' else none
def Good.grow{c:Ctx}{μ:Mu}{Φ:Ye}{σ:ZN}{w:World}(h:Good c μ Φ σ w)(n:Nat):Good c μ Φ (σ++Iy n .fresh) w:=by
 have a : ∀ (l:Nat) (o:AObj),(σ++Iy n Slot.fresh)[l]? = some (Slot.obj o)->σ[l]? = some (Slot.obj o):=by
  intro l o ho;rw[aj]at ho;split at ho
  ·exact ho
  ·have:=Iu ho
   have:=aU this;cases this
 refine⟨h.phi,λl o ho=>h.obj l o (a l o ho),λl l' o o' e h1 h2=>h.apart l l' o o' e (a l o h1) (a l' o' h2),?_,λl o ho=>h.own l o (a l o ho),h.os,h.tape,h.output,h.size,h.frame,h.Φle,h.μle,h.dom,h.laid⟩;intro l m b;by_cases hl:l<σ.length
 ·rw[IK hl]at b;exact h.fresh l m b
 ·exact h.fresh l m (.inl (aI (by omega)))
def VL.grow{c:Ctx}{st:St}{a:Act}{w:World}(h:VL c st a w)(n:Nat):VL c (Pl.grow st n) a w:=by obtain⟨μ,Φ,hg,he,hd⟩:=h;exact⟨μ,Φ,hg.grow n,he,hd⟩
def UQ(ps:List PI):(Ba ps).map (·.1)=aX ps.length:=by unfold Ba;rw[fK];have:((λ(x:Nat×PI)=>x.1) ∘ λ(q:PI×Nat)=>(q.2,q.1))=Prod.snd:=rfl;rw[this,List.zipIdx_map_snd,dG]
def A8(ps:List PI):(Ba ps).map (·.2)=ps:=by unfold Ba;rw[fK];have:((λ(x:Nat×PI)=>x.2) ∘ λ(q:PI×Nat)=>(q.2,q.1))=Prod.fst:=rfl;rw[this,List.zipIdx_map_fst]
def c0f{ps:List PI}{q:Nat×PI}(h:q∈Ba ps):ps[q.1]? = some q.2:=by unfold Ba at h;obtain⟨z,a,rfl⟩:=IP.1 h;rw[bG]at a;exact a
def f3g{P:Program}{c:Ctx}{T:ZO}(A:YC P T)(k:P.follows .mixedOrders=true){id:Nat}{ops:Array Oper}{draw:Bool}{ps:List PI}{deps:Option (List (List Nat))}(hps:XL P ops 0 ops.toList=some ps)
  (hd:draw=true-> ∃ d,deps=some d∧AQ ops.toList d=true∧Ls d ps=true) (hd':draw=false->deps=none) {Q:Exit->Act->World->Prop} {st st':St} {a:Act} {w:World} (hr:VL c st a w) (b:Jl T ps deps st=some st')
  (B : ∀ a w,VL c st' a w->Q .normal a w):(Code.region id ops draw).wp P Q a w:=by
 obtain⟨e,y⟩:=a1p hps;have g : ∀ q∈Ba ps,q.1<ops.size∧ ∃ o L,ops[q.1]? = some o∧QM P ops L o=some q.2:=by
  intro q s;have r:=c0f s;have hlt:=(Ic.1 r).1;have j:q.1<ops.size:=by simp at e;omega
  obtain⟨L,E⟩:=y q.1 ops[q.1] q.2 (by simp[j]) r;exact⟨j,ops[q.1],L,Ik j,E⟩
 cases draw with
 | false=>
  rw[hd' rfl]at b;refine wp_region ?_
  have:=e4e A (ops:=ops) (Q:=Q) B (Ba ps) (Pl.grow st (news ps)) a w (λq s=>(g q s).2) (hr.grow _) (by rw[A8];exact b);rw[UQ,e]at this;simpa using this
 | true=>
  obtain⟨d,rfl,D,ha⟩:=hd rfl;simp only[Jl,Ib]at b;obtain⟨⟨st1,C⟩,b,hif⟩:=b;simp only at hif;split at hif
  ·rename_i u;cases hif;refine wp_region_any k ?_;have z:VL c (Pl.grow st (news ps)) a {w with drawn:=w.drawn+1}:=by obtain⟨μ,Φ,hg,he',hd2⟩:=hr.grow (news ps);exact⟨μ,Φ,hg.drew,he',hd2⟩
   have F:ops.size=(Ba ps).length:=by have:=congrArg eO (UQ ps);simp at this e;omega
   refine e2j A (a8a D) B ops.size (Array.replicate ops.size false) (Ba ps) (Pl.grow st (news ps)) a _ C F (by simp) ?_ g ?_ ?_ ?_ z b ?_
   ·intro i hi;rw[UQ];have:i<ps.length:=by simp at e;omega
    simp[hi,this]
   ·rw[UQ];exact List.pairwise_lt_range
   ·exact(S9 ha).imp (λh=>by simpa using h)
   ·intro d' i hi _ l;exfalso;apply l;rw[UQ];simp at e ⊢;omega
   ·exact(S9 u).imp (λh=>by simpa using h)
  ·cases hif
end
inductive IC where
 | skip
 | reg (ps:List PI) (deps:Option (List (List Nat)))
 | seq (a b:IC)
 | cond (c:IOp) (a b:IC)
 | block (id:Nat) (b:IC)
 | loop (keep:List Nat) (b:IC)
 | exit (id:Nat)
 | ret
 | ext (n:Nat) (sl:List Nat)
def Yy(d:Nat)(o:POp)(k:Nat):PI:=⟨some d,o,k,none⟩
def o''(o:POp)(k:Nat):PI:=⟨none,o,k,none⟩
def p''(d:Nat)(o:POp)(k g:Nat):PI:=⟨some d,o,k,some (g,true)⟩
def r''(d:Nat)(o:POp)(k g:Nat):PI:=⟨some d,o,k,some (g,false)⟩
def UX(n:Nat):POp:=.mv (.t n)
def UR(n:Int):IOp:=.c (.int .i64 n)
def c''(f:Nat)(l:List IOp):POp:=.call (.c (.fn f)) l
def f''(b:Bool):POp:=.mv (.c (.bool b))
def NR(o:BinOp)(x y:IOp):POp:=.bin .num o x y
def l''(l:List Sh)(x:IOp):POp:=.load false l x
def KG(l:List PI)(a:IC):IC:=.seq (.reg l none) a
inductive XE where
 | normal|exit (id:Nat)|ret
 deriving DecidableEq
def XE.ex:XE->Exit
 | .normal=>.normal
 | .exit id=>.exit id
 | .ret=>.ret
def Hd:Nat->List Nat->List Nat->ZN->List Nat
 | 0,_,acc,_=>acc
 | _+1,[],acc,_=>acc
 | n+1,l::ls,acc,σ=>
  if acc.contains l then Hd n ls acc σ
  else match σ[l]? with
   | some (.obj o)=>Hd n (ls++o.refs) (acc++[l]) σ
   | _=>Hd n ls acc σ
def M3:Nat->List Nat->List Nat->ZN->List Nat
 | 0,_,acc,_=>acc
 | _+1,[],acc,_=>acc
 | n+1,l::ls,acc,σ=>
  if acc.contains l then M3 n ls acc σ
  else match σ[l]? with
   | some (.obj o)=>M3 n (ls++o.refs) (acc++[l]) σ
   | some .dead=>M3 n ls (acc++[l]) σ
   | _=>M3 n ls acc σ
def NH(keep:List Nat):Nat->List AV->List AV
 | _,[]=>[]
 | i,v::vs=>(if keep.contains i then v else .junk)::NH keep (i+1) vs
def a0a:Slot->Option AObj
 | .obj o=>some o
 | _=>none
def QI(ρ:Nat->Option Nat):Slot->Option Slot
 | .obj o=>(o.ren ρ).map .obj
 | .dead=>some .dead
 | .fresh=>none
def CG(k:Nat)(ls:List Nat)(env:List AV)(σ:ZN):Option St:=
 if (ls.take k==aX k&&a0u ls)=true then
  (Wz (λl=>(σ[l]?).bind (QI (fwd ls))) ls).bind λos=>(MI (fwd ls) env).map λa=>⟨a,os⟩
 else none
def Gd(k:Nat)(keep:List Nat)(st:St):Option St:=
 let env:=NH keep 0 st.env
 CG k (M3 256 (aX k++Ho env) [] st.heap) env st.heap
def OB:Nat->(St->Option (XE×St))->St->Option (XE×St)
 | 0,_,_=>none
 | n+1,f,st=>(f st).bind λ(x,st')=>match x with
  | .normal=>OB n f st'
  | x=>some (x,st')
def W9(T:ZO)(k n:Nat):IC->St->Option (XE×St)
 | .skip,st=>some (.normal,st)
 | .reg ps d,st=>(Jl T ps d st).map λst'=>(.normal,st')
 | .seq a b,st=>(W9 T k n a st).bind λ(x,st')=>match x with
  | .normal=>W9 T k n b st'
  | x=>some (x,st')
 | .cond c a b,st=>match ev st.env c with
  | .pv (.bool true)=>W9 T k n a st
  | .pv (.bool false)=>W9 T k n b st
  | _=>none
 | .block id b,st=>(W9 T k n b st).map λ(x,st')=>(if x = .exit id then .normal else x,st')
 | .loop keep b,st=>OB n (λst=>(Gd k keep st).bind λst=>W9 T k n b st) st
 | .exit id,st=>some (.exit id,st)
 | .ret,st=>some (.ret,st)
 | .ext _ _,_=>none
inductive Tr (P:Program):Code->IC->Prop
 | skip:Tr P .skip .skip
 | label (l:Nat):Tr P (.label l) .skip
 | reg (id:Nat) (ops:Array Oper) (draw:Bool) (ps:List PI) (deps:Option (List (List Nat))) (hps:XL P ops 0 ops.toList=some ps)
   (hd:draw=true-> ∃ d,deps=some d∧AQ ops.toList d=true∧Ls d ps=true) (hd':draw=false->deps=none):Tr P (.region id ops draw) (.reg ps deps)
 | seq {a b:Code} {x y:IC} (h:Tr P a x) (k:Tr P b y):Tr P (.seq a b) (.seq x y)
 | cond {c:Operand} {d:IOp} {a b:Code} {x y:IC} (hc:YL c=some d) (h:Tr P a x) (k:Tr P b y):Tr P (.cond c a b) (.cond d x y)
 | block {id:Nat} {a:Code} {x:IC} (h:Tr P a x):Tr P (.block id a) (.block id x)
 | loop {keep:List Nat} {a:Code} {x:IC} (h:Tr P a x):Tr P (.loop a) (.loop keep x)
 | exit (id:Nat):Tr P (.exit id) (.exit id)
 | ret:Tr P .ret .ret
def Um(P:Program):Code->Option IC
 | .skip | .label _=>some .skip
 | .region _ ops draw=>(XL P ops 0 ops.toList).bind λps=>
  if draw then
   if AQ ops.toList (b3g [] ops.toList)&&Ls (b3g [] ops.toList) ps then some (.reg ps (some (b3g [] ops.toList)))else none
  else some (.reg ps none)
 | .seq a b=>(Um P a).bind λx=>(Um P b).map (.seq x)
 | .cond c a b=>(YL c).bind λd=>(Um P a).bind λx=>(Um P b).map (.cond d x)
 | .block id a=>(Um P a).map (.block id)
 | .loop a=>(Um P a).map (.loop [])
 | .exit id=>some (.exit id)
 | .ret=>some .ret
 | _=>none
def AY{P:Program}: ∀ {c:Code} {x:IC},Um P c=some x->Tr P c x:=by
 intro c
 induction c with
 | skip=>intro x h;simp[Um]at h;subst h;exact .skip
 | label l=>intro x h;simp[Um]at h;subst h;exact .label l
 | region id ops draw=>
  intro x h;simp only[Um,Ib]at h;obtain⟨ps,hps,h⟩:=h;cases draw with
  | false=>simp at h;subst h;exact .reg id ops false ps none hps (λh=>by cases h) (λ_=>rfl)
  | true=>
   simp only[if_true]at h;split at h
   ·rename_i hb;simp only[Ie]at hb;cases h;exact .reg id ops true ps _ hps (λ_=>⟨_,rfl,hb.1,hb.2⟩) (λh=>by cases h)
   ·cases h
 | seq a b iha ihb=>intro x h;simp only[Um,Ib,Cm]at h;obtain⟨y,e,z,g,rfl⟩:=h;exact .seq (iha e) (ihb g)
 | cond c a b iha ihb=>intro x h;simp only[Um,Ib,Cm]at h;obtain⟨d,hd,y,e,z,g,rfl⟩:=h;exact .cond hd (iha e) (ihb g)
 | block id a ih=>intro x h;simp only[Um,Cm]at h;obtain⟨y,e,rfl⟩:=h;exact .block (ih e)
 | loop a ih=>intro x h;simp only[Um,Cm]at h;obtain⟨y,e,rfl⟩:=h;exact .loop (ih e)
 | exit id=>intro x h;simp[Um]at h;subst h;exact .exit id
 | ret=>intro x h;simp[Um]at h;subst h;exact .ret
 | _=>intro x h;simp[Um]at h
def uni(xs ys:List Nat):List Nat:=xs++ys.filter λy=> !xs.contains y
def h8s:List PI->List Nat->List Nat
 | [],live=>live
 | p::r,live=>
  let l:=h8s r live
  uni p.looks.eraseDups (match p.dst with|some d=>l.filter (· != d)|none=>l)
def DU(ex:List (Nat×List Nat))(out:List Nat):IC->List Nat->IC×List Nat
 | .skip,l=>(.skip,l)
 | .reg ps d,l=>(.reg ps d,h8s ps l)
 | .seq a b,l=>let (b',lb):=DU ex out b l;let (a',la):=DU ex out a lb;(.seq a' b',la)
 | .cond c a b,l=>let (a',la):=DU ex out a l;let (b',lb):=DU ex out b l;(.cond c a' b',uni c.slot (uni la lb))
 | .block id a,l=>let (a',la):=DU ((id,l)::ex) out a l;(.block id a',la)
 | .loop _ a,_=>
  let e:=(DU ex out a []).2
  let g:=(DU ex out a e).2
  let (a',l3):=DU ex out a g
  (.loop l3 a',l3)
 | .exit id,_=>(.exit id,((ex.find? (·.1==id)).map (·.2)).getD [])
 | .ret,_=>(.ret,out)
 | .ext n sl,l=>(.ext n (uni sl l),uni sl l)
def b7n{P:Program}: ∀ {c:Code} {x:IC},Tr P c x-> ∀ (ex:List (Nat×List Nat)) (out l:List Nat),Tr P c (DU ex out x l).1:=by
 intro c x h
 induction h with
 | skip=>intro ex out l;exact .skip
 | label n=>intro ex out l;exact .label n
 | reg id ops draw ps deps hps hd hd'=>intro ex out l;exact .reg id ops draw ps deps hps hd hd'
 | seq h k ih1 ih2=>intro ex out l;exact .seq (ih1 _ _ _) (ih2 _ _ _)
 | cond hc h k ih1 ih2=>intro ex out l;exact .cond hc (ih1 _ _ _) (ih2 _ _ _)
 | block h ih=>intro ex out l;exact .block (ih _ _ _)
 | loop h ih=>intro ex out l;exact .loop (ih _ _ _)
 | exit id=>intro ex out l;exact .exit id
 | ret=>intro ex out l;exact .ret
def Vu{c:Ctx}{μ:Mu}{Φ:Ye}{k:Nat}{ls:List Nat}{env:List AV}{σ:ZN}{w:World}{st':St}{tmps:Array Value}(hk : ∀ i n,k<=i->c.μ0 i n=none)(a:Good c μ Φ σ w)(he:XN μ Φ tmps env)
  (h:CG k ls env σ=some st'):Good c (μ.ren ls) Φ st'.heap w∧XN (μ.ren ls) Φ tmps st'.env:=by
 unfold CG at h;split at h
 ·rename_i hc;simp only[Ie,beq_iff_eq]at hc;obtain⟨L,J⟩:=hc;simp only[Ib,Cm]at h;obtain⟨os,O,env',A,rfl⟩:=h;obtain⟨h1,h2⟩:=VM O;have C : ∀ l i,fwd ls l=some i-> ∀ n z,μ l n=some z->μ.ren ls i n=some z:=by intro l i hi n z B;simp[Mu.ren,Fj hi,B]
  have D : ∀ (i:Nat) (F:Slot),os[i]? = some F-> ∃ (l:Nat) (s:Slot),ls[i]? = some l∧σ[l]? = some s∧QI (fwd ls) s=some F:=by
   intro i F ho;have hi:i<ls.length:=by have:=(Ic.1 ho).1;omega
   have:=h2 i ls[i] F (Ia hi) ho;simp only[Ib]at this;obtain⟨s,hs,P⟩:=this;exact⟨ls[i],s,Ia hi,hs,P⟩
  have r : ∀ (i:Nat) (o':AObj),os[i]? = some (Slot.obj o')-> ∃ (l:Nat) (o:AObj),ls[i]? = some l∧σ[l]? = some (Slot.obj o)∧o.ren (fwd ls)=some o':=by
   intro i o' ho;obtain⟨l,s,V,Y,u⟩:=D i _ ho;cases s with
   | fresh=>cases u
   | dead=>simp[QI]at u
   | obj o=>simp only[QI,Cm]at u;obtain⟨q,Q,e⟩:=u;cases e;exact⟨l,o,V,Y,Q⟩
  have g : ∀ (i l:Nat),ls[i]? = some l-> ∀ n,μ.ren ls i n=μ l n:=λi l h n=>by simp[Mu.ren,h]
  refine⟨⟨a.phi,?_,?_,?_,?_,a.os,a.tape,a.output,a.size,a.frame,a.Φle,?_,a.dom,a.laid⟩,c7z C he A⟩
  ·intro i o' ho;obtain⟨l,o,M,H,b⟩:=r i o' ho;exact(WM C (g i l M) (a.obj l o H) b).1
  ·intro i j o1 o2 K k1 Z;obtain⟨E,T,W,b1,r1⟩:=r i o1 k1;obtain⟨N,X,U,S,r2⟩:=r j o2 Z;rw[(WM C (g i E W) (a.obj E T b1) r1).2,(WM C (g j N U) (a.obj N X S) r2).2];refine a.apart E N T X ?_ b1 S;rintro rfl;exact K (e3j J i j E W U)
  ·intro i n I;have:os[i]? = none:=by
    rcases I with h|h
    ·exact h
    ·obtain⟨l,s,V,Y,u⟩:=D i _ h;cases s with
     | fresh=>cases u
     | dead=>simp[QI]at u
     | obj o=>simp only[QI,Cm]at u;obtain⟨q,Q,e⟩:=u;cases e
   have hi:ls[i]? = none:=by rw[aS]at this ⊢;omega
   simp[Mu.ren,hi]
  ·intro i o' ho;obtain⟨l,o,M,H,b⟩:=r i o' ho;rw[(WM C (g i l M) (a.obj l o H) b).2];exact a.own l o H
  ·intro i n z B;have y:i<k:=by
    rcases bU i k with h|h
    ·exact h
    ·rw[hk i n h]at B;cases B
   have:ls[i]? = some i:=by have h3:=congrArg (λ(l:List Nat)=>l[i]?) L;simp only[Ip,if_pos y]at h3;rw[h3];simp[y]
   simp[Mu.ren,this,a.μle i n z B]
 ·cases h
def CR{μ:Mu}{Φ:Ye}{keep:List Nat}: ∀ {env:List AV} {i:Nat} {vs:List Value},RL μ Φ vs env->RL μ Φ vs (NH keep i env):=by
 intro env
 induction env with
 | nil=>intro i vs h;exact h
 | cons x env ih=>
  intro i vs h;obtain⟨v,vs',rfl,h1,h2⟩:=h.uncons;simp only[NH];refine RL.cons ?_ (ih h2);split
  ·exact h1
  ·exact .junk v
def d7l{c:Ctx}{k:Nat}{keep:List Nat}{st st':St}{a:Act}{w:World}(b : ∀ i n,k<=i->c.μ0 i n=none)(h:VL c st a w)(g:Gd k keep st=some st'):VL c st' a w:=by obtain⟨μ,Φ,h1,h2,h3⟩:=h;obtain⟨k1,e⟩:=Vu b h1 (CR h2) g;exact⟨_,Φ,k1,e,h3⟩
def h4i{P:Program}{c:Ctx}{g:Code}{f:St->Option (XE×St)}{x:XE}{st':St}(r : ∀ st j y a w,f st=some (y,j)->VL c st a w->g.wp P (λe a' w'=>e=y.ex∧VL c j a' w') a w)
  (n:Nat) (st:St) (a:Act) (w:World) (h:OB n f st=some (x,st')) (hr:VL c st a w):(Code.loop g).wp P (λe a' w'=>e=x.ex∧VL c st' a' w') a w:=by
 intro b k cs;have s : ∀ n st a w,OB n f st=some (x,st')->VL c st a w-> ∃ e a' w',(e=x.ex∧VL c st' a' w')∧Arrives P (lone (b.at a (.code g:: .inLoop g::k)) cs w) b k cs e a' w':=by
  intro n
  induction n with
  | zero=>intro st a w h;simp[OB]at h
  | succ n ih=>
   intro st a w h hr;simp only[OB,Ib]at h;obtain⟨⟨y,j⟩,h1,h2⟩:=h;obtain⟨e,a1,w1,⟨C,q⟩,i⟩:=r st j y a w h1 hr b (.inLoop g::k) cs;subst C;cases y with
   | normal=>obtain⟨D,B,z,u,l⟩:=ih j a1 w1 h2 q;exact⟨D,B,z,u,.of_steps (Steps.trans i (.one step_inLoop)) l⟩
   | exit id=>simp only[Ii,Ih]at h2;obtain⟨rfl,rfl⟩:=h2;exact⟨_,a1,w1,⟨rfl,q⟩,.pass (x:=.inLoop g) rfl (λ_ _=>.inl (by simp[XE.ex])) i⟩
   | ret=>simp only[Ii,Ih]at h2;obtain⟨rfl,rfl⟩:=h2;exact⟨_,a1,w1,⟨rfl,q⟩,.pass (x:=.inLoop g) rfl (λ_ _=>.inl (by simp[XE.ex])) i⟩
 obtain⟨e,a',w',A,i⟩:=s n st a w h hr;exact⟨e,a',w',A,.of_steps (.one step_loop) i⟩
def b5i{P:Program}{c:Ctx}{T:ZO}(z:YC P T)(s:P.follows .mixedOrders=true){k n:Nat}(C : ∀ i m,k<=i->c.μ0 i m=none): ∀ {cd:Code} {ic:IC},Tr P cd ic-> ∀ {st st':St} {x:XE} {a:Act} {w:World},W9 T k n ic st=some (x,st')->VL c st a w ->
  cd.wp P (λe a' w'=>e=x.ex∧VL c st' a' w') a w:=by
 intro cd ic h
 induction h with
 | skip=>intro st st' x a w h hr;simp only[W9,Ii,Ih]at h;obtain⟨rfl,rfl⟩:=h;exact wp_skip ⟨rfl,hr⟩
 | label l=>intro st st' x a w h hr;simp only[W9,Ii,Ih]at h;obtain⟨rfl,rfl⟩:=h;exact wp_label ⟨rfl,hr⟩
 | reg id ops draw ps deps hps hd hd'=>intro st st' x a w h hr;simp only[W9,Cm]at h;obtain⟨j,h1,h2⟩:=h;simp only[Ih]at h2;obtain⟨rfl,rfl⟩:=h2;exact f3g z s hps hd hd' hr h1 (λa w hr=>⟨rfl,hr⟩)
 | seq h k' ih1 ih2=>
  intro st st' x a w h hr;simp only[W9,Ib]at h;obtain⟨⟨y,j⟩,h1,h2⟩:=h;refine wp_seq (wp_mono (ih1 h1 hr) ?_);rintro e D E ⟨rfl,b⟩;cases y with
  | normal=>exact ih2 h2 b
  | exit id=>simp only[Ii,Ih]at h2;obtain⟨rfl,rfl⟩:=h2;exact⟨rfl,b⟩
  | ret=>simp only[Ii,Ih]at h2;obtain⟨rfl,rfl⟩:=h2;exact⟨rfl,b⟩
 | cond hc h k' ih1 ih2=>
  intro st st' x a w h hr;simp only[W9]at h;have g:=Yj hr.choose_spec.choose_spec.2.1 hc;split at h
  ·rename_i hb;rw[hb]at g;have r:=Xa g;generalize u:a.eval _=q at r;cases r;exact wp_cond_true u (ih1 h hr)
  ·rename_i hb;rw[hb]at g;have r:=Xa g;generalize u:a.eval _=q at r;cases r;exact wp_cond_false u (ih2 h hr)
  ·cases h
 | @block id a' x' h ih=>
  intro st st' x a w h hr;simp only[W9,Cm]at h;obtain⟨⟨y,j⟩,h1,h2⟩:=h;simp only[Ih]at h2;obtain⟨rfl,rfl⟩:=h2;refine wp_block (wp_mono (ih h1 hr) ?_);rintro e D E ⟨rfl,b⟩;cases y with
  | normal=>exact⟨by simp[XE.ex],b⟩
  | exit id'=>
   by_cases e:id'=id
   ·subst e;simp[XE.ex,Exit.inBlock];exact b
   ·have : ¬ XE.exit id'=XE.exit id:=λh=>e (by cases h;rfl)
    simp only[this,if_false,XE.ex,Exit.inBlock,e];exact⟨trivial,b⟩
  | ret=>exact⟨by simp[XE.ex],b⟩
 | loop h ih=>intro st st' x a w h hr;simp only[W9]at h;refine h4i (λst j y a w h1 b=> ?_) n st a w h hr;simp only[Ib]at h1;obtain⟨st2,A,B⟩:=h1;exact ih B (d7l C b A)
 | exit id=>intro st st' x a w h hr;simp only[W9,Ii,Ih]at h;obtain⟨rfl,rfl⟩:=h;exact wp_exit ⟨rfl,hr⟩
 | ret=>intro st st' x a w h hr;simp only[W9,Ii,Ih]at h;obtain⟨rfl,rfl⟩:=h;exact wp_ret ⟨rfl,hr⟩
end Go.Pl
