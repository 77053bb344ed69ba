/-
  Lemmas for the law PrinterParens, for every input.
-/
import Derived.Below
import Derived.Laws.CopyRow
import Derived.Laws.Concat
import Derived.Laws.AppendOwn
import Derived.Laws.MakeOwn
import Derived.WalkSpells
import Derived.Laws.StructEq
import Derived.ArgAppend
import Derived.Lib.AppendStr
import Derived.Lib.ConvBytes
import Derived.Laws.BytesString
import Derived.Laws.BytesArg
import Derived.Laws.IdiomStrings
import Derived.Orders
open Array renaming getElem?_eq_getElem->Ii,getD_eq_getD_getElem?->Iq,getElem?_eq_some_iff->Iy,length_toList->I6,getElem?_setIfInBounds_ne->aH,getElem?_setIfInBounds_self_of_lt->aV,getElem?_toList->au,getElem?_modify->ax,toList_zipIdx->bG,foldl_toList->bO,getElem?_map->bQ,toList_setIfInBounds->bV,getElem?_eq_none->cz,range->dF,toList_append->dn,toList_push->eP,all_eq_true->eX
open BitVec renaming ofInt->aD
open Bool renaming and_eq_true->Ie,false_eq_true->IL,or_eq_true->bA,not_eq_true'->eU
open Go renaming undef->aQ,sizeOf->eO
open Go.Builtin renaming append_->Iu,len_->aG,lenOf->aU,firstCells->eG,max_->fU,min_->fV
open Go.ByteArray renaming toList_eq->bF
open Go.Instr renaming sliceBounds->IV,indexAt->aI,sureAddr->aP,sliceAt->aS,findNow->aT,index->bM,fieldAt->bU,loadAt->bg,buildSlice->bu,mapUpdate->cu,slice->dD,build->dE,checkKey->dI,sameBits->dJ,fill->dP,extract->dW,storeAt->dX,sameNow->dY,keyThatStays->eF,field->eZ,sliceBound->fD,findKey->fQ,alloc->fq,box->gH
open Go.Lib renaming strCells->IE,strCells_length->IW,bytesWorld->bJ,run_firstCells_string->bY,bytesCells->dL,bytesWorld_at_old->dN,strCells_oneCell->dS
open Go.Op renaming equalIn->aJ,equal->bI,bytesLess->bf,intArith->dA,eqFields->dB,intDiv->gG
open Go.Region renaming binds->bC,ready->bz,wanted->dh
open Go.Result renaming andThen_ok->Ik
open Go.Sem renaming run_bind->Ig,run_pure->IZ,run->gB
open Go.Value renaming cells->aL,int->ak,oneCell'->fJ
open Go.World renaming freeze->aa,cell?->bL,alloc_eq->dM,drew_eq->dZ,alloc->ek,drew->fI,frozen?->fP
open List renaming getElem?_eq_getElem->Ia,getElem?_eq_some_iff->Ic,mem_append->Ih,getElem?_map->Ij,length_append->Ip,getElem?_take->Ir,mem_of_getElem?->Iz,getElem?_drop->IA,replicate->IB,map_cons->IJ,mem_of_mem_drop->IM,mem_of_mem_take->IP,getElem?_append_left->IQ,length_cons->IR,mem_map->IU,take_of_length_le->IX,mem_cons->IY,ext_getElem?->I1,getElem_of_mem->I4,toList_toArray->I5,getD->I7,getElem?_append_right->I9,drop_eq_getElem_cons->aB,map_append->aK,eq_nil_of_length_eq_zero->aM,getElem?_eq_none->aN,drop_take->aO,all_eq_true->aR,eq_of_mem_replicate->aZ,toArray->ae,getElem?_set->ah,size_toArray->ai,length_drop->aj,getElem?_append->az,append_nil->bB,mem_filter->bD,take_append_of_le_length->bE,map_congr_left->bH,mem_zipIdx_iff_getElem?->bK,pairwise_cons->bT,flatMap_cons->bW,range->bX,getElem?_eq_none_iff->bZ,zipIdx_cons->bq,mem_flatMap->bv,idxOf?_eq_none_iff->cB,length_set->cZ,drop_eq_nil_of_le->dC,sublist_cons_self->dG,take_take->dH,singleton_append->dK,range_eq_range'->dQ,getElem?_zipIdx->dR,getElem?_set_ne->dU,pairwise_append->dV,take_succ_cons->di,flatMap_append->dw,mem_singleton->eD,nodup_append->eQ,append_assoc->eT,length->ed,drop_append->fA,take_append->fB,getElem_mem->fC,getElem_inj->fE,length_nil->fH,take_left->fK,drop_zero->fM,mem_range->fO,map_nil->fT,map_map->fe,map->gK
open List.cons renaming injEq->cO
open Nat renaming le_refl->Iw,mul_le_mul_right->IG,add_mul->II,le_trans->IK,add_assoc->I8,zero_le->aC,one_mul->aW,lt_of_lt_of_le->aY,mul_one->bN,add_zero->bi,zero_mul->bn,min_eq_left->cK,zero_add->dx,add_comm->dz,lt_or_ge->d9,sub_self->eB,sub_zero->eH,le_of_not_lt->eu
open Ne renaming symm->af
open Option renaming map_eq_some_iff->Cm,bind_eq_some_iff->Ib,isSome_iff_exists->aF,map_some->aX,getD_some->fG
open Option.some renaming injEq->Im,inj->gL
open Prod.mk renaming injEq->Il
set_option linter.unusedVariables false
set_option linter.unusedSimpArgs false
set_option linter.defProp false
abbrev eY:=@decide_eq_true
abbrev fo:=@if_neg
abbrev fu:=@decide_eq_true_eq
abbrev fw:=@if_pos
abbrev fF:=@decide_eq_false
abbrev fZ:=@of_decide_eq_true
abbrev gm:=@beq_iff_eq
abbrev gp:=@if_false
abbrev gq:=@if_true
abbrev gu:=@decide_eq_false_iff_not
abbrev gy:=@beq_self_eq_true
abbrev gz:=@of_decide_eq_false
abbrev gD:=@not_or
abbrev gF:=@beq_eq_false_iff_ne
abbrev gI:=@or_false
abbrev gJ:=@true_and
abbrev gM:=@not_true_eq_false
abbrev gN:=@beq_false_of_ne
abbrev gP:=@cond_false
abbrev gQ:=@decide_false
abbrev gT:=@and_false
abbrev gU:=@dif_pos
abbrev gV:=@dif_neg
abbrev gX:=@false_and
abbrev gY:=@cond_true
abbrev gZ:=@ge_iff_le
abbrev ib:=@and_true
abbrev ig:=@and_assoc
abbrev ik:=@decide_true
namespace Go.Pl
def a3f(cs:Array Value):Prop:= ∃ v,cs[0]? = some v∧(v = .nilIface ∨ ∃ t p,v = .iface t p)
def a1j:Array Value:=((bX 20).map λi=>ak .u64 ((10 ^ i:Nat):Int)).toArray
structure GlobOK (Φ:Nat->Option (Array Value)):Prop where
 syn : ∃ cs,Φ 2=some cs∧a3f cs
 rng : ∃ cs,Φ 3=some cs∧a3f cs
 pow:Φ 0=some a1j
 mx : ∃ cs m,Φ 1=some cs∧cs[0]? = some (ak .i64 m)
def GlobOK.mono{Φ Φ':Nat->Option (Array Value)}(h:GlobOK Φ)(k : ∀ b cs,Φ b=some cs->Φ' b=some cs):GlobOK Φ':=by obtain⟨⟨a,h1,h2⟩,⟨b,h3,e⟩,h5,d,m,h6,h7⟩:=h;exact⟨⟨a,k _ _ h1,h2⟩,⟨b,k _ _ h3,e⟩,k _ _ h5,d,m,k _ _ h6,h7⟩
open Go.RowKit
inductive PV where
 | bool (b:Bool)|int (k:IntKind) (n:Int)|str (s:List UInt8)
 | sl (sz:Nat) (t:Bool) (xs:List PV)
 | agg (xs:List PV)|tup (xs:List PV)
 | nilp|nilmap|nilfn|nili|ifc
 | fn (f:Nat)
 | rptr (xs:List PV)
 | raw (v:Value)
 deriving Inhabited
inductive AV where
 | pv (p:PV)|junk|undef
 | agg (xs:List AV)|tup (xs:List AV)
 | ptr (l o:Nat)|row (l n lo hi:Nat)|eptr (l n i o:Nat)|map (l:Nat)
 | fn (f:Nat) (fst cap:List AV)
 | yld (l:Nat)
 deriving Inhabited
inductive AObj where
 | box (xs:List AV)
 | row (fz:Bool) (ty sz:Nat) (xs:List PV)
 | map (es:List (PV×PV))
 deriving Inhabited
inductive Slot where
 | fresh|dead|obj (o:AObj)
 deriving Inhabited
abbrev ZC:=List Slot
inductive HM (α:Type) where
 | ret (a:α)
 | fail
 | get (l:Nat) (k:AObj->HM α)
 | put (l:Nat) (o:AObj) (k:HM α)
 | new (l:Nat) (o:AObj) (k:HM α)
 | ask (b:Bool) (k:Bool->HM α)
 | req (b:Bool) (k:HM α)
def HM.bind{α β:Type}:HM α->(α->HM β)->HM β
 | .ret a,f=>f a
 | .fail,_=>.fail
 | .get l k,f=>.get l λo=>(k o).bind f
 | .put l o k,f=>.put l o (k.bind f)
 | .new l o k,f=>.new l o (k.bind f)
 | .ask b k,f=>.ask b λd=>(k d).bind f
 | .req b k,f=>.req b (k.bind f)
def HM.run{α:Type}:HM α->ZC->Option (α×ZC)
 | .ret a,σ=>some (a,σ)
 | .fail,_=>none
 | .get l k,σ=>match σ[l]? with|some (.obj o)=>(k o).run σ|_=>none
 | .put l o k,σ=>match σ[l]? with|some (.obj _)=>k.run (σ.set l (.obj o))|_=>none
 | .new l o k,σ=>match σ[l]? with|some .fresh=>k.run (σ.set l (.obj o))|_=>none
 | .ask b k,σ=>(k b).run σ
 | .req b k,σ=>match b with|true=>k.run σ|false=>none
def HM.ofOpt{α:Type}:Option α->HM α
 | some a=>.ret a
 | none=>.fail
def HM.run_bind{α β:Type}(m:HM α)(f:α->HM β): ∀ σ,(m.bind f).run σ=(m.run σ).bind λp=>(f p.1).run p.2:=by
 induction m with
 | ret a=>intro σ;rfl
 | fail=>intro σ;rfl
 | get l k ih=>intro σ;simp only[HM.bind,HM.run];split <;> simp_all
 | put l o k ih=>intro σ;simp only[HM.bind,HM.run];split <;> simp_all
 | new l o k ih=>intro σ;simp only[HM.bind,HM.run];split <;> simp_all
 | ask b k ih=>intro σ;simp only[HM.bind,HM.run];exact ih b σ
 | req b k ih=>intro σ;cases b <;> simp_all[HM.bind,HM.run]
def PV.cells:PV->List PV
 | .agg xs=>xs
 | p=>[p]
def AV.cells:AV->List AV
 | .pv (.agg xs)=>xs.map .pv
 | .agg xs=>xs
 | x=>[x]
def flat(xs:List PV):List PV:=xs.flatMap PV.cells
abbrev Yk:=Nat->Option (Array Value)
abbrev Mu:=Nat->Nat->Option (Nat×Nat×Nat)
inductive RP (Φ:Yk):Value->PV->Prop
 | bool (b:Bool):RP Φ (.bool b) (.bool b)
 | int (k:IntKind) (n:Int):RP Φ (.int k n) (.int k n)
 | str (s:ByteArray):RP Φ (.string s) (.str s.data.toList)
 | sl0 (a:Option Addr) (c sz:Nat) (t:Bool) (h:t->c=0):RP Φ (.slice a 0 c) (.sl sz t [])
 | sl (b off:Nat) (cs:Array Value) (c sz:Nat) (t:Bool) (xs:List PV) (u:Nat->Value) (hb:Φ b=some cs) (hc:xs.length<=c) (ht:t->c=xs.length)
   (hs : ∀ x∈xs,x.cells.length=sz) (hu : ∀ (j:Nat) p,(flat xs)[j]? = some p->cs[off+j]? = some (u j)∧(u j).oneCell') (hr : ∀ (j:Nat) p,(flat xs)[j]? = some p->RP Φ (u j) p) :
   RP Φ (.slice (some ⟨b,off,none⟩) xs.length c) (.sl sz t xs)
 | agg (cs:Array Value) (xs:List PV) (hn:cs.size=xs.length) (ho : ∀ v∈cs,v.oneCell') (h : ∀ (j:Nat) v x,cs[j]? = some v->xs[j]? = some x->RP Φ v x):RP Φ (.agg cs) (.agg xs)
 | tup (cs:Array Value) (xs:List PV) (hn:cs.size=xs.length) (h : ∀ (j:Nat) v x,cs[j]? = some v->xs[j]? = some x->RP Φ v x):RP Φ (.tuple cs) (.tup xs)
 | nilp:RP Φ (.pointer none) .nilp
 | nilmap:RP Φ (.map none) .nilmap
 | nilfn:RP Φ .nilFunc .nilfn
 | nili:RP Φ .nilIface .nili
 | ifc (t:TypeId) (v:Value):RP Φ (.iface t v) .ifc
 | fn (f:Nat):RP Φ (.func (.func f) #[] #[]) (.fn f)
 | rptr (b off:Nat) (cs:Array Value) (xs:List PV) (u:Nat->Value) (hb:Φ b=some cs) (hu : ∀ (j:Nat) p,xs[j]? = some p->cs[off+j]? = some (u j)∧(u j).oneCell') (hr : ∀ (j:Nat) p,xs[j]? = some p->RP Φ (u j) p) :
   RP Φ (.pointer (some ⟨b,off,none⟩)) (.rptr xs)
 | raw (v:Value) (h:v.oneCell'):RP Φ v (.raw v)
inductive R (μ:Mu) (Φ:Yk):Value->AV->Prop
 | pv (v:Value) (p:PV) (h:RP Φ v p):R μ Φ v (.pv p)
 | junk (v:Value):R μ Φ v .junk
 | undef:R μ Φ undef .undef
 | agg (cs:Array Value) (xs:List AV) (hn:cs.size=xs.length) (ho : ∀ v∈cs,v.oneCell') (h : ∀ (j:Nat) v x,cs[j]? = some v->xs[j]? = some x->R μ Φ v x):R μ Φ (.agg cs) (.agg xs)
 | tup (cs:Array Value) (xs:List AV) (hn:cs.size=xs.length) (h : ∀ (j:Nat) v x,cs[j]? = some v->xs[j]? = some x->R μ Φ v x):R μ Φ (.tuple cs) (.tup xs)
 | ptr (l o B C S:Nat) (h:μ l 0=some (B,C,S)):R μ Φ (.pointer (some ⟨B,o,none⟩)) (.ptr l o)
 | row (l n lo hi B C S:Nat) (a:Option Addr) (h:μ l n=some (B,C,S)) (h1:lo<=hi) (h2:hi<=n) (h3:n<=C) (ha:lo<hi∨lo=0->a=some ⟨B,lo*S,none⟩):R μ Φ (.slice a (hi - lo) (C - lo)) (.row l n lo hi)
 | eptr (l n i o B C S:Nat) (h:μ l n=some (B,C,S)):R μ Φ (.pointer (some ⟨B,i*S+o,none⟩)) (.eptr l n i o)
 | map (l B C S:Nat) (h:μ l 0=some (B,C,S)):R μ Φ (.map (some B)) (.map l)
 | fn (f:Nat) (cs ds:Array Value) (xs ys:List AV) (hn:cs.size=xs.length) (hm:ds.size=ys.length) (h : ∀ (j:Nat) v x,cs[j]? = some v->xs[j]? = some x->R μ Φ v x) (k : ∀ (j:Nat) v x,ds[j]? = some v->ys[j]? = some x->R μ Φ v x) :
   R μ Φ (.func (.func f) cs ds) (.fn f xs ys)
 | yld (l:Nat):R μ Φ (.func (.yield l) #[] #[]) (.yld l)
def Yk.le(Φ Φ':Yk):Prop:= ∀ b cs,Φ b=some cs->Φ' b=some cs
def Mu.le(μ μ':Mu):Prop:= ∀ l n x,μ l n=some x->μ' l n=some x
def Yk.le.refl(Φ:Yk):Φ.le Φ:=λ_ _ h=>h
def Yk.le.trans{a b c:Yk}(h:a.le b)(k:b.le c):a.le c:=λx y e=>k _ _ (h _ _ e)
def Mu.le.refl(μ:Mu):μ.le μ:=λ_ _ _ h=>h
def Mu.le.trans{a b c:Mu}(h:a.le b)(k:b.le c):a.le c:=λx y z e=>k _ _ _ (h _ _ _ e)
def RP.mono{Φ Φ':Yk}(e:Φ.le Φ'){v:Value}{p:PV}(h:RP Φ v p):RP Φ' v p:=by
 induction h with
 | bool b=>exact .bool b
 | int k n=>exact .int k n
 | str s=>exact .str s
 | sl0 a c sz t h=>exact .sl0 a c sz t h
 | sl b off cs c sz t xs u hb hc ht hs hu hr ih=>exact .sl b off cs c sz t xs u (e _ _ hb) hc ht hs hu ih
 | agg cs xs hn ho h ih=>exact .agg cs xs hn ho ih
 | tup cs xs hn h ih=>exact .tup cs xs hn ih
 | nilp=>exact .nilp
 | nilmap=>exact .nilmap
 | nilfn=>exact .nilfn
 | nili=>exact .nili
 | ifc t v=>exact .ifc t v
 | fn f=>exact .fn f
 | rptr b off cs xs u hb hu hr ih=>exact .rptr b off cs xs u (e _ _ hb) hu ih
 | raw v h=>exact .raw v h
def R.mono{μ μ':Mu}{Φ Φ':Yk}(b:μ.le μ')(e:Φ.le Φ'){v:Value}{x:AV}(h:R μ Φ v x):R μ' Φ' v x:=by
 induction h with
 | pv v p h=>exact .pv v p (h.mono e)
 | junk v=>exact .junk v
 | undef=>exact .undef
 | agg cs xs hn ho h ih=>exact .agg cs xs hn ho ih
 | tup cs xs hn h ih=>exact .tup cs xs hn ih
 | ptr l o B C S h=>exact .ptr l o B C S (b _ _ _ h)
 | row l n lo hi B C S a h h1 h2 h3 ha=>exact .row l n lo hi B C S a (b _ _ _ h) h1 h2 h3 ha
 | eptr l n i o B C S h=>exact .eptr l n i o B C S (b _ _ _ h)
 | map l B C S h=>exact .map l B C S (b _ _ _ h)
 | fn f cs ds xs ys hn hm h k ih1 ih2=>exact .fn f cs ds xs ys hn hm ih1 ih2
 | yld l=>exact .yld l
def RL(μ:Mu)(Φ:Yk)(cs:List Value)(xs:List AV):Prop:=cs.length=xs.length∧ ∀ (j:Nat) v x,cs[j]? = some v->xs[j]? = some x->R μ Φ v x
def Un(Φ:Yk)(cs:List Value)(xs:List PV):Prop:=cs.length=xs.length∧ ∀ (j:Nat) v x,cs[j]? = some v->xs[j]? = some x->RP Φ v x
def XZ(cs:List Value):Prop:= ∀ v∈cs,v.oneCell'
def b3e(b:Array MapEntry)(a:Nat):Prop:=(∀ x∈b.toList,x.born<a)∧(b.toList.map (·.born)).Nodup
def QP(w:World)(B:Nat)(cs:Array Value)(ty n C:Nat):Prop:= ∃ z,w.heap[B]? = some (.cells cs ty z)∧(z=(0,0)∨ty=5∧cs.size<=z.1)
def QP.eq{w w':World}{B:Nat}{cs:Array Value}{ty n C:Nat}(h:QP w B cs ty n C)(e:w'.heap[B]? = w.heap[B]?):QP w' B cs ty n C:=by obtain⟨z,h1,h2⟩:=h;exact⟨z,e.trans h1,h2⟩
def QP.of{w:World}{B:Nat}{cs:Array Value}{ty n C:Nat}(h:w.heap[B]? = some (.cells cs ty (0,0))):QP w B cs ty n C:=⟨_,h,.inl rfl⟩
def Dn(μ:Mu)(Φ:Yk)(w:World)(l:Nat):AObj->Prop
 | .box xs=> ∃ B C S T cs,μ l 0=some (B,C,S)∧w.heap[B]? = some (.cells cs T (0,0))∧RL μ Φ cs.toList xs∧XZ cs.toList∧Φ B=none
 | .row fz ty sz xs=> ∃ B C cs,μ l xs.length=some (B,C,sz)∧(∀ n,xs.length<n->μ l n=none)∧QP w B cs ty xs.length C∧cs.size=C*sz∧xs.length<=C∧C<=maxLen∧(∀ x∈xs,x.cells.length=sz) ∧
   Un Φ (cs.toList.take (xs.length*sz)) (flat xs)∧XZ (cs.toList.take (xs.length*sz))∧Φ B=(if fz then some cs else none)
 | .map es=> ∃ B C S b a,μ l 0=some (B,C,S)∧w.heap[B]? = some (.map b a)∧b.size=es.length ∧
   (∀ (j:Nat) e p,b[j]? = some e->es[j]? = some p->RP Φ e.key p.1∧RP Φ e.val p.2)∧Φ B=none∧b3e b a
def blk(μ:Mu)(l:Nat)(o:AObj):Nat:=
 match μ l (match o with | .row _ _ _ xs=>xs.length|_=>0)with
 | some (B,_,_)=>B
 | none=>0
def UL(Φ:Yk)(w:World):Prop:= ∀ b cs,Φ b=some cs-> ∃ T fz,w.heap[b]? = some (.cells cs T fz)
structure Ctx where
 w0:World
 own:Nat->Prop
 Φ0:Yk
 μ0:Mu
structure Good (c:Ctx) (μ:Mu) (Φ:Yk) (σ:ZC) (w:World):Prop where
 phi:UL Φ w
 obj : ∀ l o,σ[l]? = some (.obj o)->Dn μ Φ w l o
 apart : ∀ l l' o o',l≠l'->σ[l]? = some (.obj o)->σ[l']? = some (.obj o')->blk μ l o≠blk μ l' o'
 fresh : ∀ l n,(σ[l]? = none∨σ[l]? = some .fresh)->μ l n=none
 own : ∀ l o,σ[l]? = some (.obj o)->c.w0.heap.size<=blk μ l o∨c.own (blk μ l o)
 os:w.os=c.w0.os
 tape:w.tape=c.w0.tape
 output:w.output=c.w0.output
 size:c.w0.heap.size<=w.heap.size
 frame : ∀ b,b<c.w0.heap.size-> ¬ c.own b->w.heap[b]? = c.w0.heap[b]?
 Φle:c.Φ0.le Φ
 μle:c.μ0.le μ
 dom : ∀ b cs,Φ b=some cs->c.Φ0 b=some cs∨c.w0.heap.size<=b∨c.own b
 laid:GlobOK c.Φ0
structure St where
 env:List AV
 heap:ZC
def Wy(μ:Mu)(Φ:Yk)(tmps:Array Value)(env:List AV):Prop:=RL μ Φ tmps.toList env
def UK(c:Ctx)(st:St)(a:Act)(w:World):Prop:=∃ μ Φ,Good c μ Φ st.heap w∧Wy μ Φ a.tmps st.env∧a.defers=[]
section
inductive IOp where
 | t (n:Nat)|c (p:PV)
 deriving Inhabited
def ev(env:List AV):IOp->AV
 | .t n=>env.getD n .undef
 | .c p=>.pv p
inductive Kd where
 | num|bool|ptr|ifc|agg (ks:List Nat)
 deriving Inhabited,DecidableEq
inductive Sh where
 | int (k:IntKind)|str|bool|sl (sz:Nat)|any
 deriving Inhabited
def PV.asInt:PV->Int | .int _ n=>n|_=>0
def PV.asStr:PV->List UInt8 | .str s=>s|_=>[]
def PV.asBool:PV->Bool | .bool b=>b|_=>false
def PV.asXs:PV->List PV | .sl _ _ xs=>xs|_=>[]
def PV.asT:PV->Bool | .sl _ t _=>t|_=>false
def Sh.fit:Sh->PV->Bool
 | .int k,.int k' _=>k==k'
 | .str,.str _=>true
 | .bool,.bool _=>true
 | .sl sz,.sl sz' _ xs=>sz'==sz||xs.isEmpty
 | .any,_=>true
 | _,_=>false
def Sh.co:Sh->PV->PV
 | .int k,p=>.int k p.asInt
 | .str,p=>.str p.asStr
 | .bool,p=>.bool p.asBool
 | .sl sz,p=>.sl sz p.asT p.asXs
 | .any,p=>p
inductive POp where
 | mv (x:IOp)
 | pick (c a b:IOp)
 | box (n:Nat) (x:IOp)
 | alloc (z:PV)
 | build (z:List PV) (ps:List (Nat×Nat×IOp))
 | bslice (ty sz n:Nat) (z:PV) (ps:List (Nat×IOp))
 | load (ag:Bool) (shs:List Sh) (x:IOp)
 | store (n:Nat) (x v:IOp)
 | nilchk (x:IOp)
 | bin (kd:Kd) (op:BinOp) (x y:IOp)
 | mm (mx:Bool) (x y:IOp)
 | un (op:UnOp) (x:IOp)
 | conv (k:IntKind) (x:IOp)
 | mkfn (f:Nat) (fst cap:List IOp)
 | mkmap
 | mksl (ty sz by_:Nat) (z:PV) (l c:IOp)
 | strslc (x:IOp) (lo hi:Option IOp)
 | slc (sz:Nat) (x:IOp) (lo hi mx:Option IOp)
 | faddr (off:Nat) (x:IOp)
 | field (ag:Bool) (off n:Nat) (x:IOp)
 | iaddr (sz:Nat) (x i:IOp)
 | index (x i:IOp)
 | mapupd (st:Bool) (m k v:IOp)
 | extract (x:IOp) (i:Nat)
 | len (k:Nat) (x:IOp)
 | strid (x:IOp)
 | append (ty sz by_:Nat) (x y:IOp)
 | apps (ty sz by_:Nat) (x y:IOp)
 | sbytes (x:IOp)
 | sslice (x:IOp)
 | bstr (x:IOp)
 | indexA (n sz:Nat) (x i:IOp)
 | call (f:IOp) (xs:List IOp)
 deriving Inhabited
inductive Den where
 | pure (pre:List PV->Bool) (val:List PV->PV)
 | own (pre:List AV->List AObj->Bool) (val:List AV->List AObj->AV×List AObj×List AObj)
abbrev ZH:=Nat->Option Den
mutual
def frz:AV->HM PV
 | .pv p=>.ret p
 | .row l n lo hi=>.get l fun
  | .row _ ty sz xs=>HM.req (xs.length==n) (.put l (.row true ty sz xs) (.ret (.sl sz false ((xs.take hi).drop lo))))
  | _=>.fail
 | .agg xs=>(Jg xs).bind λps=>.ret (.agg ps)
 | .tup xs=>(Jg xs).bind λps=>.ret (.tup ps)
 | .fn f [] []=>.ret (.fn f)
 | _=>.fail
def Jg:List AV->HM (List PV)
 | []=>.ret []
 | x::xs=>(frz x).bind λp=>(Jg xs).bind λps=>.ret (p::ps)
end
def AV.one:AV->Bool
 | .pv (.agg _) | .pv (.tup _) | .agg _ | .tup _ | .junk | .undef=>false
 | _=>true
def PV.one:PV->Bool
 | .agg _ | .tup _=>false
 | _=>true
def AV.cellsOk:AV->Bool
 | .pv (.tup _) | .tup _ | .junk | .undef=>false
 | _=>true
def PV.cellsOk:PV->Bool
 | .tup _=>false
 | _=>true
def e1v:List AV->Option (List PV)
 | []=>some []
 | .pv p::xs=>(e1v xs).map (p:: ·)
 | _::_=>none
def d7o(xs:List AV):AV:=
 match e1v xs with
 | some ps=>.pv (.agg ps)
 | none=>.agg xs
def splice{α:Type}(cs:List α)(o:Nat)(vs:List α):List α:=cs.take o++vs++cs.drop (o+vs.length)
def OC:List AV->List (Nat×Nat×AV)->Option (List AV)
 | cs,[]=>some cs
 | cs,(o,n,v)::r=>if v.cells.length=n∧o+n<=cs.length∧v.cellsOk then OC (splice cs o v.cells) r else none
def j3h(op:BinOp)(x y:Int):Option Bool:=
 match op with
 | .eql=>some (x==y) | .neq=>some (x != y) | .lss=>some (x<y) | .leq=>some (x<=y) | .gtr=>some (x>y) | .geq=>some (x ≥ y)
 | _=>none
def i8o(op:BinOp)(k:IntKind)(x y:Int):Option (Bool×PV):=
 match op with
 | .add=>some (true,.int k (k.wrap (x+y)))
 | .sub=>some (true,.int k (k.wrap (x - y)))
 | .mul=>some (true,.int k (k.wrap (x*y)))
 | .quo=>some (y != 0,.int k (k.wrap (x.tdiv y)))
 | .rem=>some (y != 0,.int k (x.tmod y))
 | .and=>some (true,.int k (k.wrap (aD k.bits x &&& aD k.bits y).toNat))
 | .or=>some (true,.int k (k.wrap (aD k.bits x ||| aD k.bits y).toNat))
 | .xor=>some (true,.int k (k.wrap (aD k.bits x ^^^ aD k.bits y).toNat))
 | .andNot=>some (true,.int k (k.wrap (aD k.bits x &&& ~~~aD k.bits y).toNat))
 | op=>(j3h op x y).map λb=>(true,.bool b)
def c8s(op:BinOp)(k:IntKind)(x y:Int):Option (Bool×PV):=
 match op with
 | .shl=>some (decide (0<=y),.int k (k.wrap (x*2 ^ (min y.toNat k.bits))))
 | .shr=>some (decide (0<=y),.int k (x.fdiv (2 ^ (min y.toNat k.bits))))
 | _=>none
def i3t(op:BinOp)(x y:List UInt8):Option (Bool×PV):=
 match op with
 | .add=>some (decide (x.length+y.length<=1099511627776),.str (x++y))
 | .eql=>some (true,.bool (x==y))
 | .neq=>some (true,.bool (!(x==y)))
 | .lss=>some (true,.bool (bf x y))
 | .leq=>some (true,.bool (bf x y||x==y))
 | .gtr=>some (true,.bool (!(bf x y||x==y)))
 | .geq=>some (true,.bool (!(bf x y)))
 | _=>none
def eqB(op:BinOp)(r:Bool):Option (Bool×PV):=match op with | .eql=>some (true,.bool r) | .neq=>some (true,.bool (!r))|_=>none
def d7g:BinOp->Bool
 | .shl | .shr=>true
 | _=>false
def R9:IntKind->IntKind->Bool
 | .i8,.i8 | .i16,.i16 | .i32,.i32 | .i64,.i64 | .u8,.u8 | .u16,.u16 | .u32,.u32 | .u64,.u64=>true
 | _,_=>false
def Cx:PV->Bool
 | .nili=>true
 | _=>false
def a7y:PV->Bool
 | .nili | .ifc=>true
 | _=>false
def eqL:List Nat->List PV->List PV->Option Bool
 | [],[],[]=>some true
 | 0::ks,.int k a::ps,.int k' b::qs=>match R9 k k' with|true=>(eqL ks ps qs).map λr=>a==b&&r|false=>none
 | 1::ks,.str a::ps,.str b::qs=>(eqL ks ps qs).map λr=>a==b&&r
 | 2::ks,.bool a::ps,.bool b::qs=>(eqL ks ps qs).map λr=>a==b&&r
 | _,_,_=>none
def j3a(kd:Kd)(op:BinOp)(x y:AV):Option (Bool×PV):=
 match kd,x,y with
 | .num,.pv (.int k a),.pv (.int k' b)=>
  match d7g op with
  | true=>c8s op k a b
  | false=>match R9 k k' with|true=>i8o op k a b|false=>none
 | .num,.pv (.str a),.pv (.str b)=>i3t op a b
 | .bool,.pv (.bool a),.pv (.bool b)=>eqB op (a==b)
 | .ptr,.pv .nilp,.pv .nilp=>eqB op true
 | .ptr,.ptr _ _,.pv .nilp=>eqB op false
 | .ptr,.pv (.rptr _),.pv .nilp=>eqB op false
 | .ifc,.pv p,.pv .nili=>(eqB op (Cx p)).map λq=>(a7y p&&q.1,q.2)
 | .agg ks,.pv (.agg ps),.pv (.agg qs)=>(eqL ks ps qs).bind λr=>eqB op r
 | _,_,_=>none
def unB(op:UnOp)(x:PV):Option PV:=
 match op,x with
 | .not,.bool b=>some (.bool (!b))
 | .neg,.int k n=>some (.int k (k.wrap (-n)))
 | _,_=>none
def bnd(env:List AV)(d:Nat):Option IOp->Option (Bool×Nat)
 | none=>some (true,d)
 | some x=>match ev env x with
  | .pv (.int _ i)=>some (decide (0<=i),i.toNat)
  | _=>none
def PV.isKey(st:Bool):PV->Bool
 | .str _=>st
 | .int _ _=> !st
 | _=>false
def a5n:PV->PV->Option Bool
 | .int k a,.int k' b=>if k=k' then some (a==b)else none
 | .str a,.str b=>some (a==b)
 | _,_=>none
def upd(k v:PV):List (PV×PV)->Option (List (PV×PV))
 | []=>some [(k,v)]
 | (a,u)::r=>match a5n k a with
  | some true=>some ((k,v)::r)
  | some false=>(upd k v r).map ((a,u):: ·)
  | none=>none
def d8s(k v:PV)(es:List (PV×PV)):Bool:=(upd k v es).isSome
def c8b(k v:PV)(es:List (PV×PV)):List (PV×PV):=(upd k v es).getD []
def a5l:PV->Bool
 | .int .u8 n=>decide (0<=n)&&decide (n<256)
 | _=>false
def Zr(s:List UInt8):List PV:=s.map λc=>.int .u8 c.toNat
def V5(xs:List PV):List UInt8:=xs.map λp=>UInt8.ofNat p.asInt.toNat
def Ni(ag:Bool)(n:Nat)(cs:List AV)(o:Nat):Option AV:=
 match ag with
 | true=>if o+n<=cs.length then some (d7o ((cs.drop o).take n))else none
 | false=>cs[o]?
def a3r(ps:List PV):Nat->List Sh->List PV
 | _,[]=>[]
 | o,sh::r=>sh.co (ps.getD o default)::a3r ps (o+1) r
def XG(ps:List PV):Nat->List Sh->Bool
 | _,[]=>true
 | o,sh::r=>sh.fit (ps.getD o default)&&XG ps (o+1) r
def d9j(ag:Bool)(shs:List Sh)(ps:List PV)(o:Nat):HM AV:=
 .req (decide (o+shs.length<=ps.length)&&XG ps o shs)
  (match ag with
  | true=>.ret (.pv (.agg (a3r ps o shs)))
  | false=>match shs with
   | [sh]=>.ret (.pv (sh.co (ps.getD o default)))
   | _=>.fail)
def PV.withCells(x:PV)(cs:List PV):PV:=
 match x with
 | .agg _=>.agg cs
 | x=>cs.headD x
mutual
def AV.refs:AV->List Nat
 | .ptr l _ | .row l _ _ _ | .eptr l _ _ _ | .map l=>[l]
 | .agg xs | .tup xs=>Bj xs
 | .fn _ xs ys=>Bj xs++Bj ys
 | _=>[]
def Bj:List AV->List Nat
 | []=>[]
 | x::xs=>x.refs++Bj xs
end
mutual
def AV.ren(ρ:Nat->Option Nat):AV->Option AV
 | .pv p=>some (.pv p) | .junk=>some .junk | .undef=>some .undef
 | .ptr l o=>(ρ l).map (.ptr · o)
 | .row l n lo hi=>(ρ l).map (.row · n lo hi)
 | .eptr l n i o=>(ρ l).map (.eptr · n i o)
 | .map l=>(ρ l).map .map
 | .agg xs=>(Fp ρ xs).map .agg
 | .tup xs=>(Fp ρ xs).map .tup
 | .fn f xs ys=>(Fp ρ xs).bind λa=>(Fp ρ ys).map λb=>.fn f a b
 | .yld l=>some (.yld l)
def Fp(ρ:Nat->Option Nat):List AV->Option (List AV)
 | []=>some []
 | x::xs=>(x.ren ρ).bind λy=>(Fp ρ xs).map (y:: ·)
end
def AObj.refs:AObj->List Nat
 | .box xs=>Bj xs
 | _=>[]
def AObj.ren(ρ:Nat->Option Nat):AObj->Option AObj
 | .box xs=>(Fp ρ xs).map .box
 | o=>some o
def DV(ρ:Nat->Option Nat):List AObj->Option (List AObj)
 | []=>some []
 | o::os=>(o.ren ρ).bind λo'=>(DV ρ os).map (o':: ·)
def M9{α:Type}:Nat->List Nat->List (Nat×AObj)->(List (Nat×AObj)->HM α)->HM α
 | 0,_,_,_=>.fail
 | _+1,[],acc,k=>k acc
 | n+1,l::ls,acc,k=>if (acc.map (·.1)).contains l then M9 n ls acc k else .get l λo=>M9 n (ls++o.refs) (acc++[(l,o)]) k
def a5e{α:Type}:List (Nat×AObj)->HM α->HM α
 | [],k=>k
 | (l,o)::r,k=>.put l o (a5e r k)
def EH{α:Type}:Nat->List AObj->HM α->HM α
 | _,[],k=>k
 | L,o::r,k=>.new L o (EH (L+1) r k)
def fwd(ls:List Nat)(l:Nat):Option Nat:=ls.idxOf? l
def bwd(ls:List Nat)(L:Nat)(i:Nat):Option Nat:=if i<ls.length then ls[i]? else some (L+(i - ls.length))
def Ns(L:Nat)(pre:List AV->List AObj->Bool)(val:List AV->List AObj->AV×List AObj×List AObj)(args:List AV):HM AV:=
 M9 64 (Bj args) [] λb=>
  let a:=b.map (·.1)
  match Fp (fwd a) args,DV (fwd a) (b.map (·.2))with
  | some args',some XC=>.req (pre args' XC) (match val args' XC with
   | (x,os,ext)=>match x.ren (bwd a L),DV (bwd a L) os,DV (bwd a L) ext with
    | some x',some os',some ext'=>if os'.length=a.length then a5e (a.zip os') (EH L ext' (.ret x'))else .fail
    | _,_,_=>.fail)
  | _,_=>.fail
def d9o(T:ZH)(L:Nat)(g:Nat)(args:List AV):HM AV:=
 match T g with
 | some (.pure pre val)=>(Jg args).bind λps=>.req (pre ps) (.ret (.pv (val ps)))
 | some (.own pre val)=>Ns L pre val args
 | none=>.fail
def BM(L ty sz by_:Nat)(x:AV)(ys:List PV):HM AV:=
 match x with
 | .pv (.sl sz' t xs)=>.req t (.ask ys.isEmpty fun
  | true=>.ret x
  | false=>.req ((xs.isEmpty||sz'==sz)&&decide ((xs.length+ys.length)*by_<=1099511627776)&&decide (xs.length+ys.length<=1099511627776))
    (.new L (.row false ty sz (xs++ys)) (.ret (.row L (xs.length+ys.length) 0 (xs.length+ys.length)))))
 | .row l n 0 hi=>.get l fun
  | .row false ty' sz' xs=>
   if ty'=ty∧sz'=sz then
    .req (xs.length==n&&hi==n&&decide ((n+ys.length)*by_<=1099511627776)&&decide (n+ys.length<=1099511627776))
     (.put l (.row false ty sz (xs++ys)) (.ret (.row l (n+ys.length) 0 (n+ys.length))))
   else .fail
  | _=>.fail
 | _=>.fail
def WW(L:Nat)(env:List AV):POp->HM AV
 | .mv x=>.ret (ev env x)
 | .pick c a b=>match ev env c with
  | .pv (.bool d)=>.ask d fun
   | true=>.ret (ev env a)
   | false=>.ret (ev env b)
  | _=>.fail
 | .box n x=>if (ev env x).cells.length=n∧(ev env x).cellsOk then .new L (.box (ev env x).cells) (.ret (.ptr L 0))else .fail
 | .alloc z=>.new L (.box (AV.pv z).cells) (.ret (.ptr L 0))
 | .build z ps=>match OC (z.map .pv) (ps.map λ(o,n,x)=>(o,n,ev env x))with
  | some cs=>.ret (d7o cs)
  | none=>.fail
 | .bslice ty sz n z ps=>
  if ps.map (·.1)=bX n then
   (Jg (ps.map λ(_,x)=>ev env x)).bind λxs=>.req (xs.all (λx=>x.cells.length==sz&&x.cellsOk)) (.new L (.row false ty sz xs) (.ret (.row L n 0 n)))
  else .fail
 | .load ag shs x=>match ev env x with
  | .pv (.rptr ps)=>d9j ag shs ps 0
  | .ptr l o=>.get l fun
   | .box cs=>.ofOpt (Ni ag shs.length cs o)
   | _=>.fail
  | .eptr l m i o=>.get l fun
   | .row _ _ _ xs=>.req (xs.length==m&&decide (i<xs.length)) (d9j ag shs (xs.getD i default).cells o)
   | _=>.fail
  | _=>.fail
 | .store n x v=>match ev env x with
  | .ptr l o=>.get l fun
   | .box cs=>if (ev env v).cells.length=n∧o+n<=cs.length∧(ev env v).cellsOk then .put l (.box (splice cs o (ev env v).cells)) (.ret .undef)else .fail
   | _=>.fail
  | .eptr l m i o=>(frz (ev env v)).bind λp=>.get l fun
   | .row false ty sz xs=>.req (xs.length==m&&decide (i<xs.length)&&p.cells.length==n&&decide (o+n<=(xs.getD i default).cells.length)&&p.cellsOk)
     (.put l (.row false ty sz (xs.set i ((xs.getD i default).withCells (splice (xs.getD i default).cells o p.cells)))) (.ret .undef))
   | _=>.fail
  | _=>.fail
 | .nilchk x=>match ev env x with
  | .ptr l o=>.ret (.ptr l o)
  | .pv (.rptr ps)=>.ret (.pv (.rptr ps))
  | .eptr l n i o=>.ret (.eptr l n i o)
  | .fn f xs ys=>.ret (.fn f xs ys)
  | .pv (.fn f)=>.ret (.pv (.fn f))
  | _=>.fail
 | .bin kd op x y=>match j3a kd op (ev env x) (ev env y)with
  | some (r,v)=>.req r (.ret (.pv v))
  | none=>.fail
 | .mm mx x y=>match ev env x,ev env y with
  | .pv (.int k a),.pv (.int k' b)=>match R9 k k' with|true=>.ret (.pv (.int k (if mx then(if b>a then b else a)else(if b<a then b else a))))|false=>.fail
  | _,_=>.fail
 | .un op x=>match ev env x with
  | .pv p=>.ofOpt ((unB op p).map .pv)
  | _=>.fail
 | .conv k x=>match ev env x with
  | .pv (.int _ n)=>.ret (.pv (.int k (k.wrap n)))
  | _=>.fail
 | .mkfn f xs ys=>match xs,ys with
  | [],[]=>.ret (.pv (.fn f))
  | xs,ys=>.ret (.fn f (xs.map (ev env)) (ys.map (ev env)))
 | .mkmap=>.new L (.map []) (.ret (.map L))
 | .mksl ty sz by_ z l c=>match ev env l,ev env c with
  | .pv (.int .i64 n),.pv (.int .i64 m)=>.req (decide (0<=n)&&n==m&&decide (n*by_<=1099511627776)&&decide (n<=1099511627776)) (.new L (.row false ty sz (IB n.toNat z)) (.ret (.row L n.toNat 0 n.toNat)))
  | _,_=>.fail
 | .strslc x lo hi=>match ev env x with
  | .pv (.str s)=>match bnd env 0 lo,bnd env s.length hi with
   | some (r1,l),some (r2,h)=>.req (r1&&r2&&decide (l<=h)&&decide (h<=s.length)) (.ret (.pv (.str ((s.take h).drop l))))
   | _,_=>.fail
  | _=>.fail
 | .slc sz x lo hi mx=>match ev env x with
  | .pv (.sl sz' t xs)=>match bnd env 0 lo,bnd env xs.length hi with
   | some (r1,l),some (r2,h)=>match mx with
     | none=>.req (r1&&r2&&(xs.isEmpty||sz'==sz)&&decide (l<=h)&&decide (h<=xs.length)) (.ret (.pv (.sl sz' (t&&decide (h=xs.length)) ((xs.take h).drop l))))
     | some m=>match hi,bnd env xs.length (some m)with
      | some _,some (r3,m)=>.req (r1&&r2&&r3&&(xs.isEmpty||sz'==sz)&&decide (l<=h)&&decide (h<=m)&&decide (m<=xs.length)) (.ret (.pv (.sl sz' (decide (h=m)) ((xs.take h).drop l))))
      | _,_=>.fail
   | _,_=>.fail
  | .row r n lo' hi'=>match bnd env 0 lo,bnd env (hi' - lo') hi,mx with
   | some (r1,l),some (r2,h),none=>.get r fun
     | .row _ _ sz' xs=>if sz'=sz then .req (r1&&r2&&decide (l<=h)&&decide (lo'+h<=hi')&&xs.length==n) (.ret (.row r n (lo'+l) (lo'+h)))else .fail
     | _=>.fail
   | _,_,_=>.fail
  | _=>.fail
 | .faddr off x=>match ev env x with
  | .ptr l o=>.ret (.ptr l (o+off))
  | .pv (.rptr ps)=>.ret (.pv (.rptr (ps.drop off)))
  | .eptr l n i o=>.ret (.eptr l n i (o+off))
  | _=>.fail
 | .field ag off n x=>match ev env x with
  | .pv (.agg ps)=>.ofOpt (Ni ag n (ps.map .pv) off)
  | .agg xs=>.ofOpt (Ni ag n xs off)
  | _=>.fail
 | .iaddr sz x i=>match ev env x,ev env i with
  | .pv (.sl sz' _ xs),.pv (.int _ i)=>.req (decide (0<=i)&&decide (i.toNat<xs.length)&&sz'==sz) (.ret (.pv (.rptr (xs.getD i.toNat default).cells)))
  | .row l n lo hi,.pv (.int _ i)=>.get l fun
    | .row _ _ sz' xs=>if sz'=sz then .req (decide (0<=i)&&decide (lo+i.toNat<hi)&&xs.length==n) (.ret (.eptr l n (lo+i.toNat) 0))else .fail
    | _=>.fail
  | _,_=>.fail
 | .index x i=>match ev env x,ev env i with
  | .pv (.str s),.pv (.int _ i)=>.req (decide (0<=i)&&decide (i.toNat<s.length)) (.ret (.pv (.int .u8 (s.getD i.toNat 0).toNat)))
  | _,_=>.fail
 | .indexA n sz x i=>match ev env x,ev env i with
  | .pv (.agg ps),.pv (.int _ i)=>match decide (2<=sz)with
   | true=>.req (decide (0<=i)&&decide (i.toNat<n)) (.ofOpt (Ni true sz (ps.map .pv) (i.toNat*sz)))
   | false=>.req (decide (0<=i)&&decide (i.toNat<ps.length)&&decide (i.toNat<n)&&sz==1) (.ret (.pv (ps.getD i.toNat default)))
  | _,_=>.fail
 | .sbytes x=>match ev env x with
  | .pv (.str s)=>.ret (.pv (.sl 1 false (Zr s)))
  | _=>.fail
 | .sslice x=>match ev env x with
  | .row l n 0 hi=>.get l fun
   | .row false ty _ xs=>.req (xs.length==n&&ty==5) (.ret (.row l n 0 hi))
   | _=>.fail
  | _=>.fail
 | .bstr x=>match ev env x with
  | .pv (.sl sz _ xs)=>.req (xs.all a5l&&(xs.isEmpty||sz==1)) (.ret (.pv (.str (V5 xs))))
  | .row l n lo hi=>.get l fun
   | .row _ _ sz xs=>.req (xs.length==n&&xs.all a5l&&sz==1) (.ret (.pv (.str (V5 ((xs.take hi).drop lo)))))
   | _=>.fail
  | _=>.fail
 | .mapupd st m k v=>match ev env k with
  | .pv k=>if k.isKey st then match ev env m with
    | .map l=>(frz (ev env v)).bind λv=>.get l fun
     | .map es=>.req (d8s k v es) (.put l (.map (c8b k v es)) (.ret .undef))
     | _=>.fail
    | _=>.fail
   else .fail
  | _=>.fail
 | .extract x i=>match ev env x with
  | .pv (.tup ps)=>.ofOpt ((ps[i]?).map .pv)
  | .tup xs=>.ofOpt xs[i]?
  | _=>.fail
 | .len k x=>match k,ev env x with
  | 2,.map l=>.get l fun
   | .map es=>.ret (.pv (.int .i64 es.length))
   | _=>.fail
  | 2,.pv .nilmap=>.ret (.pv (.int .i64 0))
  | 0,.pv (.str s)=>.ret (.pv (.int .i64 s.length))
  | 1,.pv (.sl _ _ xs)=>.ret (.pv (.int .i64 xs.length))
  | 1,.pv (.raw (.slice _ n _))=>.ret (.pv (.int .i64 n))
  | 1,.row _ _ lo hi=>.ret (.pv (.int .i64 (hi - lo:Nat)))
  | _,_=>.fail
 | .strid x=>match ev env x with
  | .pv (.str s)=>.ret (.pv (.str s))
  | _=>.fail
 | .append ty sz by_ x y=>match ev env y with
  | .pv (.sl sz' _ ys)=>.req (ys.isEmpty||sz'==sz) (BM L ty sz by_ (ev env x) ys)
  | .row l n lo hi=>.get l fun
   | .row _ _ sz' ys=>if sz'=sz then .req (ys.length==n) (BM L ty sz by_ (ev env x) ((ys.take hi).drop lo))else .fail
   | _=>.fail
  | _=>.fail
 | .apps ty sz by_ x y=>match ev env y with
  | .pv (.str s)=>match ev env x with
   | .row l m 0 hi=>BM L ty sz by_ (.row l m 0 hi) (Zr s)
   | _=>.fail
  | _=>.fail
 | .call _ _=>.fail
def VJ(T:ZH)(L:Nat)(env:List AV)(p:POp):HM AV:=
 match p with
 | .call f xs=>match ev env f with
  | .pv (.fn g)=>d9o T L g (xs.map (ev env))
  | .fn g fst cap=>d9o T L g (fst++xs.map (ev env)++cap)
  | _=>.fail
 | p=>WW L env p
end
def RL.mono{μ μ':Mu}{Φ Φ':Yk}(g:μ.le μ')(e:Φ.le Φ'){cs:List Value}{xs:List AV}(h:RL μ Φ cs xs):RL μ' Φ' cs xs:=⟨h.1,λj v x a b=>(h.2 j v x a b).mono g e⟩
def Un.mono{Φ Φ':Yk}(e:Φ.le Φ'){cs:List Value}{xs:List PV}(h:Un Φ cs xs):Un Φ' cs xs:=⟨h.1,λj v x a b=>(h.2 j v x a b).mono e⟩
def Dn.blk_heap{μ:Mu}{Φ:Yk}{w:World}{l:Nat}{o:AObj}(h:Dn μ Φ w l o):(∃ ob,w.heap[blk μ l o]? = some ob):=by
 cases o with
 | box xs=>obtain⟨B,C,S,T,cs,h1,h2,_⟩:=h;exact⟨_,by simpa [blk,h1]using h2⟩
 | row fz ty sz xs=>obtain⟨B,C,cs,h1,_,⟨z,h2,_⟩,_⟩:=h;exact⟨_,by simpa [blk,h1]using h2⟩
 | map es=>obtain⟨B,C,S,m,k,h1,h2,_⟩:=h;exact⟨_,by simpa [blk,h1]using h2⟩
def Dn.blk_lt{μ:Mu}{Φ:Yk}{w:World}{l:Nat}{o:AObj}(h:Dn μ Φ w l o):blk μ l o<w.heap.size:=by obtain⟨ob,h⟩:=h.blk_heap;exact(Iy.1 h).1
def AObj.live:AObj->Bool
 | .row fz _ _ _=> !fz
 | _=>true
def Dn.phi_none{μ:Mu}{Φ:Yk}{w:World}{l:Nat}{o:AObj}(h:Dn μ Φ w l o)(a:o.live):Φ (blk μ l o)=none:=by
 cases o with
 | box xs=>obtain⟨B,C,S,T,cs,h1,_,_,_,h2⟩:=h;simpa [blk,h1]using h2
 | row fz ty sz xs=>obtain⟨B,C,cs,h1,_,_,_,_,_,_,_,_,h2⟩:=h;simp[AObj.live]at a;subst a;simpa [blk,h1]using h2
 | map es=>obtain⟨B,C,S,m,k,h1,_,_,_,h2,_⟩:=h;simpa [blk,h1]using h2
def Dn.keep{μ μ':Mu}{Φ Φ':Yk}{w w':World}{l:Nat}{o:AObj}(h:Dn μ Φ w l o)(D:μ.le μ')(r : ∀ n,μ' l n=μ l n)(s:Φ.le Φ')
  (hb:Φ' (blk μ l o)=Φ (blk μ l o)) (i:w'.heap[blk μ l o]? = w.heap[blk μ l o]?):Dn μ' Φ' w' l o∧blk μ' l o=blk μ l o:=by
 refine⟨?_,by unfold blk;rw[r]⟩;cases o with
 | box xs=>obtain⟨B,C,S,T,cs,h1,h2,h3,g,q⟩:=h;simp only[blk,h1]at hb i;exact⟨B,C,S,T,cs,by rw[r];exact h1,by rw[i];exact h2,h3.mono D s,g,by rw[hb];exact q⟩
 | row fz ty sz xs=>obtain⟨B,C,cs,h1,h2,h3,g,q,A,E,z,y,u⟩:=h;simp only[blk,h1]at hb i;exact⟨B,C,cs,by rw[r];exact h1,λn hn=>by rw[r];exact h2 n hn,h3.eq i,g,q,A,E,z.mono s,y,by rw[hb];exact u⟩
 | map es=>obtain⟨B,C,S,m,k,h1,h2,h3,g,q⟩:=h;simp only[blk,h1]at hb i;exact⟨B,C,S,m,k,by rw[r];exact h1,by rw[i];exact h2,h3,λj e p a b=>⟨(g j e p a b).1.mono s,(g j e p a b).2.mono s⟩,by rw[hb];exact q.1,q.2⟩
def ZR{σ:ZC}{l l':Nat}{s:Slot}(h:l'≠l):(σ.set l s)[l']? = σ[l']? :=by rw[ah];simp[af h]
def Z6{σ:ZC}{l:Nat}{s u:Slot}(h:σ[l]? = some u):(σ.set l s)[l]? = some s:=by have:=(Ic.1 h).1;rw[ah];simp[this]
def Good.put{c:Ctx}{μ μ':Mu}{Φ:Yk}{σ:ZC}{w w':World}{l:Nat}{o o':AObj}(h:Good c μ Φ σ w)(k:σ[l]? = some (.obj o))(q:o.live)
  (P:μ.le μ') (D : ∀ l',l'≠l-> ∀ n,μ' l' n=μ l' n) (M:w'.os=w.os) (u:w'.tape=w.tape) (A:w'.output=w.output) (y:w.heap.size<=w'.heap.size)
  (O : ∀ b,b<w.heap.size->b≠blk μ l o->w'.heap[b]? = w.heap[b]?) (N:Dn μ' Φ w' l o') (hb:blk μ' l o'=blk μ l o∨w.heap.size<=blk μ' l o') :
  Good c μ' Φ (σ.set l (.obj o')) w':=by
 have z:=h.obj l o k;have a : ∀ l' x,l'≠l->σ[l']? = some (.obj x)->Dn μ' Φ w' l' x∧blk μ' l' x=blk μ l' x:=by intro l' x g i;have C:=h.obj l' x i;exact C.keep P (D l' g) (Yk.le.refl _) rfl (O _ C.blk_lt (h.apart l' l x o g i k))
 constructor
 ·intro b cs s;have j:b≠blk μ l o:=by rintro rfl;rw[z.phi_none q]at s;cases s
  obtain⟨T,fz,Q⟩:=h.phi b cs s;have J:=(Iy.1 Q).1;exact⟨T,fz,by rw[O b J j];exact Q⟩
 ·intro l' x i;by_cases g:l'=l
  ·subst g;rw[Z6 k]at i;cases i;exact N
  ·rw[ZR g]at i;exact(a l' x g i).1
 ·have B : ∀ l' x,l'≠l->σ[l']? = some (.obj x)->blk μ' l' x≠blk μ' l o':=by
   intro l' x g i e;rw[(a l' x g i).2]at e;rcases hb with hb|hb
   ·rw[hb]at e;exact h.apart l' l x o g i k e
   ·have:=(h.obj l' x i).blk_lt;omega
  intro I H L K g h1 h2;by_cases e1:I=l
  ·subst e1;rw[Z6 k]at h1;cases h1;rw[ZR (af g)]at h2;exact af (B H K (af g) h2)
  ·rw[ZR e1]at h1;by_cases e2:H=l
   ·subst e2;rw[Z6 k]at h2;cases h2;exact B I L e1 h1
   ·rw[ZR e2]at h2;rw[(a I L e1 h1).2,(a H K e2 h2).2];exact h.apart I H L K g h1 h2
 ·intro l' n r;by_cases e1:l'=l
  ·subst e1;rw[Z6 k]at r;rcases r with r|r <;> cases r
  ·rw[ZR e1]at r;rw[D l' e1];exact h.fresh l' n r
 ·intro l' x i;by_cases e1:l'=l
  ·subst e1;rw[Z6 k]at i;cases i;rcases hb with hb|hb
   ·rw[hb];exact h.own _ o k
   ·exact .inl (IK h.size hb)
  ·rw[ZR e1]at i;rw[(a l' x e1 i).2];exact h.own l' x i
 ·exact M.trans h.os
 ·exact u.trans h.tape
 ·exact A.trans h.output
 ·exact IK h.size y
 ·intro b F E;have j:b≠blk μ l o:=by
   rintro rfl;rcases h.own l o k with h1|h1
   ·omega
   ·exact E h1
  rw[O b (aY F h.size) j];exact h.frame b F E
 ·exact h.Φle
 ·exact h.μle.trans P
 ·exact h.dom
 ·exact h.laid
def Mu.add(μ:Mu)(l v:Nat)(x:Nat×Nat×Nat):Mu:=λl' n=>if l'=l∧n=v then some x else μ l' n
def Mu.add_same(μ:Mu)(l v:Nat)(x:Nat×Nat×Nat):μ.add l v x l v=some x:=by simp[Mu.add]
def Mu.add_ne(μ:Mu)(l v:Nat)(x:Nat×Nat×Nat)(l' n:Nat)(h:l'≠l):μ.add l v x l' n=μ l' n:=by simp[Mu.add,h]
def Mu.add_ver(μ:Mu)(l v:Nat)(x:Nat×Nat×Nat)(n:Nat)(h:n≠v):μ.add l v x l n=μ l n:=by simp[Mu.add,h]
def Mu.le_add(μ:Mu)(l v:Nat)(x:Nat×Nat×Nat)(h:μ l v=none∨μ l v=some x):μ.le (μ.add l v x):=by
 intro l' n y a;unfold Mu.add;split
 ·rename_i e;obtain⟨rfl,rfl⟩:=e;rcases h with h|h <;> rw[h]at a
  ·cases a
  ·exact a
 ·exact a
def Kt(w:World)(o:Obj)(b:Nat)(h:b<w.heap.size):(w.alloc o).heap[b]? = w.heap[b]? :=Below.heap_alloc w o b h
def Kw(w:World)(o:Obj):(w.alloc o).heap[w.heap.size]? = some o:=by show(w.heap.push o)[w.heap.size]? = _;simp
def Good.new{c:Ctx}{μ μ':Mu}{Φ:Yk}{σ:ZC}{w w':World}{l:Nat}{o:AObj}(h:Good c μ Φ σ w)(r:σ[l]? = some .fresh)
  (L:μ.le μ') (z : ∀ l',l'≠l-> ∀ n,μ' l' n=μ l' n) (H:w'.os=w.os) (k:w'.tape=w.tape) (s:w'.output=w.output) (q:w.heap.size<=w'.heap.size)
  (K : ∀ b,b<w.heap.size->w'.heap[b]? = w.heap[b]?) (ho:Dn μ' Φ w' l o) (hb:w.heap.size<=blk μ' l o) :
  Good c μ' Φ (σ.set l (.obj o)) w':=by
 have a : ∀ l' x,l'≠l->σ[l']? = some (.obj x)->Dn μ' Φ w' l' x∧blk μ' l' x=blk μ l' x:=by intro l' x g i;have y:=h.obj l' x i;exact y.keep L (z l' g) (Yk.le.refl _) rfl (K _ y.blk_lt)
 constructor
 ·intro b cs I;obtain⟨T,fz,M⟩:=h.phi b cs I;have D:=(Iy.1 M).1;exact⟨T,fz,by rw[K b D];exact M⟩
 ·intro l' x i;by_cases g:l'=l
  ·subst g;rw[Z6 r]at i;cases i;exact ho
  ·rw[ZR g]at i;exact(a l' x g i).1
 ·have u : ∀ l' x,l'≠l->σ[l']? = some (.obj x)->blk μ' l' x≠blk μ' l o:=by
   intro l' x g i e;rw[(a l' x g i).2]at e
   have:=(h.obj l' x i).blk_lt;omega
  intro C B F E g h1 h2;by_cases e1:C=l
  ·subst e1;rw[Z6 r]at h1;cases h1;rw[ZR (af g)]at h2;exact af (u B E (af g) h2)
  ·rw[ZR e1]at h1;by_cases e2:B=l
   ·subst e2;rw[Z6 r]at h2;cases h2;exact u C F e1 h1
   ·rw[ZR e2]at h2;rw[(a C F e1 h1).2,(a B E e2 h2).2];exact h.apart C B F E g h1 h2
 ·intro l' n j;by_cases e1:l'=l
  ·subst e1;rw[Z6 r]at j;rcases j with j|j <;> cases j
  ·rw[ZR e1]at j;rw[z l' e1];exact h.fresh l' n j
 ·intro l' x i;by_cases e1:l'=l
  ·subst e1;rw[Z6 r]at i;cases i;exact .inl (IK h.size hb)
  ·rw[ZR e1]at i;rw[(a l' x e1 i).2];exact h.own l' x i
 ·exact H.trans h.os
 ·exact k.trans h.tape
 ·exact s.trans h.output
 ·exact IK h.size q
 ·intro b A J;rw[K b (aY A h.size)];exact h.frame b A J
 ·exact h.Φle
 ·exact h.μle.trans L
 ·exact h.dom
 ·exact h.laid
def Good.drew{c:Ctx}{μ:Mu}{Φ:Yk}{σ:ZC}{w:World}(h:Good c μ Φ σ w):Good c μ Φ σ {w with drawn:=w.drawn+1}:=
 ⟨h.phi,λl o ho=>by
  have:=(h.obj l o ho).keep (w':={w with drawn:=w.drawn+1}) (Mu.le.refl _) (λ_=>rfl) (Yk.le.refl _) rfl rfl
  exact this.1,h.apart,h.fresh,h.own,h.os,h.tape,h.output,h.size,h.frame,h.Φle,h.μle,h.dom,h.laid⟩
def Yk.add(Φ:Yk)(b:Nat)(cs:Array Value):Yk:=λa=>if a=b then some cs else Φ a
def Good.freeze{c:Ctx}{μ:Mu}{Φ:Yk}{σ:ZC}{w:World}{l:Nat}{fz:Bool}{ty sz:Nat}{xs:List PV}(h:Good c μ Φ σ w)(k:σ[l]? = some (.obj (.row fz ty sz xs))):
  ∃ Φ' B C cs,Φ.le Φ'∧Good c μ Φ' (σ.set l (.obj (.row true ty sz xs))) w∧μ l xs.length=some (B,C,sz)∧Φ' B=some cs∧cs.size=C*sz∧xs.length<=C∧(∀ x∈xs,x.cells.length=sz) ∧
   Un Φ (cs.toList.take (xs.length*sz)) (flat xs)∧XZ (cs.toList.take (xs.length*sz)):=by
 have y:=h.obj l _ k;obtain⟨B,C,cs,h1,h2,h3,N,I,Q,J,L,K,D⟩:=y;have i:blk μ l (.row fz ty sz xs)=B:=by simp[blk,h1]
 have j:blk μ l (.row true ty sz xs)=B:=by simp[blk,h1]
 have r:Φ.le (Φ.add B cs):=by
  intro b x a;unfold Yk.add;split
  ·rename_i e;subst e;rw[D]at a;cases fz <;> simp_all
  ·exact a
 refine⟨Φ.add B cs,B,C,cs,r,?_,h1,by simp[Yk.add],N,I,J,L,K⟩;have q : ∀ l' x,l'≠l->σ[l']? = some (.obj x)->Dn μ (Φ.add B cs) w l' x:=by intro l' x g a;have E:=h.obj l' x a;have A:=h.apart l' l x _ g a k;rw[i]at A;exact(E.keep (Mu.le.refl _) (λ_=>rfl) r (by simp[Yk.add,A]) rfl).1
 constructor
 ·intro b x a;unfold Yk.add at a;split at a
  ·rename_i e;subst e;cases a;obtain⟨z,h3,_⟩:=h3;exact⟨_,_,h3⟩
  ·exact h.phi b x a
 ·intro l' x a;by_cases g:l'=l
  ·subst g;rw[Z6 k]at a;cases a;exact⟨B,C,cs,h1,h2,h3,N,I,Q,J,L.mono r,K,by simp[Yk.add]⟩
  ·rw[ZR g]at a;exact q l' x g a
 ·intro M H T S g k1 U;have F : ∀ l' o',(σ.set l (.obj (.row true ty sz xs)))[l']? = some (.obj o')-> ∃ o'',σ[l']? = some (.obj o'')∧blk μ l' o'=blk μ l' o'':=by
   intro l' o' a;by_cases e:l'=l
   ·subst e;rw[Z6 k]at a;cases a;exact⟨_,k,by rw[i,j]⟩
   ·rw[ZR e]at a;exact⟨_,a,rfl⟩
  obtain⟨W,V,u⟩:=F M T k1;obtain⟨X,P,O⟩:=F H S U;rw[u,O];exact h.apart M H W X g V P
 ·intro l' n s;by_cases u:l'=l
  ·subst u;rw[Z6 k]at s;rcases s with s|s <;> cases s
  ·rw[ZR u]at s;exact h.fresh l' n s
 ·intro l' x a;by_cases u:l'=l
  ·subst u;rw[Z6 k]at a;cases a;rw[j,<- i];exact h.own _ _ k
  ·rw[ZR u]at a;exact h.own l' x a
 ·exact h.os
 ·exact h.tape
 ·exact h.output
 ·exact h.size
 ·exact h.frame
 ·exact h.Φle.trans r
 ·exact h.μle
 ·intro b x a;unfold Yk.add at a;split at a
  ·rename_i e;subst e
   have:=h.own l _ k;rw[i]at this;exact .inr this
  ·exact h.dom b x a
 ·exact h.laid
section
def Ko{α:Type}{o:Option α}{σ a:ZC}{x:α}(h:(HM.ofOpt o).run σ=some (x,a)):o=some x∧a=σ:=by
 cases o with
 | none=>simp[HM.ofOpt,HM.run]at h
 | some y=>simp[HM.ofOpt,HM.run]at h;simp[h.1,h.2]
def ZE{α:Type}{y:α}{σ a:ZC}{x:α}(h:(HM.ret y).run σ=some (x,a)):x=y∧a=σ:=by simp[HM.run]at h;simp[h.1,h.2]
def VC{α:Type}{l:Nat}{k:AObj->HM α}{σ a:ZC}{x:α}(h:(HM.get l k).run σ=some (x,a)): ∃ o,σ[l]? = some (.obj o)∧(k o).run σ=some (x,a):=by
 simp only[HM.run]at h;split at h
 ·rename_i o ho;exact⟨o,ho,h⟩
 ·cases h
def Bf{α:Type}{l:Nat}{o:AObj}{k:HM α}{σ a:ZC}{x:α}(h:(HM.put l o k).run σ=some (x,a)):(∃ o',σ[l]? = some (.obj o'))∧k.run (σ.set l (.obj o))=some (x,a):=by
 simp only[HM.run]at h;split at h
 ·rename_i o ho;exact⟨⟨o,ho⟩,h⟩
 ·cases h
def D8{α:Type}{l:Nat}{o:AObj}{k:HM α}{σ a:ZC}{x:α}(h:(HM.new l o k).run σ=some (x,a)):σ[l]? = some .fresh∧k.run (σ.set l (.obj o))=some (x,a):=by
 simp only[HM.run]at h;split at h
 ·rename_i ho;exact⟨ho,h⟩
 ·cases h
def Zn{α:Type}{σ a:ZC}{x:α}(h:(HM.fail:HM α).run σ=some (x,a)):False:=by simp[HM.run]at h
def YR{α:Type}{b:Bool}{k:HM α}{σ a:ZC}{x:α}(h:(HM.req b k).run σ=some (x,a)):b∧k.run σ=some (x,a):=by
 cases b
 ·simp[HM.run]at h
 ·exact⟨rfl,h⟩
def pv1:Value->Option PV
 | .bool b=>some (.bool b)
 | .int k n=>some (.int k n)
 | .string s=>some (.str s.data.toList)
 | .pointer none=>some .nilp
 | .slice none 0 0=>some (.sl 0 true [])
 | .map none=>some .nilmap
 | .nilFunc=>some .nilfn
 | .nilIface=>some .nili
 | .func (.func f) cs ds=>if cs.size=0∧ds.size=0 then some (.fn f)else none
 | _=>none
def Vj{α β:Type}(f:α->Option β):List α->Option (List β)
 | []=>some []
 | x::xs=>(f x).bind λy=>(Vj f xs).map (y:: ·)
def D9:Value->Option PV
 | .agg cs=>(Vj pv1 cs.toList).map .agg
 | v=>pv1 v
def VO{α β:Type}{f:α->Option β}: ∀ {l:List α} {r:List β},Vj f l=some r->l.length=r.length∧ ∀ (j:Nat) x y,l[j]? = some x->r[j]? = some y->f x=some y:=by
 intro l
 induction l with
 | nil=>intro r h;cases h;simp
 | cons x xs ih=>
  intro r h;simp only[Vj,Ib,Cm]at h;obtain⟨y,g,ys,e,rfl⟩:=h;obtain⟨h1,h2⟩:=ih e;refine⟨by simp[h1],?_⟩;intro j a b ha hb;cases j with
  | zero=>simp at ha hb;subst ha hb;exact g
  | succ j=>simp at ha hb;exact h2 j a b ha hb
def b0t{Φ:Yk}{v:Value}{p:PV}(h:pv1 v=some p):RP Φ v p∧v.oneCell'∧p.one:=by
 unfold pv1 at h;split at h
 ·cases h;exact⟨.bool _,rfl,rfl⟩
 ·cases h;exact⟨.int _ _,rfl,rfl⟩
 ·cases h;exact⟨.str _,rfl,rfl⟩
 ·cases h;exact⟨.nilp,rfl,rfl⟩
 ·cases h;exact⟨.sl0 _ _ _ _ (λ_=>rfl),rfl,rfl⟩
 ·cases h;exact⟨.nilmap,rfl,rfl⟩
 ·cases h;exact⟨.nilfn,rfl,rfl⟩
 ·cases h;exact⟨.nili,rfl,rfl⟩
 ·rename_i f cs ds;split at h
  ·rename_i e;cases h;have b:cs = #[]:=by simpa using e.1
   have a:ds = #[]:=by simpa using e.2
   subst b a;exact⟨.fn _,rfl,rfl⟩
  ·cases h
 ·cases h
def Ch{Φ:Yk}{v:Value}{p:PV}(h:D9 v=some p):RP Φ v p:=by
 unfold D9 at h;split at h
 ·rename_i cs;rw[Cm]at h;obtain⟨ps,hps,rfl⟩:=h;obtain⟨h1,h2⟩:=VO hps;refine .agg _ _ (by simpa using h1) ?_ ?_
  ·intro v a;obtain⟨j,i,e⟩:=I4 (Array.mem_toList_iff.2 a);have b:j<ps.length:=by omega
   exact(b0t (Φ:=Φ) (h2 j v ps[j] (by rw[Ia i,e]) (by rw[Ia b]))).2.1
  ·intro j v x a g;exact(b0t (h2 j v x (by simpa using a) g)).1
 ·exact(b0t h).1
def Ut{v:Value}{p:PV}(h:D9 v=some p):p.cellsOk:=by
 unfold D9 at h;split at h
 ·rw[Cm]at h;obtain⟨ps,_,rfl⟩:=h;rfl
 ·have:=(b0t (Φ:=λ_=>none) h).2.2;cases p <;> simp_all[PV.one,PV.cellsOk]
def Y4:Operand->Option IOp
 | .tmp t=>some (.t t)
 | .const v=>(D9 v).map .c
 | .func f=>some (.c (.fn f))
 | .global _=>none
section
variable {μ:Mu} {Φ:Yk}
def Y6{v:Value}{p:PV}(h:R μ Φ v (.pv p)):RP Φ v p:=by cases h;assumption
def RL.nil:RL μ Φ [] []:=⟨rfl,λj v x h=>by simp at h⟩
def RL.cons{v:Value}{x:AV}{cs:List Value}{xs:List AV}(h:R μ Φ v x)(k:RL μ Φ cs xs):RL μ Φ (v::cs) (x::xs):=
 ⟨by simp[k.1],λj a b ha hb=>by
  cases j with
  | zero=>simp at ha hb;subst ha hb;exact h
  | succ j=>simp at ha hb;exact k.2 j a b ha hb⟩
def RL.uncons{cs:List Value}{x:AV}{xs:List AV}(h:RL μ Φ cs (x::xs)): ∃ v vs,cs=v::vs∧R μ Φ v x∧RL μ Φ vs xs:=by
 cases cs with
 | nil=>have:=h.1;simp at this
 | cons v vs=>exact⟨v,vs,rfl,h.2 0 v x rfl rfl,by have:=h.1;simpa using this,λj a b ha hb=>h.2 (j+1) a b (by simpa using ha) (by simpa using hb)⟩
def RL.unnil{cs:List Value}(h:RL μ Φ cs []):cs=[]:=by have:=h.1;simpa using this
def RL.at_{cs:List Value}{xs:List AV}(h:RL μ Φ cs xs){j:Nat}{x:AV}(b:xs[j]? = some x): ∃ v,cs[j]? = some v∧R μ Φ v x:=by
 have e:=(Ic.1 b).1;have a:j<cs.length:=by rw[h.1];exact e
 exact⟨cs[j],by rw[Ia a],h.2 j _ x (by rw[Ia a]) b⟩
def Un.at_{cs:List Value}{xs:List PV}(h:Un Φ cs xs){j:Nat}{x:PV}(b:xs[j]? = some x): ∃ v,cs[j]? = some v∧RP Φ v x:=by
 have e:=(Ic.1 b).1;have a:j<cs.length:=by rw[h.1];exact e
 exact⟨cs[j],by rw[Ia a],h.2 j _ x (by rw[Ia a]) b⟩
def Un.toRL{cs:List Value}{xs:List PV}(h:Un Φ cs xs):RL μ Φ cs (xs.map .pv):=
 ⟨by simp[h.1],λj v x b a=>by
  rw[Ij]at a;obtain⟨p,e,rfl⟩:=Cm.1 a
  exact .pv _ _ (h.2 j v p b e)⟩
def RL.drop{cs:List Value}{xs:List AV}(h:RL μ Φ cs xs)(n:Nat):RL μ Φ (cs.drop n) (xs.drop n):=⟨by simp[h.1],λj v x a b=>h.2 (n+j) v x (by simpa using a) (by simpa using b)⟩
def RL.take{cs:List Value}{xs:List AV}(h:RL μ Φ cs xs)(n:Nat):RL μ Φ (cs.take n) (xs.take n):=
 ⟨by simp[h.1],λj v x a b=>by
  rw[Ir]at a b;split at a
  ·rename_i e;rw[fw e]at b;exact h.2 j v x a b
  ·cases a⟩
def RL.append{cs ds:List Value}{xs ys:List AV}(h:RL μ Φ cs xs)(k:RL μ Φ ds ys):RL μ Φ (cs++ds) (xs++ys):=
 ⟨by simp[h.1,k.1],λj v x a b=>by
  rw[az]at a b;rw[h.1]at a;split at a
  ·rename_i e;rw[fw e]at b;exact h.2 j v x a b
  ·rename_i e;rw[fo e]at b;exact k.2 _ v x a b⟩
def Un.drop{cs:List Value}{xs:List PV}(h:Un Φ cs xs)(n:Nat):Un Φ (cs.drop n) (xs.drop n):=⟨by simp[h.1],λj v x a b=>h.2 (n+j) v x (by simpa using a) (by simpa using b)⟩
def Un.take{cs:List Value}{xs:List PV}(h:Un Φ cs xs)(n:Nat):Un Φ (cs.take n) (xs.take n):=
 ⟨by simp[h.1],λj v x a b=>by
  rw[Ir]at a b;split at a
  ·rename_i e;rw[fw e]at b;exact h.2 j v x a b
  ·cases a⟩
def Un.append{cs ds:List Value}{xs ys:List PV}(h:Un Φ cs xs)(k:Un Φ ds ys):Un Φ (cs++ds) (xs++ys):=
 ⟨by simp[h.1,k.1],λj v x a b=>by
  rw[az]at a b;rw[h.1]at a;split at a
  ·rename_i e;rw[fw e]at b;exact h.2 j v x a b
  ·rename_i e;rw[fo e]at b;exact k.2 _ v x a b⟩
def XZ.drop{cs:List Value}(h:XZ cs)(n:Nat):XZ (cs.drop n):=λv a=>h v (IM a)
def XZ.take{cs:List Value}(h:XZ cs)(n:Nat):XZ (cs.take n):=λv a=>h v (IP a)
def XZ.append{cs ds:List Value}(h:XZ cs)(k:XZ ds):XZ (cs++ds):=λv a=>by
 rcases Ih.1 a with a|a
 ·exact h v a
 ·exact k v a
def GY{v:Value}{p:PV}(h:RP Φ v p)(i:p.cellsOk):Un Φ v.cells.toList p.cells∧XZ v.cells.toList:=by
 have e : ∀ (g:v.cells = #[v]) (hc:p.cells=[p]) (h1:v.oneCell'),Un Φ v.cells.toList p.cells∧XZ v.cells.toList:=by
  intro g hc h1;rw[g,hc];refine⟨⟨rfl,λj a b ha hb=> ?_⟩,λa ha=>by simp at ha;subst ha;exact h1⟩;cases j with
  | zero=>simp at ha hb;subst ha hb;exact h
  | succ j=>simp at ha
 cases h with
 | agg cs xs hn ho h=>exact⟨⟨by simpa [aL,PV.cells]using hn,λj a b ha hb=>h j a b (by simpa [aL]using ha) hb⟩,λa ha=>ho a (by simpa [aL]using ha)⟩
 | tup cs xs hn h=>simp[PV.cellsOk]at i
 | raw v h1=>exact e (by cases v <;> first|rfl|simp[fJ]at h1) rfl h1
 | _=>exact e rfl rfl rfl
def a0p{v:Value}{x:AV}(h:R μ Φ v x)(k:x.cellsOk):RL μ Φ v.cells.toList x.cells∧XZ v.cells.toList:=by
 have g : ∀ (l:v.cells = #[v]) (hc:x.cells=[x]) (h1:v.oneCell'),RL μ Φ v.cells.toList x.cells∧XZ v.cells.toList:=by intro l hc h1;rw[l,hc];exact⟨RL.cons h RL.nil,λa ha=>by simp at ha;subst ha;exact h1⟩
 cases h with
 | pv _ p h'=>
  have i:p.cellsOk:=by cases p <;> simp_all[AV.cellsOk,PV.cellsOk]
  obtain⟨h1,h2⟩:=GY h' i;have e:AV.cells (.pv p)=p.cells.map .pv:=by cases p <;> rfl
  rw[e];exact⟨h1.toRL,h2⟩
 | agg cs xs hn ho h'=>exact⟨⟨by simpa [aL,AV.cells]using hn,λj a b ha hb=>h' j a b (by simpa [aL]using ha) hb⟩,λa ha=>ho a (by simpa [aL]using ha)⟩
 | tup cs xs hn h'=>simp[AV.cellsOk]at k
 | junk=>simp[AV.cellsOk]at k
 | undef=>simp[AV.cellsOk]at k
 | _=>exact g rfl rfl rfl
def c9u: ∀ {xs:List AV} {ps:List PV},e1v xs=some ps->xs=ps.map .pv:=by
 intro xs
 induction xs with
 | nil=>intro ps h;cases h;rfl
 | cons x xs ih=>intro ps h;cases x <;> simp[e1v]at h;obtain⟨qs,a,rfl⟩:=h;simp[ih a]
def a2c{cs:List Value}{xs:List AV}(h:RL μ Φ cs xs)(ho:XZ cs):R μ Φ (.agg cs.toArray) (d7o xs):=by
 unfold d7o;split
 ·rename_i ps hps;have e:=c9u hps;subst e;refine .pv _ _ (.agg _ _ (by simpa using h.1) (λv a=>ho v (by simpa using a)) ?_);intro j v p a g;exact Y6 (h.2 j v (.pv p) (by simpa using a) (by simp[g]))
 ·exact .agg _ _ (by simpa using h.1) (λv a=>ho v (by simpa using a)) (λj v x a b=>h.2 j v x (by simpa using a) b)
def Yn{a:Act}{env:List AV}{x:Operand}{y:IOp}(h:Wy μ Φ a.tmps env)(b:Y4 x=some y):R μ Φ (a.eval x) (ev env y):=by
 cases x with
 | tmp t=>
  simp[Y4]at b;subst b;simp only[Act.eval,ev];by_cases ht:t<env.length
  ·obtain⟨v,l,hr⟩:=h.at_ (j:=t) (x:=env[t]) (Ia ht);have i:a.tmps.getD t aQ=v:=by
    have:a.tmps[t]? = some v:=by simpa using l
    simp[Iq,this]
   have e:env.getD t .undef=env[t]:=by simp[I7,Ia ht]
   rw[i,e];exact hr
  ·have hl:=h.1;have i:a.tmps.getD t aQ=aQ:=by
    have h2:a.tmps.size=env.length:=by simpa using h.1
    have:a.tmps[t]? = none:=cz (by rw[h2];exact eu ht);simp[Iq,this]
   have e:env.getD t .undef = .undef:=by simp[I7,aN (eu ht)]
   rw[i,e];exact .undef
 | const v=>simp only[Y4,Cm]at b;obtain⟨p,k,rfl⟩:=b;exact .pv _ _ (Ch k)
 | func f=>simp[Y4]at b;subst b;exact .pv _ _ (.fn f)
 | global g=>simp[Y4]at b
end
def Qx(w:World)(B a:Nat)(cs:List Value):Prop:= ∀ (j:Nat) v,cs[j]? = some v->w.cell? ⟨B,a+j,none⟩=some v
def VB(B o n:Nat):(⟨B,o,none⟩:Addr).add n=⟨B,o+n,none⟩:=by unfold Addr.add;split <;> simp_all
def VL{w:World}{B:Nat}{cs:Array Value}{T:TypeId}{fz:Nat×Nat}(h:w.heap[B]? = some (.cells cs T fz))(o n:Nat):Qx w B o ((cs.toList.drop o).take n):=by
 intro j v a;rw[Ir]at a;split at a
 ·simp only[IA,au]at a;simp[bL,h,a]
 ·cases a
def WG(P:Program)(t:TypeId):Bool:=
 match P.underlying t with
 | some (.struct _)|some (.array _ _)=>true
 | _=>false
def Tf{P:Program}{w:World}{t:TypeId}(h:(P.underlying t).isSome):(isAgg t).run P w = .ok (WG P t) w:=by
 cases hu:P.underlying t with
 | none=>simp[hu]at h
 | some d=>simp only[isAgg,Ig,run_underlying hu,Ik,WG,hu];cases d <;> rfl
def YF{P:Program}{w:World}{t:TypeId}{i:TypeInfo}(h:P.info? t=some i):(sizeOf t).run P w = .ok i.size w:=by simp[sizeOf,typeInfo,h]
def d7d{P:Program}{μ:Mu}{Φ:Yk}{w:World}{t:TypeId}{i:TypeInfo}{B a o:Nat}{cs:List Value}{xs:List AV}{y:AV}
  (hu:(P.underlying t).isSome) (hi:P.info? t=some i) (hc:Qx w B a cs) (hr:RL μ Φ cs xs) (ho:XZ cs)
  (b:Ni (WG P t) i.size xs o=some y) : ∃ v,(loadVar t ⟨B,a+o,none⟩).run P w = .ok v w∧R μ Φ v y:=by
 unfold Ni at b;simp only[loadVar,Ig,Tf hu,Ik];cases h:WG P t with
 | true=>
  simp only[h,gq]at b ⊢;split at b
  ·rename_i hle;cases b;refine⟨.agg ((cs.drop o).take i.size).toArray,?_,?_⟩
   ·have g:((cs.drop o).take i.size).length=i.size:=by simp[hr.1];omega
    have:=run_loadCells_list (P:=P) w ⟨B,a+o,none⟩ ((cs.drop o).take i.size) (λj v e=>by
     rw[VB];rw[Ir]at e;split at e
     ·rw[IA]at e
      have:=hc (o+j) v e
      rwa [<- I8]at this
     ·cases e)
    rw[g]at this;simp[YF hi,this]
   ·exact a2c ((hr.drop o).take _) ((ho.drop o).take _)
  ·cases b
 | false=>simp only[h,gp,IL]at b ⊢;obtain⟨v,e,k⟩:=hr.at_ b;exact⟨v,by simp[hc o v e],k⟩
def h7z{Φ:Yk}{v:Value}{g:Sh}{p:PV}(h:RP Φ v p)(e:g.fit p):RP Φ v (g.co p):=by
 cases g with
 | any=>exact h
 | int k=>cases p <;> simp[Sh.fit]at e;subst e;exact h
 | str=>cases p <;> simp[Sh.fit]at e;exact h
 | bool=>cases p <;> simp[Sh.fit]at e;exact h
 | sl sz=>
  cases p <;> simp[Sh.fit]at e;rename_i sz' t xs;rcases e with rfl|rfl
  ·exact h
  ·cases h with
   | sl0 a c _ _ h=>exact .sl0 a c _ _ h
   | sl b off cs c _ _ _ u hb hc ht hs hu hr=>exact .sl b off cs c sz t [] u hb hc ht (λx i=>by simp at i) hu hr
def g2a{Φ:Yk}{cs:List Value}{ps:List PV}(h:Un Φ cs ps): ∀ (shs:List Sh) (o:Nat),o+shs.length<=ps.length->XG ps o shs->Un Φ ((cs.drop o).take shs.length) (a3r ps o shs):=by
 intro shs
 induction shs with
 | nil=>intro o _ _;exact⟨by simp[a3r],λj v x g=>by simp at g⟩
 | cons l shs ih=>
  intro o ho i;simp only[XG,Ie]at i;simp only[IR]at ho;have b:o<ps.length:=by omega
  have a:o<cs.length:=by rw[h.1];exact b
  have hd:ps.getD o default=ps[o]:=by simp[I7,Ia b]
  rw[hd]at i;obtain⟨h1,h2⟩:=ih (o+1) (by omega) i.2;have e:(cs.drop o).take (l::shs).length=cs[o]::(cs.drop (o+1)).take shs.length:=by rw[aB a,IR,di]
  rw[e];simp only[a3r,hd];refine⟨by simp only[IR,h1],?_⟩;intro j v x g k;cases j with
  | zero=>simp at g k;subst g k;exact h7z (h.2 o _ _ (Ia a) (Ia b)) i.1
  | succ j=>simp at g k;exact h2 j v x g k
def c3x{P:Program}{μ:Mu}{Φ:Yk}{σ s:ZC}{w:World}{t:TypeId}{i:TypeInfo}{B e o:Nat}{cs:List Value}{ps:List PV}{shs:List Sh}{y:AV}
  (hu:(P.underlying t).isSome) (hi:P.info? t=some i) (r:shs.length=i.size) (hc:Qx w B e cs) (hr:Un Φ cs ps) (ho:XZ cs)
  (g:(d9j (WG P t) shs ps o).run σ=some (y,s)):s=σ∧ ∃ v,(loadVar t ⟨B,e+o,none⟩).run P w = .ok v w∧R μ Φ v y:=by
 unfold d9j at g;obtain⟨u,g⟩:=YR g;simp only[Ie,fu]at u;obtain⟨q,a⟩:=u;simp only[loadVar,Ig,Tf hu,Ik];cases k:WG P t with
 | true=>
  simp only[k,gq]at g ⊢;obtain⟨rfl,rfl⟩:=ZE g;refine⟨rfl,.agg ((cs.drop o).take i.size).toArray,?_,?_⟩
  ·have l:((cs.drop o).take i.size).length=i.size:=by simp[hr.1];omega
   have:=run_loadCells_list (P:=P) w ⟨B,e+o,none⟩ ((cs.drop o).take i.size) (λj v b=>by
    rw[VB];rw[Ir]at b;split at b
    ·rw[IA]at b
     have:=hc (o+j) v b
     rwa [<- I8]at this
    ·cases b)
   rw[l]at this;simp[YF hi,this]
  ·have h1:=g2a hr shs o q a;rw[r]at h1;exact .pv _ _ (.agg _ _ (by simpa using h1.1) (λv b=>(ho.drop o).take i.size v (by simpa using b)) (λj v x b A=>h1.2 j v x (by simpa using b) A))
 | false=>
  simp only[k,gp,IL]at g ⊢;split at g
  ·rename_i sh;obtain⟨rfl,rfl⟩:=ZE g;simp only[IR,fH,dx]at q;have h:o<ps.length:=by omega
   have hd:ps.getD o default=ps[o]:=by simp[I7,Ia h]
   simp only[XG,Ie]at a;obtain⟨v,b,z⟩:=hr.at_ (Ia h);rw[hd]at a ⊢;exact⟨rfl,v,by simp[hc o v b],.pv _ _ (h7z z a.1)⟩
  ·exact(Zn g).elim
def Uc{xs:List PV}{sz:Nat}(h : ∀ x∈xs,x.cells.length=sz):(flat xs).length=xs.length*sz:=by
 induction xs with
 | nil=>simp[flat]
 | cons x xs ih=>have h1:=h x (by simp);have h2:=ih (λy a=>h y (by simp[a]));simp only[flat,bW,Ip,IR,II,aW]at h2 ⊢;omega
def VQ(x:PV)(xs:List PV):flat (x::xs)=x.cells++flat xs:=rfl
def KS(xs ys:List PV):flat (xs++ys)=flat xs++flat ys:=by simp[flat]
def DC{xs:List PV}{sz:Nat}(h : ∀ x∈xs,x.cells.length=sz): ∀ n,(flat xs).drop (n*sz)=flat (xs.drop n):=by
 induction xs with
 | nil=>intro n;simp[flat]
 | cons x xs ih=>
  intro n;have h1:=h x (by simp);cases n with
  | zero=>simp
  | succ n=>rw[VQ,List.drop_succ_cons,<- ih (λy a=>h y (by simp[a])) n,II,aW,dz,<- h1,fA];simp
def Sy{xs:List PV}{sz:Nat}(h : ∀ x∈xs,x.cells.length=sz): ∀ n,(flat xs).take (n*sz)=flat (xs.take n):=by
 induction xs with
 | nil=>intro n;simp[flat]
 | cons x xs ih=>
  intro n;have h1:=h x (by simp);cases n with
  | zero=>simp[flat]
  | succ n=>rw[VQ,di,VQ,<- ih (λy a=>h y (by simp[a])) n,II,aW,dz,<- h1,fB];rw[IX (by omega)];simp
def Eb{xs:List PV}{sz i:Nat}{y:PV}(h : ∀ x∈xs,x.cells.length=sz)(a:xs[i]? = some y):((flat xs).drop (i*sz)).take sz=y.cells:=by
 have hi:=(Ic.1 a).1;have e:xs[i]=y:=by rw[Ia hi]at a;exact gL a
 rw[DC h,aB hi,e,VQ,<- h y (e▸fC hi)];simp
def RP.sl_cells{Φ:Yk}{w:World}{v:Value}{sz:Nat}{t:Bool}{xs:List PV}(h:RP Φ v (.sl sz t xs))(r:UL Φ w)(y:xs≠[]):
  ∃ b off c cs q,v = .slice (some ⟨b,off,none⟩) xs.length c∧Φ b=some cs∧xs.length<=c∧(t->c=xs.length)∧(∀ x∈xs,x.cells.length=sz)∧Qx w b off q∧Un Φ q (flat xs)∧XZ q:=by
 cases h with
 | sl0=>exact absurd rfl y
 | sl b off cs c _ _ _ u hb hc ht hs hu hr=>
  obtain⟨T,fz,s⟩:=r b cs hb;refine⟨b,off,c,cs,(bX (flat xs).length).map u,rfl,hb,hc,ht,hs,?_,⟨by simp,?_⟩,?_⟩
  ·intro j v e;rw[Ij]at e;obtain⟨k,g,rfl⟩:=Cm.1 e;obtain⟨i,rfl⟩:j<(flat xs).length∧j=k:=by have:=Ic.1 g;obtain⟨a,b⟩:=this;simp at a b;exact⟨a,b⟩
   have:=(hu j _ (Ia i)).1;simp[bL,s,this]
  ·intro j v x e l;rw[Ij]at e;obtain⟨k,g,rfl⟩:=Cm.1 e;obtain⟨i,rfl⟩:j<(flat xs).length∧j=k:=by have:=Ic.1 g;obtain⟨a,b⟩:=this;simp at a b;exact⟨a,b⟩
   exact hr j x l
  ·intro v e;obtain⟨k,g,rfl⟩:=IU.1 e;simp at g;exact(hu k _ (Ia g)).2
def RP.rptr_cells{Φ:Yk}{w:World}{v:Value}{xs:List PV}(h:RP Φ v (.rptr xs))(r:UL Φ w):
  ∃ b off q,v = .pointer (some ⟨b,off,none⟩)∧Qx w b off q∧Un Φ q xs∧XZ q:=by
 cases h with
 | rptr b off cs _ u hb hu hr=>
  obtain⟨T,fz,s⟩:=r b cs hb;refine⟨b,off,(bX xs.length).map u,rfl,?_,⟨by simp,?_⟩,?_⟩
  ·intro j v e;rw[Ij]at e;obtain⟨k,g,rfl⟩:=Cm.1 e;obtain⟨i,rfl⟩:j<xs.length∧j=k:=by have:=Ic.1 g;obtain⟨a,b⟩:=this;simp at a b;exact⟨a,b⟩
   have:=(hu j _ (Ia i)).1;simp[bL,s,this]
  ·intro j v x e l;rw[Ij]at e;obtain⟨k,g,rfl⟩:=Cm.1 e;obtain⟨i,rfl⟩:j<xs.length∧j=k:=by have:=Ic.1 g;obtain⟨a,b⟩:=this;simp at a b;exact⟨a,b⟩
   exact hr j x l
  ·intro v e;obtain⟨k,g,rfl⟩:=IU.1 e;simp at g;exact(hu k _ (Ia g)).2
end
section
def QZ(P:Program)(s:Sem Next)(w:World)(K:Value->World->Prop):Prop:=
 match s.run P w with
 | .ok (.value v) w'=>K v w'
 | .ok .skip w'=>K aQ w'
 | .ok (.enter f args) w'=>Calls P f args w' λe b=> ∃ v,e = .returned v∧K v b
 | _=>False
def VS(P:Program)(s:Sem Value)(w:World)(K:Value->World->Prop):Prop:= ∃ v w',s.run P w = .ok v w'∧K v w'
def Yz(c:Ctx)(μ:Mu)(Φ:Yk)(σ':ZC)(x:AV)(v:Value)(w':World):Prop:=∃ b Φ',μ.le b∧Φ.le Φ'∧Good c b Φ' σ' w'∧R b Φ' v x
def VS.gives{P:Program}{s:Sem Value}{w:World}{K:Value->World->Prop}(h:VS P s w K):QZ P (do pure (.value (<- s))) w K:=by obtain⟨v,w',h1,h2⟩:=h;simp[QZ,h1,h2]
def Zm{c:Ctx}{μ:Mu}{Φ:Yk}{σ:ZC}{w:World}{x:AV}{v:Value}(b:Good c μ Φ σ w)(h:R μ Φ v x):Yz c μ Φ σ x v w:=⟨μ,Φ,Mu.le.refl _,Yk.le.refl _,b,h⟩
section
variable {P:Program} {c:Ctx} {μ:Mu} {Φ:Yk} {σ σ':ZC} {w:World} {a:Act} {env:List AV} {L:Nat} {x:AV}
def a8k(i:Good c μ Φ σ w){l:Nat}{cs:List AV}(e:σ[l]? = some (.obj (.box cs))){B C S:Nat}(hm:μ l 0=some (B,C,S)):
  ∃ b T,w.heap[B]? = some (.cells b T (0,0))∧RL μ Φ b.toList cs∧XZ b.toList∧Qx w B 0 b.toList:=by
 obtain⟨B',C',S',T,b,h1,h2,h3,h,h5⟩:=i.obj l _ e;rw[hm]at h1;cases h1
 exact⟨b,T,h2,h3,h,λj v g=>by
  have:b[j]? = some v:=by simpa using g
  simp[bL,h2,this]⟩
def DK(j:Good c μ Φ σ w){l:Nat}{fz:Bool}{ty sz:Nat}{xs:List PV}(e:σ[l]? = some (.obj (.row fz ty sz xs))){n B C S:Nat}(hn:xs.length=n)(hm:μ l n=some (B,C,S)):
  S=sz∧ ∃ b,QP w B b ty n C∧b.size=C*sz∧xs.length<=C∧C<=maxLen∧(∀ x∈xs,x.cells.length=sz)∧Un Φ (b.toList.take (xs.length*sz)) (flat xs)∧XZ (b.toList.take (xs.length*sz)):=by
 obtain⟨B',C',b,h1,h2,h3,k,q,i,r,h,g,h10⟩:=j.obj l _ e;rw[hn,hm]at h1;cases h1;exact⟨rfl,b,hn▸h3,k,q,i,r,h,g⟩
def c4h{b:Array Value}{sz i:Nat}{xs:List PV}{y:PV}{B n C:Nat}{ty:TypeId}(g:QP w B b ty n C)(hs : ∀ x∈xs,x.cells.length=sz)
  (hr:Un Φ (b.toList.take (xs.length*sz)) (flat xs)) (ho:XZ (b.toList.take (xs.length*sz))) (h:xs[i]? = some y) :
  Qx w B (i*sz) ((b.toList.drop (i*sz)).take sz)∧Un Φ ((b.toList.drop (i*sz)).take sz) y.cells∧XZ ((b.toList.drop (i*sz)).take sz):=by
 have hi:=(Ic.1 h).1;have hle:i*sz+sz<=xs.length*sz:=by
  have:(i+1)*sz<=xs.length*sz:=IG _ hi
  rwa [II,aW]at this
 have e:((b.toList.take (xs.length*sz)).drop (i*sz)).take sz=(b.toList.drop (i*sz)).take sz:=by rw[aO,dH,cK (by omega)]
 obtain⟨z,g,_⟩:=g;refine⟨VL g _ _,?_,?_⟩
 ·have:=(hr.drop (i*sz)).take sz;rw[e,Eb hs h]at this;exact this
 ·have:=(ho.drop (i*sz)).take sz
  rwa [e]at this
def g8h{t:TypeId}{i:TypeInfo}{shs:List Sh}{v:Value}{X:IOp}(hu:(P.underlying t).isSome)(hi:P.info? t=some i)(g:shs.length=i.size)(k:Good c μ Φ σ w)(h:R μ Φ v (ev env X))
  (hr:(WW L env (.load (WG P t) shs X)).run σ=some (x,σ')):VS P (bg t v) w (Yz c μ Φ σ' x):=by
 simp only[WW]at hr;split at hr
 ·rename_i ps q;rw[q]at h;obtain⟨b,off,D,rfl,hc,E,ho⟩:=(Y6 h).rptr_cells k.phi;obtain⟨rfl,u,h1,h2⟩:=c3x (P:=P) (μ:=μ) hu hi g hc E ho hr;exact⟨u,w,by simpa [bg,aP]using h1,Zm k h2⟩
 ·rename_i l o q;rw[q]at h;obtain⟨ob,e,hr⟩:=VC hr;split at hr
  ·rename_i cs;obtain⟨z,rfl⟩:=Ko hr;rw[g]at z;cases h with
   | ptr _ _ B C S hm=>obtain⟨D,T,h1,h2,h3,y⟩:=a8k k e hm;obtain⟨u,k1,s⟩:=d7d (P:=P) hu hi y h2 h3 z;exact⟨u,w,by simpa [bg,aP]using k1,Zm k s⟩
  ·exact(Zn hr).elim
 ·rename_i l m j o q;rw[q]at h;obtain⟨ob,e,hr⟩:=VC hr;split at hr
  ·rename_i fz ty sz xs;have r:=YR hr;clear hr;obtain⟨A,hr⟩:=r;simp only[Ie,gm,fu]at A;obtain⟨hn,K⟩:=A;have N:xs[j]? = some (xs.getD j default):=by simp[I7,Ia K]
   cases h with
   | eptr _ _ _ _ B C S hm=>obtain⟨rfl,D,h1,h2,h3,h3',y,M,J⟩:=DK k e hn hm;obtain⟨I,F,H⟩:=c4h h1 y M J N;obtain⟨rfl,u,k1,s⟩:=c3x (P:=P) (μ:=μ) hu hi g I F H hr;exact⟨u,w,by simpa [bg,aP]using k1,Zm k s⟩
  ·exact(Zn hr).elim
 ·exact(Zn hr).elim
def RP.str'{s:ByteArray}{l:List UInt8}(h:s.data.toList=l):RP Φ (.string s) (.str l):=h ▸ .str s
def g3i{op:BinOp}{k:IntKind}{x y:Int}{r:PV}(hop:d7g op=false)(h:i8o op k x y=some (true,r))(t:TypeId): ∃ v,(binOp op t (.int k x) (.int k y)).run P w = .ok v w∧RP Φ v r:=by
 cases op <;> simp only[i8o,j3h,aX,Option.map_none,Im,Il,gJ,reduceCtorEq]at h
 case quo=>
  obtain⟨b,rfl⟩:=h;have b : ¬ y=0:=by simpa using b
  exact⟨_,by simp[binOp,gG,b] <;> rfl,.int _ _⟩
 case rem=>
  obtain⟨b,rfl⟩:=h;have b : ¬ y=0:=by simpa using b
  exact⟨_,by simp[binOp,gG,b] <;> rfl,.int _ _⟩
 case add=>subst h;exact⟨_,by simp[binOp,dA] <;> rfl,.int _ _⟩
 case sub=>subst h;exact⟨_,by simp[binOp,dA] <;> rfl,.int _ _⟩
 case mul=>subst h;exact⟨_,by simp[binOp,dA] <;> rfl,.int _ _⟩
 case and=>subst h;exact⟨_,by simp only[binOp,ne_eq,gM,gp];rfl,.int _ _⟩
 case or=>subst h;exact⟨_,by simp only[binOp,ne_eq,gM,gp];rfl,.int _ _⟩
 case xor=>subst h;exact⟨_,by simp only[binOp,ne_eq,gM,gp];rfl,.int _ _⟩
 case andNot=>subst h;exact⟨_,by simp only[binOp,ne_eq,gM,gp];rfl,.int _ _⟩
 all_goals (subst h;exact⟨_,by simp[binOp,Op.intCmp] <;> rfl,.bool _⟩)
def c6i{op:BinOp}{k e:IntKind}{x y:Int}{r:PV}(h:c8s op k x y=some (true,r))(t:TypeId): ∃ v,(binOp op t (.int k x) (.int e y)).run P w = .ok v w∧RP Φ v r:=by
 cases op <;> simp only[c8s,Im,Il,fu,reduceCtorEq]at h
 all_goals
  obtain⟨b,rfl⟩:=h;have b : ¬ y<0:=by omega
  exact⟨_,by simp[binOp,Op.shift,b] <;> rfl,.int _ _⟩
def f0y{op:BinOp}{a b:ByteArray}{r:PV}(h:i3t op a.data.toList b.data.toList=some (true,r))(t:TypeId): ∃ v,(binOp op t (.string a) (.string b)).run P w = .ok v w∧RP Φ v r:=by
 cases op <;> simp[i3t]at h
 case add=>
  obtain⟨h1,rfl⟩:=h;have e1:a.data.toList.length=a.size:=by simp
  have e2:b.data.toList.length=b.size:=by simp
  refine⟨.string (a++b),?_,RP.str' (by simp[ByteArray.data_append])⟩
  have:=run_string_add_sum (P:=P) w a b (by omega);simpa [binOp]using this
 all_goals (subst h;exact⟨_,by simp[binOp,Op.stringOp,bF] <;> rfl,.bool _⟩)
def Tt{k b:IntKind}(h:R9 k b):k=b:=by cases k <;> cases b <;> first|rfl|simp[R9]at h
def Py(P:Program):Nat->List Field->Option (List Nat)
 | _,[]=>some []
 | k,f::fs=>if f.name ≠ "_" ∧f.offset=k then
   match P.underlying f.type with
   | some (.int _)=>(Py P (k+1) fs).map (0:: ·)
   | some .string=>(Py P (k+1) fs).map (1:: ·)
   | some .bool=>(Py P (k+1) fs).map (2:: ·)
   | _=>none
  else none
def c5g(P:Program)(op:BinOp)(t:TypeId)(y:Operand):Option Kd:=
 match P.underlying t with
 | some .bool=>some .bool
 | some (.pointer _)=>some .ptr
 | some (.interface _)=>match y with | .const _=>some .ifc|_=>none
 | some (.int _)|some .string=>some .num
 | some (.struct fs)=>if P.stoodInHeld t=false∧P.eqGuardType P.depth t=false then(Py P 0 fs.toList).map .agg else none
 | _=>none
def eqg{op:BinOp}{t:TypeId}{xo yo:Operand}{u v:Value}(hu:u ≠ .nilIface)(ha : ∀ cs,u ≠ .agg cs):(eqGuard op t xo yo u v).run P w = .ok () w:=by unfold eqGuard;cases u <;> first|exact absurd rfl hu|exact absurd rfl (ha _)|(cases op <;> rfl)
def Kk(t:TypeId)(x y:Value):bI t x y=aJ (9999+1) t x y:=rfl
def JV{P:Program}{w:World}{t:TypeId}{cs:Array Value}{k:Nat}{v:Value}(hu:(P.underlying t).isSome)(ha:WG P t=false)(b:cs[k]? = some v):(part t cs k).run P w = .ok v w:=by unfold part;simp only[Ig,Tf hu,ha,Ik,b,IL,gp];rfl
def c0t{d:Nat}{xs ys:Array Value}{ps qs:List PV}(hxn:xs.size=ps.length)(hyn:ys.size=qs.length)(hx : ∀ (j:Nat) v p,xs[j]? = some v->ps[j]? = some p->RP Φ v p)(Y : ∀ (j:Nat) v p,ys[j]? = some v->qs[j]? = some p->RP Φ v p):
  ∀ (B:List Field) (k:Nat) (ks:List Nat) (b:Bool),Py P k B=some ks->eqL ks (ps.drop k) (qs.drop k)=some b->(dB (d+1) xs ys B).run P w = .ok b w:=by
 intro B
 induction B with
 | nil=>intro k ks b s hb;simp only[Py,Im]at s;subst s;simp only[dB,IZ];cases z:ps.drop k <;> cases A:qs.drop k <;> rw[z,A]at hb <;> simp[eqL]at hb;subst hb;rfl
 | cons f B ih=>
  intro k ks b s hb;simp only[Py]at s;split at s
  ·rename_i hn;obtain⟨O,M⟩:=hn;have C : ∀ (n:Nat),(Py P (k+1) B).map (n:: ·)=some ks->WG P f.type=false->(P.underlying f.type).isSome=true ->
     (∀ (p q:PV) (u v:Value) (r:Bool),eqL [n] [p] [q]=some r->RP Φ u p->RP Φ v q->(aJ (d+1) f.type u v).run P w = .ok r w) ->
     (∀ (p q:PV) (g i:List PV) (e:List Nat) (b:Bool),eqL (n::e) (p::g) (q::i)=some b-> ∃ r l,eqL [n] [p] [q]=some r∧eqL e g i=some l∧b=(r&&l))->(dB (d+1) xs ys (f::B)).run P w = .ok b w:=by
    intro n hm ha hu Z T;obtain⟨e,F,rfl⟩:=Cm.1 hm;cases z:ps.drop k with
    | nil=>rw[z]at hb;simp[eqL]at hb
    | cons p g=>
     cases A:qs.drop k with
     | nil=>rw[z,A]at hb;simp[eqL]at hb
     | cons q i=>
      rw[z,A]at hb;obtain⟨r,l,h1,h2,rfl⟩:=T p q g i e b hb;have J:k<ps.length:=by
       rcases d9 k ps.length with h|h
       ·exact h
       ·rw[dC h]at z;cases z
      have E:k<qs.length:=by
       rcases d9 k qs.length with h|h
       ·exact h
       ·rw[dC h]at A;cases A
      rw[aB J,cO]at z;rw[aB E,cO]at A;obtain⟨S,rfl⟩:=z;obtain⟨N,rfl⟩:=A;have ex:xs[k]? = some (xs[k]'(by omega)):=Ii (by omega);have X:ys[k]? = some (ys[k]'(by omega)):=Ii (by omega);have W:=hx k _ _ ex (Ia J);have V:=Y k _ _ X (Ia E);rw[S]at W;rw[N]at V;have K:=ih (k+1) e l F h2;have U:=Z p q _ _ r h1 W V;rw[dB,fw O,M];simp only[Ig,JV hu ha ex,JV hu ha X,Ik,U];cases r
      ·simp[IZ]
      ·simpa using K
   have D : ∀ (P Q:Option Bool) (a:Bool) (b:Bool),P.map (λr=>a&&r)=some b-> ∃ l,P=some l∧b=(a&&l):=λP Q a b h=>by obtain⟨l,h1,h2⟩:=Cm.1 h;exact⟨l,h1,h2.symm⟩
   split at s
   ·rename_i kk hu;refine C 0 s (by simp[WG,hu]) (by simp[hu]) ?_ ?_
    ·intro p q u v r h H I;cases p <;> cases q <;> simp[eqL]at h;split at h
     ·rename_i y;have y:=Tt y;subst y;simp[eqL]at h;subst h;cases H;cases I;exact run_equalIn_int w d f.type _ _ _ _ hu
     ·cases h
    ·intro p q g i e b h;cases p <;> cases q <;> simp only[eqL,reduceCtorEq]at h;split at h
     ·rename_i y;obtain⟨l,h1,rfl⟩:=D _ none _ _ h;exact⟨_,l,by simp[eqL,y],h1,rfl⟩
     ·cases h
   ·rename_i hu;refine C 1 s (by simp[WG,hu]) (by simp[hu]) ?_ ?_
    ·intro p q u v r h H I;cases p <;> cases q <;> simp[eqL]at h;subst h;cases H;cases I;rw[run_equalIn_string w d f.type _ _ hu,bF,bF]
    ·intro p q g i e b h;cases p <;> cases q <;> simp only[eqL,reduceCtorEq]at h;obtain⟨l,h1,rfl⟩:=D _ none _ _ h;exact⟨_,l,by simp[eqL],h1,rfl⟩
   ·rename_i hu;refine C 2 s (by simp[WG,hu]) (by simp[hu]) ?_ ?_
    ·intro p q u v r h H I;cases p <;> cases q <;> simp[eqL]at h;subst h;cases H;cases I;exact run_equalIn_bool' w d f.type _ _ hu
    ·intro p q g i e b h;cases p <;> cases q <;> simp only[eqL,reduceCtorEq]at h;obtain⟨l,h1,rfl⟩:=D _ none _ _ h;exact⟨_,l,by simp[eqL],h1,rfl⟩
   ·cases s
  ·cases s
def i0t{op:BinOp}{t:TypeId}{xo yo:Operand}{u v:Value}{X Y:IOp}{kd:Kd}(i:c5g P op t yo=some kd)(O:Good c μ Φ σ w)(hu:R μ Φ u (ev env X))(j:R μ Φ v (ev env Y))
  (hr:(WW L env (.bin kd op X Y)).run σ=some (x,σ')):VS P (do eqGuard op t xo yo u v;binOp op t u v) w (Yz c μ Φ σ' x):=by
 simp only[WW]at hr;split at hr
 case h_2=>exact(Zn hr).elim
 rename_i rq r h;have E:=YR hr;clear hr;obtain⟨rfl,hr⟩:=E;obtain⟨rfl,rfl⟩:=ZE hr;generalize ev env X=X' at hu h;generalize ev env Y=Y' at j h;have s : ∀ v',(∃ z,(do eqGuard op t xo yo u v;binOp op t u v:Sem Value).run P w = .ok z w∧RP Φ z v')->v'=r->VS P (do eqGuard op t xo yo u v;binOp op t u v) w (Yz c μ Φ σ' (.pv r)):=by rintro _ ⟨z,h1,h2⟩ rfl;exact⟨z,w,h1,Zm O (.pv _ _ h2)⟩
 unfold j3a at h;split at h
 ·replace hu:=Y6 hu;cases hu;replace j:=Y6 j;cases j;refine s r ?_ rfl;have g:=λu v hu ha=>eqg (P:=P) (w:=w) (op:=op) (t:=t) (xo:=xo) (yo:=yo) (u:=u) (v:=v) hu ha
  split at h
  ·obtain⟨z,h1,h2⟩:=c6i (P:=P) (w:=w) (Φ:=Φ) h t;exact⟨z,by rw[Ig,g _ _ (by simp) (by simp)];exact h1,h2⟩
  ·rename_i y;split at h
   ·rename_i e;have e:=Tt e;subst e;obtain⟨z,h1,h2⟩:=g3i (P:=P) (w:=w) (Φ:=Φ) y h t;exact⟨z,by rw[Ig,g _ _ (by simp) (by simp)];exact h1,h2⟩
   ·cases h
 ·replace hu:=Y6 hu;cases hu;replace j:=Y6 j;cases j;refine s r ?_ rfl;have g:=λu v hu ha=>eqg (P:=P) (w:=w) (op:=op) (t:=t) (xo:=xo) (yo:=yo) (u:=u) (v:=v) hu ha
  obtain⟨z,h1,h2⟩:=f0y (P:=P) (w:=w) (Φ:=Φ) h t;exact⟨z,by rw[Ig,g _ _ (by simp) (by simp)];exact h1,h2⟩
 ·replace hu:=Y6 hu;cases hu;replace j:=Y6 j;cases j;refine s r ?_ rfl;have g:=λu v hu ha=>eqg (P:=P) (w:=w) (op:=op) (t:=t) (xo:=xo) (yo:=yo) (u:=u) (v:=v) hu ha
  have ht:P.underlying t=some .bool:=by unfold c5g at i;split at i <;> first|assumption|(simp at i)|(split at i <;> simp at i)
  have l : ∀ a b,(bI t (.bool a) (.bool b)).run P w = .ok (a==b) w:=λa b=>by rw[Kk];unfold aJ;simp[run_underlying ht]
  unfold eqB at h;split at h
  ·cases h;exact⟨_,by rw[Ig,g _ _ (by simp) (by simp)];simp[binOp,l] <;> rfl,.bool _⟩
  ·cases h;exact⟨_,by rw[Ig,g _ _ (by simp) (by simp)];simp[binOp,l] <;> rfl,.bool _⟩
  ·cases h
 ·replace hu:=Y6 hu;cases hu;replace j:=Y6 j;cases j;refine s r ?_ rfl;have g:=λu v hu ha=>eqg (P:=P) (w:=w) (op:=op) (t:=t) (xo:=xo) (yo:=yo) (u:=u) (v:=v) hu ha
  obtain⟨e,ht⟩ : ∃ e,P.underlying t=some (.pointer e):=by unfold c5g at i;split at i <;> first|exact⟨_,‹_›⟩|(simp at i)|(split at i <;> simp at i)
  have l:(bI t (.pointer none) (.pointer none)).run P w = .ok true w:=by rw[Kk];unfold aJ;simp[run_underlying ht]
  unfold eqB at h;split at h
  ·cases h;exact⟨_,by rw[Ig,g _ _ (by simp) (by simp)];simp[binOp,l] <;> rfl,.bool _⟩
  ·cases h;exact⟨_,by rw[Ig,g _ _ (by simp) (by simp)];simp[binOp,l] <;> rfl,.bool _⟩
  ·cases h
 ·cases hu;replace j:=Y6 j;cases j;refine s r ?_ rfl;have g:=λu v hu ha=>eqg (P:=P) (w:=w) (op:=op) (t:=t) (xo:=xo) (yo:=yo) (u:=u) (v:=v) hu ha
  obtain⟨e,ht⟩ : ∃ e,P.underlying t=some (.pointer e):=by unfold c5g at i;split at i <;> first|exact⟨_,‹_›⟩|(simp at i)|(split at i <;> simp at i)
  have l : ∀ q,(bI t (.pointer (some q)) (.pointer none)).run P w = .ok false w:=λq=>by rw[Kk];unfold aJ;simp[run_underlying ht]
  unfold eqB at h;split at h
  ·cases h;exact⟨_,by rw[Ig,g _ _ (by simp) (by simp)];simp[binOp,l] <;> rfl,.bool _⟩
  ·cases h;exact⟨_,by rw[Ig,g _ _ (by simp) (by simp)];simp[binOp,l] <;> rfl,.bool _⟩
  ·cases h
 ·replace hu:=Y6 hu;cases hu;replace j:=Y6 j;cases j;refine s r ?_ rfl;have g:=λu v hu ha=>eqg (P:=P) (w:=w) (op:=op) (t:=t) (xo:=xo) (yo:=yo) (u:=u) (v:=v) hu ha
  obtain⟨e,ht⟩ : ∃ e,P.underlying t=some (.pointer e):=by unfold c5g at i;split at i <;> first|exact⟨_,‹_›⟩|(simp at i)|(split at i <;> simp at i)
  have l : ∀ q,(bI t (.pointer (some q)) (.pointer none)).run P w = .ok false w:=λq=>by rw[Kk];unfold aJ;simp[run_underlying ht]
  unfold eqB at h;split at h
  ·cases h;exact⟨_,by rw[Ig,g _ _ (by simp) (by simp)];simp[binOp,l] <;> rfl,.bool _⟩
  ·cases h;exact⟨_,by rw[Ig,g _ _ (by simp) (by simp)];simp[binOp,l] <;> rfl,.bool _⟩
  ·cases h
 ·rename_i p;replace hu:=Y6 hu;replace j:=Y6 j;cases j;have N : ∃ k K,yo = .const k∧P.underlying t=some (.interface K):=by unfold c5g at i;split at i <;> first|(simp at i;done)|(split at i <;> first|exact⟨_,_,rfl,‹_›⟩|(simp at i;done))
  obtain⟨k,K,rfl,ht⟩:=N;obtain⟨⟨q1,M⟩,hq,hqe⟩:=Cm.1 h;simp only[Il,Ie]at hqe;obtain⟨⟨I,rfl⟩,rfl⟩:=hqe;refine s M ?_ rfl;cases hu <;> simp[a7y]at I
  ·have A:(eqGuard op t xo (.const k) .nilIface .nilIface).run P w = .ok () w:=by unfold eqGuard;cases xo <;> cases op <;> rfl
   have l:(bI t .nilIface .nilIface).run P w = .ok true w:=by rw[Kk];unfold aJ;simp[run_underlying ht]
   unfold eqB Cx at hq;split at hq
   ·cases hq;exact⟨_,by rw[Ig,A];simp[binOp,l] <;> rfl,.bool _⟩
   ·cases hq;exact⟨_,by rw[Ig,A];simp[binOp,l] <;> rfl,.bool _⟩
   ·cases hq
  ·have g:=λu v hu ha=>eqg (P:=P) (w:=w) (op:=op) (t:=t) (xo:=xo) (yo:=.const k) (u:=u) (v:=v) hu ha
   have l : ∀ t' v',(bI t (.iface t' v') .nilIface).run P w = .ok false w:=λt' v'=>by rw[Kk];unfold aJ;simp[run_underlying ht]
   unfold eqB Cx at hq;split at hq
   ·cases hq;exact⟨_,by rw[Ig,g _ _ (by simp) (by simp)];simp[binOp,l] <;> rfl,.bool _⟩
   ·cases hq;exact⟨_,by rw[Ig,g _ _ (by simp) (by simp)];simp[binOp,l] <;> rfl,.bool _⟩
   ·cases hq
 ·rename_i ks ps qs;replace hu:=Y6 hu;replace j:=Y6 j;cases hu with
  | agg cs _ hn ho hr=>
   cases j with
   | agg ds _ hm hp hs=>
    refine s r ?_ rfl;obtain⟨B,ht,H,D,J⟩ : ∃ B,P.underlying t=some (.struct B)∧P.stoodInHeld t=false∧P.eqGuardType P.depth t=false∧Py P 0 B.toList=some ks:=by
     unfold c5g at i;split at i <;> first
      | (simp at i;done)
      | (split at i <;> first
        | (simp at i;done)
        | (rename_i B ht hc;obtain⟨ks',F,e⟩:=Cm.1 i;cases e;exact⟨B,ht,hc.1,hc.2,F⟩))
    obtain⟨b,hb,y⟩:=Ib.1 h;have C:P.fieldsOf t=B:=by simp[Program.fieldsOf,ht]
    have l:(aJ 10000 t (.agg cs) (.agg ds)).run P w = .ok b w:=by rw[run_equalIn_struct w 9999 t cs ds (by rw[C];exact ht) H,C];exact c0t hn hm hr hs B.toList 0 ks b J (by simpa using hb)
    unfold eqB at y;split at y
    ·cases y;exact⟨_,by rw[Ig,run_eqGuard_agg w _ t xo yo cs ds D];simp only[Ik];rw[run_eql_struct w t cs ds,l];rfl,.bool _⟩
    ·cases y;exact⟨_,by rw[Ig,run_eqGuard_agg w _ t xo yo cs ds D];simp only[Ik];rw[run_neq_struct w t cs ds,l];rfl,.bool _⟩
    ·cases y
 ·cases h
end
end
section
section
variable {P:Program} {c:Ctx} {μ:Mu} {Φ:Yk} {σ σ':ZC} {w:World} {a:Act} {env:List AV} {L:Nat} {x:AV}
def e1z{α:Type}{b:Bool}{k:Bool->HM α}{σ σ':ZC}{x:α}(h:(HM.ask b k).run σ=some (x,σ')):(k b).run σ=some (x,σ'):=h
def h5n{u v z:Value}{X Y Z:IOp}(b:Good c μ Φ σ w)(hu:R μ Φ u (ev env X))(e:R μ Φ v (ev env Y))(h:R μ Φ z (ev env Z))
  (hr:(WW L env (.pick X Y Z)).run σ=some (x,σ')):VS P (do pure (if <- asBool u then v else z)) w (Yz c μ Φ σ' x):=by
 simp only[WW]at hr;split at hr
 ·rename_i d g;rw[g]at hu;replace hr:=e1z hr;replace hu:=Y6 hu;cases hu;cases d
  ·obtain⟨rfl,rfl⟩:=ZE hr;exact⟨z,w,by simp[asBool],Zm b h⟩
  ·obtain⟨rfl,rfl⟩:=ZE hr;exact⟨v,w,by simp[asBool],Zm b e⟩
 ·exact(Zn hr).elim
def j4y{op:UnOp}{u:Value}{X:IOp}(b:Good c μ Φ σ w)(hu:R μ Φ u (ev env X))(hr:(WW L env (.un op X)).run σ=some (x,σ')):VS P (Op.unary op u) w (Yz c μ Φ σ' x):=by
 simp only[WW]at hr;split at hr
 ·rename_i p e;rw[e]at hu;replace hu:=Y6 hu;obtain⟨h,rfl⟩:=Ko hr;rw[Cm]at h;obtain⟨r,h,rfl⟩:=h;unfold unB at h;split at h
  ·cases h;cases hu;exact⟨_,w,rfl,Zm b (.pv _ _ (.bool _))⟩
  ·cases h;cases hu
   exact⟨_,w,by simp[Op.unary,dA] <;> rfl,Zm b (.pv _ _ (by
    have : ∀ n:Int,0 - n = -n:=λn=>by omega
    first|exact .int _ _|(rw[this];exact .int _ _)))⟩
  ·cases h
 ·exact(Zn hr).elim
def h2c{b dst:TypeId}{k:IntKind}{u:Value}{X:IOp}(hs:(P.underlying b).isSome)(hd:P.underlying dst=some (.int k))(g:Good c μ Φ σ w)(hu:R μ Φ u (ev env X))
  (hr:(WW L env (.conv k X)).run σ=some (x,σ')):VS P (convert b dst u) w (Yz c μ Φ σ' x):=by
 simp only[WW]at hr;split at hr
 ·rename_i k' n e;rw[e]at hu;replace hu:=Y6 hu;obtain⟨rfl,rfl⟩:=ZE hr;cases hu;obtain⟨d,hd'⟩:=aF.1 hs;exact⟨.int k (k.wrap n),w,by simp[convert,run_underlying hd',run_underlying hd,Conv.intToInt],Zm g (.pv _ _ (.int _ _))⟩
 ·exact(Zn hr).elim
def e7e{u:Value}{X:IOp}(g:Good c μ Φ σ w)(hu:R μ Φ u (ev env X))(hr:(WW L env (.nilchk X)).run σ=some (x,σ'))(o:Oper)(ρ:Operand->Value)(y:Operand)(ho:o.op = .nilCheck y)(h:ρ y=u):
  QZ P (execOp ρ o) w (Yz c μ Φ σ' x):=by
 simp only[WW]at hr;unfold QZ execOp;simp only[ho,h];split at hr
 ·rename_i e;rw[e]at hu;obtain⟨rfl,rfl⟩:=ZE hr;cases hu with
  | ptr _ _ B C S hm=>exact Zm g (.ptr _ _ B C S hm)
 ·rename_i e;rw[e]at hu;obtain⟨rfl,rfl⟩:=ZE hr;have b:=hu;replace hu:=Y6 hu;cases hu;exact Zm g b
 ·rename_i e;rw[e]at hu;obtain⟨rfl,rfl⟩:=ZE hr;cases hu with
  | eptr _ _ _ _ B C S hm=>exact Zm g (.eptr _ _ _ _ B C S hm)
 ·rename_i e;rw[e]at hu;obtain⟨rfl,rfl⟩:=ZE hr;have b:=hu;cases hu;exact Zm g b
 ·rename_i e;rw[e]at hu;obtain⟨rfl,rfl⟩:=ZE hr;have b:=hu;replace hu:=Y6 hu;cases hu;exact Zm g b
 ·exact(Zn hr).elim
def i5m{ρ:Operand->Value}: ∀ {xs:List Operand} {ys:List IOp},Vj Y4 xs=some ys->(∀ o p,Y4 o=some p->R μ Φ (ρ o) (ev env p))->RL μ Φ (xs.map ρ) (ys.map (ev env)):=by
 intro xs
 induction xs with
 | nil=>intro ys h _;cases h;exact RL.nil
 | cons o xs ih=>intro ys h hr;simp only[Vj,Ib,Cm]at h;obtain⟨y,e,ys',b,rfl⟩:=h;exact RL.cons (hr o y e) (ih b hr)
def h1e{f:Nat}{xs ys:Array Value}{g l:List IOp}(i:Good c μ Φ σ w)(e:RL μ Φ xs.toList (g.map (ev env)))(b:RL μ Φ ys.toList (l.map (ev env)))
  (hr:(WW L env (.mkfn f g l)).run σ=some (x,σ')):VS P (Instr.makeFunc (.func f) xs ys) w (Yz c μ Φ σ' x):=by
 simp only[WW]at hr;split at hr
 ·obtain⟨rfl,rfl⟩:=ZE hr;have r:xs = #[]:=by simpa using e.unnil
  have q:ys = #[]:=by simpa using b.unnil
  subst r q;exact⟨_,w,rfl,Zm i (.pv _ _ (.fn f))⟩
 ·obtain⟨rfl,rfl⟩:=ZE hr;exact⟨_,w,rfl,Zm i (.fn f _ _ _ _ (by simpa using e.1) (by simpa using b.1) (λj v x h k=>e.2 j v x (by simpa using h) k) (λj v x h k=>b.2 j v x (by simpa using h) k))⟩
def a9m{h:Nat}{u:Value}{X:IOp}{I:Value->Sem Value}(key : ∀ q,(I (.pointer (some q))).run P w = .ok (.pointer (some (q.add h))) w)
  (i:Good c μ Φ σ w) (hu:R μ Φ u (ev env X)) (hr:(WW L env (.faddr h X)).run σ=some (x,σ')):VS P (I u) w (Yz c μ Φ σ' x):=by
 simp only[WW]at hr;split at hr
 ·rename_i e;rw[e]at hu;obtain⟨rfl,rfl⟩:=ZE hr;cases hu with
  | ptr _ _ B C S hm=>exact⟨_,w,key _,Zm i (by rw[VB];exact .ptr _ _ B C S hm)⟩
 ·rename_i e;rw[e]at hu;obtain⟨rfl,rfl⟩:=ZE hr;replace hu:=Y6 hu;cases hu with
  | rptr b off cs xs u hb hu hrr=>
   refine⟨_,w,key _,Zm i ?_⟩;rw[VB];refine .pv _ _ (.rptr b (off+h) cs _ (λj=>u (h+j)) hb ?_ ?_)
   ·intro j p g;rw[IA]at g
    have:=hu _ p g
    rwa [<- I8]at this
   ·intro j p g;rw[IA]at g;exact hrr _ p g
 ·rename_i e;rw[e]at hu;obtain⟨rfl,rfl⟩:=ZE hr;cases hu with
  | eptr _ _ _ _ B C S hm=>exact⟨_,w,key _,Zm i (by rw[VB,I8];exact .eptr _ _ _ _ B C S hm)⟩
 ·exact(Zn hr).elim
def f1m{s:TypeId}{g:Array Field}{n:Nat}{f:Field}{i:TypeInfo}{u:Value}{X:IOp}(hs:P.underlying s=some (.struct g))(h:g[n]? = some f)(hi:P.info? f.type=some i)(j:(i.size==0)=false)
  (k:Good c μ Φ σ w) (hu:R μ Φ u (ev env X)) (hr:(WW L env (.faddr f.offset X)).run σ=some (x,σ')):VS P (bU s u n) w (Yz c μ Φ σ' x):=by
 have b : ¬ i.size=0:=by simpa using j
 have e : ∀ q,(bU s (.pointer (some q)) n).run P w = .ok (.pointer (some (q.add f.offset))) w:=by intro q;simp[bU,run_underlying hs,h,aP,fieldPlace,YF hi,b]
 exact a9m (I:=λu=>bU s u n) e k hu hr
def f9m{t e:TypeId}{n:Nat}{i:TypeInfo}{k:IntKind}{z:Int}{u:Value}{X:IOp}(ht:P.underlying t=some (.array n e))(hi:P.info? e=some i)(g:0<=z∧z<n)
  (h:Good c μ Φ σ w) (hu:R μ Φ u (ev env X)) (hr:(WW L env (.faddr (z.toNat*i.size) X)).run σ=some (x,σ')):VS P (aI t u (.int k z)) w (Yz c μ Φ σ' x):=by
 have b : ∀ q,(aI t (.pointer (some q)) (.int k z)).run P w = .ok (.pointer (some (q.add (z.toNat*i.size)))) w:=by intro q;simp[aI,run_underlying ht,aP,asIntOf,YF hi,g.1,g.2]
 exact a9m (I:=λu=>aI t u (.int k z)) b h hu hr
def b6z{t:TypeId}{i:TypeInfo}{cs:Array Value}{xs:List AV}{o:Nat}{y:AV}(hu:(P.underlying t).isSome)(hi:P.info? t=some i)(hr:RL μ Φ cs.toList xs)(ho:XZ cs.toList)
  (b:Ni (WG P t) i.size xs o=some y) : ∃ v,(part t cs o).run P w = .ok v w∧R μ Φ v y:=by
 unfold Ni at b;simp only[part,Ig,Tf hu,Ik];cases e:WG P t with
 | true=>
  simp only[e,gq]at b ⊢;split at b
  ·cases b;refine⟨.agg ((cs.toList.drop o).take i.size).toArray,?_,a2c ((hr.drop o).take _) ((ho.drop o).take _)⟩;simp only[Ig,YF hi,Ik,IZ];congr 2;apply Array.ext';simp[Array.toList_extract]
  ·cases b
 | false=>
  simp only[e,gp,IL]at b ⊢;obtain⟨v,g,h⟩:=hr.at_ b;have:cs[o]? = some v:=by simpa using g
  exact⟨v,by simp[this],h⟩
def f8v{s:TypeId}{j:Array Field}{n:Nat}{f:Field}{i:TypeInfo}{u:Value}{X:IOp}(hs:P.underlying s=some (.struct j))(k:j[n]? = some f)(b:(P.underlying f.type).isSome)(hi:P.info? f.type=some i)
  (l:Good c μ Φ σ w) (hu:R μ Φ u (ev env X)) (hr:(WW L env (.field (WG P f.type) f.offset i.size X)).run σ=some (x,σ')):VS P (eZ s u n) w (Yz c μ Φ σ' x):=by
 simp only[WW]at hr;split at hr
 ·rename_i ps g;rw[g]at hu;obtain⟨e,rfl⟩:=Ko hr;replace hu:=Y6 hu;have hc:=GY hu rfl;cases hu with
  | agg cs _ hn ho h=>obtain⟨v,h1,h2⟩:=b6z (P:=P) (w:=w) (μ:=μ) (cs:=cs) b hi hc.1.toRL hc.2 e;exact⟨v,w,by simpa [eZ,run_underlying hs,k,asAgg]using h1,Zm l h2⟩
 ·rename_i ps g;rw[g]at hu;obtain⟨e,rfl⟩:=Ko hr;have hc:=a0p hu rfl;cases hu with
  | agg cs _ hn ho h=>obtain⟨v,h1,h2⟩:=b6z (P:=P) (w:=w) (μ:=μ) (cs:=cs) b hi hc.1 hc.2 e;exact⟨v,w,by simpa [eZ,run_underlying hs,k,asAgg]using h1,Zm l h2⟩
 ·exact(Zn hr).elim
def d4i{u:Value}{X:IOp}{n:Nat}(j:Good c μ Φ σ w)(hu:R μ Φ u (ev env X))(hr:(WW L env (.extract X n)).run σ=some (x,σ')):VS P (dW u n) w (Yz c μ Φ σ' x):=by
 simp only[WW]at hr;split at hr
 ·rename_i ps i;rw[i]at hu;obtain⟨b,rfl⟩:=Ko hr;rw[Cm]at b;obtain⟨p,k,rfl⟩:=b;replace hu:=Y6 hu;cases hu with
  | tup cs _ hn h=>have g:=(Ic.1 k).1;have e:cs[n]? = some (cs[n]'(by omega)):=Ii (by omega);exact⟨_,w,by simp[dW,e] <;> rfl,Zm j (.pv _ _ (h n _ p e k))⟩
 ·rename_i ps i;rw[i]at hu;obtain⟨b,rfl⟩:=Ko hr;cases hu with
  | tup cs _ hn h=>have g:=(Ic.1 b).1;have e:cs[n]? = some (cs[n]'(by omega)):=Ii (by omega);exact⟨_,w,by simp[dW,e] <;> rfl,Zm j (h n _ x e b)⟩
 ·exact(Zn hr).elim
def g2e{t:TypeId}{u v:Value}{X Y:IOp}(ht:P.underlying t=some .string)(y:Good c μ Φ σ w)(hu:R μ Φ u (ev env X))(e:R μ Φ v (ev env Y))(hr:(WW L env (.index X Y)).run σ=some (x,σ')):
  VS P (bM t u v) w (Yz c μ Φ σ' x):=by
 simp only[WW]at hr;split at hr
 ·rename_i s k i z q;rw[z]at hu;rw[q]at e;replace hu:=Y6 hu;replace e:=Y6 e;have j:=YR hr;clear hr;obtain⟨l,hr⟩:=j;simp only[Ie,fu]at l;obtain⟨r,b⟩:=l;obtain⟨rfl,rfl⟩:=ZE hr;cases e;cases hu with
  | str s=>
   have h:i.toNat<s.size:=by simpa using b
   have g:s[i.toNat]? = some (s.data.toList.getD i.toNat 0):=by
    rw[getElem?_pos s i.toNat h];have h2:s.data.toList.getD i.toNat 0=s.data.toList[i.toNat]:=by simp[I7,Ia b]
    rw[h2];rfl
   exact⟨_,w,by simp[bM,asIntOf,run_underlying ht,r,g] <;> rfl,Zm y (.pv _ _ (.int _ _))⟩
 ·exact(Zn hr).elim
def e8l{sz:Nat}{t:Bool}{xs:List PV}{v:Value}{i:Nat}{y:PV}(h:RP Φ v (.sl sz t xs))(k:xs[i]? = some y):
  ∃ b off c,v = .slice (some ⟨b,off,none⟩) xs.length c∧RP Φ (.pointer (some ⟨b,off+i*sz,none⟩)) (.rptr y.cells):=by
 have hi:=(Ic.1 k).1;cases h with
 | sl0=>simp at hi
 | sl b off cs c _ _ _ u hb hc ht hs hu hr=>
  refine⟨b,off,c,rfl,.rptr b (off+i*sz) cs _ (λj=>u (i*sz+j)) hb ?_ ?_⟩
  ·intro j p g;have e:(flat xs)[i*sz+j]? = some p:=by
    rw[<- Eb hs k,Ir]at g;split at g
    ·rwa [IA]at g
    ·cases g
   have:=hu _ p e
   rwa [<- I8]at this
  ·intro j p g;have e:(flat xs)[i*sz+j]? = some p:=by
    rw[<- Eb hs k,Ir]at g;split at g
    ·rwa [IA]at g
    ·cases g
   exact hr _ p e
def g2y{t e:TypeId}{i:TypeInfo}{u v:Value}{X Y:IOp}(ht:P.underlying t=some (.slice e))(hi:P.info? e=some i)(E:Good c μ Φ σ w)(hu:R μ Φ u (ev env X))(g:R μ Φ v (ev env Y))
  (hr:(WW L env (.iaddr i.size X Y)).run σ=some (x,σ')):VS P (aI t u v) w (Yz c μ Φ σ' x):=by
 have s : ∀ q (len:Nat) cap k (n:Int),0<=n->n<(len:Int)->(aI t (.slice (some q) len cap) (.int k n)).run P w = .ok (.pointer (some (q.add (n.toNat*i.size)))) w:=by intro q len cap k n r h1;simp[aI,asIntOf,run_underlying ht,YF hi,r,h1]
 simp only[WW]at hr;split at hr
 ·rename_i sz' t' xs k n A z;rw[A]at hu;rw[z]at g;replace hu:=Y6 hu;replace g:=Y6 g;have h:=YR hr;clear hr;obtain⟨j,hr⟩:=h;simp only[Ie,fu,gm]at j;obtain⟨⟨r,D⟩,rfl⟩:=j;have F:xs[n.toNat]? = some (xs.getD n.toNat default):=by simp[I7,Ia D]
  obtain⟨rfl,rfl⟩:=ZE hr;cases g;obtain⟨b,off,cp,rfl,h2⟩:=e8l hu F;exact⟨_,w,s _ _ _ _ _ r (by omega),Zm E (by rw[VB];exact .pv _ _ h2)⟩
 ·rename_i l n lo hi' k m A z;rw[A]at hu;rw[z]at g;replace g:=Y6 g;obtain⟨ob,y,hr⟩:=VC hr;split at hr
  ·rename_i fz ty sz' xs;split at hr
   ·rename_i H;subst H;have h:=YR hr;clear hr;obtain⟨j,hr⟩:=h;simp only[Ie,fu,gm]at j;obtain⟨⟨r,h1⟩,hn⟩:=j;obtain⟨rfl,rfl⟩:=ZE hr;cases g;cases hu with
    | row _ _ _ _ B C S q hm h2 h3 h4 ha=>obtain⟨rfl,_⟩:=DK E y hn hm;have j:=ha (.inl (by omega));subst j;refine⟨_,w,s _ _ _ _ _ r (by omega),Zm E ?_⟩;rw[VB,<- II];exact .eptr l n _ 0 B C _ hm
   ·exact(Zn hr).elim
  ·exact(Zn hr).elim
 ·exact(Zn hr).elim
end
end
section
section
variable {P:Program} {c:Ctx} {μ:Mu} {Φ:Yk} {σ σ':ZC} {w:World} {a:Act} {env:List AV} {L:Nat} {x:AV}
def BR(d:Nat)(o:Option Value)(n:Nat):Prop:=(o=none∧n=d) ∨ ∃ k i,o=some (.int k i)∧0<=i∧n=i.toNat
def i1t{a:Act}(e:Wy μ Φ a.tmps env){d n:Nat}{o:Option Operand}{o':Option IOp}(ho:(match o with|none=>some none|some z=>(Y4 z).map some)=some o')(h:bnd env d o'=some (true,n)):BR d (o.map a.eval) n:=by
 cases o with
 | none=>simp at ho;subst ho;simp[bnd]at h;exact .inl ⟨rfl,h.symm⟩
 | some z=>
  simp only[Cm]at ho;obtain⟨y,g,rfl⟩:=ho;simp only[bnd]at h;split at h
  ·rename_i k i l;simp only[Im,Il,fu]at h;obtain⟨b,rfl⟩:=h
   have:=Yn e g;rw[l]at this
   have:=Y6 this;generalize j:a.eval z=q at this;cases this;exact .inr ⟨_,_,by simp[j] <;> rfl,b,rfl⟩
  ·cases h
def Bi{v:Value}{k:IntKind}{i:Int}{y:Nat}{b:BoundsCode}(e:v = .int k i)(g:0<=i)(h1:i.toNat<=y):(fD v y b).run P w = .ok i.toNat w:=by
 subst e;have:i<=(y:Int):=by omega
 simp[fD,asIntOf,g,this]
def Rf{isSl:Bool}{len cap l h:Nat}{lo hi:Option Value}(g:BR 0 lo l)(j:BR len hi h)(h1:l<=h)(h2:h<=cap):
  (IV isSl len cap lo hi none).run P w = .ok (l,h,cap) w:=by
 rcases g with ⟨rfl,rfl⟩|⟨k,i,rfl,e,rfl⟩ <;> rcases j with ⟨rfl,rfl⟩|⟨k',i',rfl,b,rfl⟩
 ·simp[IV]
 ·simp[IV,Bi (P:=P) (w:=w) rfl b h2]
 ·simp[IV,Bi (P:=P) (w:=w) rfl e h1]
 ·simp[IV,Bi (P:=P) (w:=w) rfl b h2,Bi (P:=P) (w:=w) rfl e h1]
def b9s{len cap l h m:Nat}{lo hi:Option Value}{mx:Value}{d:Nat}(r:BR 0 lo l)(s:BR len hi h)(j:hi≠none)(hm:BR d (some mx) m)(h1:l<=h)(h2:h<=m)(h3:m<=cap):
  (IV true len cap lo hi (some mx)).run P w = .ok (l,h,m) w:=by
 rcases hm with ⟨h,_⟩|⟨k0,i0,e,g,rfl⟩
 ·cases h
 cases e;rcases r with ⟨rfl,rfl⟩|⟨k,i,rfl,q,rfl⟩ <;> rcases s with ⟨rfl,rfl⟩|⟨k',i',rfl,b,rfl⟩
 ·exact absurd rfl j
 ·simp[IV,Bi (P:=P) (w:=w) rfl g h3,Bi (P:=P) (w:=w) rfl b h2]
 ·exact absurd rfl j
 ·simp[IV,Bi (P:=P) (w:=w) rfl g h3,Bi (P:=P) (w:=w) rfl b h2,Bi (P:=P) (w:=w) rfl q h1]
def d9f{sz:Nat}{t:Bool}{xs:List PV}{b:Option Addr}{n cap l h m:Nat}(z:RP Φ (.slice b n cap) (.sl sz t xs))(h1:l<=h)(h2:h<=xs.length)(h3:h<=m)(h4:m<=cap)(t':Bool)(ht:t'->m=h)(s:Nat)(hs:xs=[]∨s=sz):
  RP Φ (.slice (if m=l then b else b.map (·.add (l*s))) (h - l) (m - l)) (.sl sz t' ((xs.take h).drop l)):=by
 by_cases hlh:l=h
 ·subst hlh;have e:(xs.take l).drop l=[]:=by simp
  rw[e,eB];exact .sl0 _ _ _ _ (λe=>by have:=ht e;omega)
 ·have hlt:l<h:=by omega
  cases z with
  | sl0=>simp at h2;omega
  | sl b off cs _ _ _ _ u hb hc htt hss hu hr=>
   have y:s=sz:=by
    rcases hs with rfl|hs
    ·simp at h2;omega
    ·exact hs
   subst y;have q : ¬ m=l:=by omega
   have g:((xs.take h).drop l).length=h - l:=by simp;omega
   rw[fo q,aX,VB,<- g];have k : ∀ (j:Nat) p,(flat ((xs.take h).drop l))[j]? = some p->(flat xs)[l*s+j]? = some p:=by
    intro j p i;rw[<- DC (λx r=>hss x (IP r)),<- Sy hss,IA,Ir]at i;split at i
    ·exact i
    ·cases i
   refine .sl b (off+l*s) cs _ s t' _ (λj=>u (l*s+j)) hb (by rw[g];omega) (λe=>by have:=ht e;rw[g];omega) ?_ ?_ ?_
   ·intro x r;exact hss x (IP (IM r))
   ·intro j p i
    have:=hu _ p (k j p i)
    rwa [<- I8]at this
   ·intro j p i;exact hr _ p (k j p i)
def e2t{t:TypeId}{u:Value}{X:IOp}{lo hi:Option IOp}{g b:Option Value}(ht:P.underlying t=some .string)
  (i : ∀ n,bnd env 0 lo=some (true,n)->BR 0 g n) (k : ∀ d n,bnd env d hi=some (true,n)->BR d b n)
  (B:Good c μ Φ σ w) (hu:R μ Φ u (ev env X)) (hr:(WW L env (.strslc X lo hi)).run σ=some (x,σ')):VS P (aS t u g b none) w (Yz c μ Φ σ' x):=by
 simp only[WW]at hr;split at hr
 ·rename_i s D;rw[D]at hu;split at hr
  ·rename_i r1 l r2 h y C;have j:=YR hr;clear hr;obtain⟨r,hr⟩:=j;simp only[Ie,fu]at r;obtain⟨⟨⟨rfl,rfl⟩,hc1⟩,hc2⟩:=r;have A:=i l y;have q:=k _ h C;obtain⟨rfl,rfl⟩:=ZE hr;replace hu:=Y6 hu;cases hu with
   | str z=>
    have e:z.data.toList.length=z.size:=by simp
    rw[e]at q hc2;refine⟨.string (z.extract l h),w,?_,Zm B (.pv _ _ (RP.str' ?_))⟩
    ·simp[aS,dD,run_underlying ht,Rf (P:=P) (w:=w) (isSl:=false) (len:=z.size) (cap:=z.size) A q hc1 hc2]
    ·simp[ByteArray.data_extract,aO]
  ·exact(Zn hr).elim
 ·exact(Zn hr).elim
def h9y{t e:TypeId}{i:TypeInfo}{u:Value}{X:IOp}{lo hi mx:Option IOp}{O D K:Option Value}(ht:P.underlying t=some (.slice e))(H:P.info? e=some i)
  (F : ∀ n,bnd env 0 lo=some (true,n)->BR 0 O n) (I : ∀ d n,bnd env d hi=some (true,n)->BR d D n) (M:mx=none->K=none) (hb4:hi≠none->D≠none)
  (hb5 : ∀ m,mx=some m-> ∃ v,K=some v∧ ∀ d n,bnd env d (some m)=some (true,n)->BR d (some v) n)
  (W:Good c μ Φ σ w) (hu:R μ Φ u (ev env X)) (hr:(WW L env (.slc i.size X lo hi mx)).run σ=some (x,σ')):VS P (aS t u O D K) w (Yz c μ Φ σ' x):=by
 simp only[WW]at hr;split at hr
 ·rename_i sz' tt xs hX;rw[hX]at hu;replace hu:=Y6 hu;have A:(xs.isEmpty||sz'==i.size)->xs=[]∨i.size=sz':=by
   intro k;rcases bA _ _ |>.mp k with h|h
   ·exact .inl (by simpa using h)
   ·exact .inr (by simpa using (beq_iff_eq.mp h).symm)
  have Q : ∃ b E,u = .slice b xs.length E∧xs.length<=E∧(tt->E=xs.length):=by
   cases hu with
   | sl0 a c sz t h=>exact⟨a,c,rfl,by simp,λe=>by simpa using h e⟩
   | sl b off cs c sz t xs u hb hc J hs hu hr=>exact⟨_,c,rfl,hc,J⟩
  obtain⟨b,E,rfl,z,J⟩:=Q;split at hr
  ·rename_i r1 l r2 h V Y;split at hr
   ·have T:=M rfl;subst T;have j:=YR hr;clear hr;obtain⟨y,hr⟩:=j;simp only[Ie,fu]at y;obtain⟨⟨⟨⟨rfl,rfl⟩,k⟩,hc1⟩,hc2⟩:=y;have N:=F l V;have U:=I _ h Y;have s:=A k;obtain⟨rfl,rfl⟩:=ZE hr;refine⟨_,w,?_,Zm W (.pv _ _ (d9f hu hc1 hc2 (IK hc2 z) (Iw E) _ ?_ _ s))⟩
    ·simp[aS,dD,run_underlying ht,Rf (P:=P) (w:=w) (isSl:=true) (len:=xs.length) (cap:=E) N U hc1 (IK hc2 z),YF H]
    ·intro e;simp at e;rw[J e.1,e.2]
   ·rename_i m;split at hr
    ·rename_i r3 m' hm';obtain⟨v,rfl,T⟩:=hb5 m rfl;have j:=YR hr;clear hr;obtain⟨y,hr⟩:=j;simp only[Ie,fu]at y;obtain⟨⟨⟨⟨⟨⟨rfl,rfl⟩,rfl⟩,k⟩,hc1⟩,hc2⟩,hc3⟩:=y;have N:=F l V;have U:=I _ h Y;have s:=A k;have bm:=T _ _ hm';obtain⟨rfl,rfl⟩:=ZE hr;refine⟨_,w,?_,Zm W (.pv _ _ (d9f hu hc1 (IK hc2 hc3) hc2 (IK hc3 z) _ ?_ _ s))⟩
     ·simp[aS,dD,run_underlying ht,b9s (P:=P) (w:=w) (len:=xs.length) (cap:=E) N U (hb4 (by simp)) bm hc1 hc2 (IK hc3 z),YF H]
     ·intro e;simp at e;exact e.symm
    ·exact(Zn hr).elim
  ·exact(Zn hr).elim
 ·rename_i r n g hi2 hX;rw[hX]at hu;split at hr
  ·rename_i r1 l r2 h V Y;have T:=M rfl;subst T;have j:=VC hr;clear hr;obtain⟨ob,hob,hr⟩:=j;split at hr
   ·rename_i fz ty sz' xs;split at hr
    ·rename_i he;subst he;have j:=YR hr;clear hr;obtain⟨y,hr⟩:=j;simp only[Ie,fu,gm]at y;obtain⟨⟨⟨⟨rfl,rfl⟩,hc1⟩,hc2⟩,hn⟩:=y;have N:=F l V;have U:=I _ h Y;obtain⟨rfl,rfl⟩:=ZE hr;cases hu with
     | row _ _ _ _ B C S q hm h2 h3 h4 ha=>
      obtain⟨rfl,_⟩:=DK W hob hn hm;refine⟨_,w,by simp[aS,dD,run_underlying ht,Rf (P:=P) (w:=w) (isSl:=true) (len:=hi2 - g) (cap:=C - g) N U hc1 (by omega),YF H] <;> rfl,Zm W ?_⟩;have e1:h - l=(g+h) - (g+l):=by omega
      have e2:C - g - l=C - (g+l):=by omega
      rw[e1,e2];refine .row r n _ _ B C _ _ hm (by omega) (by omega) h4 ?_;intro hor;by_cases hz:C - g=l
      ·rw[fw hz];rcases hor with h|h
       ·omega
       ·have hl0:g=0:=by omega
        have Z:l=0:=by omega
        subst hl0 Z
        have:=ha (.inr rfl);simpa using this
      ·rw[fo hz];have y:=ha (by omega);subst y;simp[VB,II]
    ·exact(Zn hr).elim
   ·exact(Zn hr).elim
  ·exact(Zn hr).elim
 ·exact(Zn hr).elim
end
end
section
mutual
def a0g: ∀ (x:AV) {c:Ctx} {μ:Mu} {Φ:Yk} {σ σ':ZC} {w:World} {v:Value} {p:PV},(frz x).run σ=some (p,σ')->Good c μ Φ σ w->R μ Φ v x ->
  ∃ Φ',Φ.le Φ'∧Good c μ Φ' σ' w∧RP Φ' v p
 | .pv q,c,μ,Φ,σ,σ',w,v,p,hr,hg,b=>by simp only[frz]at hr;obtain⟨rfl,rfl⟩:=ZE hr;exact⟨Φ,Yk.le.refl _,hg,Y6 b⟩
 | .row l n lo hi,c,μ,Φ,σ,σ',w,v,p,hr,hg,b=>by
  simp only[frz]at hr;obtain⟨ob,D,hr⟩:=VC hr;split at hr
  ·rename_i fz ty sz xs
   ·obtain⟨hn,hr⟩:=YR hr;have hn:=beq_iff_eq.mp hn;obtain⟨_,hr⟩:=Bf hr;obtain⟨rfl,rfl⟩:=ZE hr;obtain⟨Φ',B,C,cs,h1,h2,h3,h4,h5,h6,h7,h8,h9⟩:=hg.freeze D;refine⟨Φ',h1,h2,?_⟩;cases b with
    | row _ _ _ _ B' C' S q hm k2 k3 k4 ha=>
     rw[hn,hm]at h3;cases h3;by_cases hlh:lo=hi
     ·subst hlh;have e:(xs.take lo).drop lo=[]:=by simp
      rw[e,eB];exact .sl0 _ _ _ _ (λe=>by cases e)
     ·have H:=ha (.inl (by omega));subst H;have y:((xs.take hi).drop lo).length=hi - lo:=by simp;omega
      rw[<- y];have A : ∀ (j:Nat) p,(flat ((xs.take hi).drop lo))[j]? = some p->(flat xs)[lo*sz+j]? = some p:=by
       intro j p i;rw[<- DC (λx s=>h7 x (IP s)),<- Sy h7,IA,Ir]at i;split at i
       ·exact i
       ·cases i
      have g : ∀ (j:Nat) p,(flat ((xs.take hi).drop lo))[j]? = some p-> ∃ u,cs[lo*sz+j]? = some u∧u.oneCell'∧RP Φ u p:=by
       intro j p i;obtain⟨u,hu,z⟩:=h8.at_ (A j p i);have r:=hu;rw[Ir]at r;split at r
       ·exact⟨u,by simpa using r,h9 u (Iz hu),z⟩
       ·cases r
      refine .sl B (lo*sz) cs _ sz false _ (λj=>cs.getD (lo*sz+j) aQ) h4 (by rw[y];omega) (λe=>by cases e) (λx s=>h7 x (IP (IM s))) ?_ ?_
      ·intro j p i;obtain⟨u,hu,ho,_⟩:=g j p i;simp[Iq,hu,ho]
      ·intro j p i;obtain⟨u,hu,_,z⟩:=g j p i;simpa [Iq,hu]using z.mono h1
  ·exact(Zn hr).elim
 | .agg xs,c,μ,Φ,σ,σ',w,v,p,hr,hg,b=>by
  simp only[frz]at hr;rw[HM.run_bind,Ib]at hr;obtain⟨⟨ps,σ1⟩,h1,h2⟩:=hr;obtain⟨rfl,rfl⟩:=ZE h2;have hc:=a0p b rfl;cases b with
  | agg cs _ hn ho h=>obtain⟨Φ',k1,k2,k3⟩:=Kr xs h1 hg hc.1;exact⟨Φ',k1,k2,.agg cs ps (by simpa [aL]using k3.1) ho (λj v x b s=>k3.2 j v x (by simpa [aL]using b) s)⟩
 | .tup xs,c,μ,Φ,σ,σ',w,v,p,hr,hg,b=>by
  simp only[frz]at hr;rw[HM.run_bind,Ib]at hr;obtain⟨⟨ps,σ1⟩,h1,h2⟩:=hr;obtain⟨rfl,rfl⟩:=ZE h2;cases b with
  | tup cs _ hn h=>obtain⟨Φ',k1,k2,k3⟩:=Kr xs (vs:=cs.toList) h1 hg ⟨by simpa using hn,λj v x b s=>h j v x (by simpa using b) s⟩;exact⟨Φ',k1,k2,.tup cs ps (by simpa using k3.1) (λj v x b s=>k3.2 j v x (by simpa using b) s)⟩
 | .fn f [] [],c,μ,Φ,σ,σ',w,v,p,hr,hg,b=>by
  simp only[frz]at hr;obtain⟨rfl,rfl⟩:=ZE hr;cases b with
  | fn _ cs ds _ _ hn hm h k=>
   have F:cs = #[]:=by simpa using hn
   have E:ds = #[]:=by simpa using hm
   subst F E;exact⟨Φ,Yk.le.refl _,hg,.fn f⟩
 | .fn f (_::_) _,_,_,_,_,_,_,_,_,hr,_,_=>by simp only[frz]at hr;exact(Zn hr).elim
 | .fn f [] (_::_),_,_,_,_,_,_,_,_,hr,_,_=>by simp only[frz]at hr;exact(Zn hr).elim
 | .junk,_,_,_,_,_,_,_,_,hr,_,_=>by simp only[frz]at hr;exact(Zn hr).elim
 | .undef,_,_,_,_,_,_,_,_,hr,_,_=>by simp only[frz]at hr;exact(Zn hr).elim
 | .ptr _ _,_,_,_,_,_,_,_,_,hr,_,_=>by simp only[frz]at hr;exact(Zn hr).elim
 | .eptr _ _ _ _,_,_,_,_,_,_,_,_,hr,_,_=>by simp only[frz]at hr;exact(Zn hr).elim
 | .map _,_,_,_,_,_,_,_,_,hr,_,_=>by simp only[frz]at hr;exact(Zn hr).elim
def Kr: ∀ (xs:List AV) {c:Ctx} {μ:Mu} {Φ:Yk} {σ σ':ZC} {w:World} {vs:List Value} {ps:List PV},(Jg xs).run σ=some (ps,σ')->Good c μ Φ σ w->RL μ Φ vs xs ->
  ∃ Φ',Φ.le Φ'∧Good c μ Φ' σ' w∧Un Φ' vs ps
 | [],c,μ,Φ,σ,σ',w,vs,ps,hr,hg,hv=>by
  simp only[Jg]at hr;obtain⟨rfl,rfl⟩:=ZE hr
  have:=hv.unnil;subst this;exact⟨Φ,Yk.le.refl _,hg,rfl,λj v x h=>by simp at h⟩
 | x::xs,c,μ,Φ,σ,σ',w,vs,ps,hr,hg,hv=>by
  simp only[Jg]at hr;rw[HM.run_bind,Ib]at hr;obtain⟨⟨p,σ1⟩,h1,h2⟩:=hr;rw[HM.run_bind,Ib]at h2;obtain⟨⟨qs,σ2⟩,h3,h4⟩:=h2;obtain⟨rfl,rfl⟩:=ZE h4;obtain⟨v,vs',rfl,k1,e⟩:=hv.uncons;obtain⟨Φ1,a1,a2,a3⟩:=a0g x h1 hg k1;obtain⟨Φ2,b1,b2,b3⟩:=Kr xs h3 a2 (e.mono (Mu.le.refl _) a1);refine⟨Φ2,a1.trans b1,b2,by simp[b3.1],?_⟩;intro j u y hu b;cases j with
  | zero=>simp at hu b;subst hu b;exact a3.mono b1
  | succ j=>simp at hu b;exact b3.2 j u y hu b
end
section
variable {P:Program} {c:Ctx} {μ:Mu} {Φ:Yk} {σ σ':ZC} {w:World} {a:Act} {env:List AV} {L:Nat} {x:AV}
def d7a(g:Good c μ Φ σ w)(i:σ[L]? = some .fresh){cs:Array Value}{xs:List AV}(T:TypeId)(hr:RL μ Φ cs.toList xs)(ho:XZ cs.toList):
  ∃ μ',μ.le μ'∧Good c μ' Φ (σ.set L (.obj (.box xs))) (w.alloc (.cells cs T))∧R μ' Φ (.pointer (some ⟨w.heap.size,0,none⟩)) (.ptr L 0):=by
 have hm:μ L 0=none:=g.fresh L 0 (.inr i);have e:=Mu.le_add μ L 0 (w.heap.size,0,0) (.inl hm);refine⟨μ.add L 0 (w.heap.size,0,0),e,?_,.ptr L 0 _ 0 0 (Mu.add_same _ _ _ _)⟩;refine g.new i e (λl' h n=>Mu.add_ne _ _ _ _ _ _ h) rfl rfl rfl (by simp) (λb hb=>Kt w _ b hb) ?_ (by simp[blk,Mu.add_same]);refine⟨w.heap.size,0,0,T,cs,Mu.add_same _ _ _ _,Kw w _,hr.mono e (Yk.le.refl _),ho,?_⟩;cases j:Φ w.heap.size with
 | none=>rfl
 | some cs'=>
  obtain⟨T',fz,k⟩:=g.phi _ _ j
  have:=(Iy.1 k).1;omega
def Ed(g:Good c μ Φ σ w){b:Nat}(hb:w.heap.size<=b):Φ b=none:=by
 cases h:Φ b with
 | none=>rfl
 | some cs'=>
  obtain⟨T',fz,e⟩:=g.phi _ _ h
  have:=(Iy.1 e).1;omega
def Mg{w':World}(k:Good c μ Φ σ w)(r:σ[L]? = some .fresh){xs:List PV}{ty sz B C:Nat}{cs:Array Value}(q:w'.os=w.os)(e:w'.tape=w.tape)(i:w'.output=w.output)(g:w.heap.size<=w'.heap.size)
  (z : ∀ b,b<w.heap.size->w'.heap[b]? = w.heap[b]?) (s:w.heap.size<=B) (y:w'.heap[B]? = some (.cells cs ty (0,0))) (l:cs.size=C*sz) (hn:xs.length<=C) (u:C<=maxLen)
  (hs : ∀ x∈xs,x.cells.length=sz) (hr:Un Φ (cs.toList.take (xs.length*sz)) (flat xs)) (ho:XZ (cs.toList.take (xs.length*sz))) :
  ∃ μ',μ.le μ'∧Good c μ' Φ (σ.set L (.obj (.row false ty sz xs))) w'∧R μ' Φ (.slice (some ⟨B,0,none⟩) xs.length C) (.row L xs.length 0 xs.length):=by
 have hm : ∀ n,μ L n=none:=λn=>k.fresh L n (.inr r)
 have j:=Mu.le_add μ L xs.length (B,C,sz) (.inl (hm _));refine⟨μ.add L xs.length (B,C,sz),j,?_,?_⟩
 ·refine k.new r j (λl' h n=>Mu.add_ne _ _ _ _ _ _ h) q e i g z ?_ (by simp[blk,Mu.add_same];exact s);exact⟨B,C,cs,Mu.add_same _ _ _ _,λn h=>by rw[Mu.add_ver _ _ _ _ _ (by omega)];exact hm n,.of y,l,hn,u,hs,hr,ho,by simp[Ed k s]⟩
 ·have:=R.row (μ:=μ.add L xs.length (B,C,sz)) (Φ:=Φ) L xs.length 0 xs.length B C sz (some ⟨B,0,none⟩) (Mu.add_same _ _ _ _) (aC _) (Iw _) hn (λ_=>by simp);simpa using this
def i3m{t:TypeId}{i:TypeInfo}{u:Value}{X:IOp}(e:Good c μ Φ σ w)(hu:R μ Φ u (ev env X))(hr:(WW L env (.box i.size X)).run σ=some (x,σ')):VS P (gH t u) w (Yz c μ Φ σ' x):=by
 simp only[WW]at hr;split at hr
 ·rename_i hc;obtain⟨b,hr⟩:=D8 hr;obtain⟨rfl,rfl⟩:=ZE hr;obtain⟨h1,h2⟩:=a0p hu hc.2;obtain⟨μ',k1,g,k3⟩:=d7a e b t h1 h2;exact⟨_,_,by simp[gH,newVar,newRow] <;> rfl,μ',Φ,k1,Yk.le.refl _,g,k3⟩
 ·exact(Zn hr).elim
def g0s{t:TypeId}{i:TypeInfo}{z:Value}{p:PV}(hi:P.info? t=some i)(j:i.zero=some z)(b:D9 z=some p)(k:Good c μ Φ σ w)(hr:(WW L env (.alloc p)).run σ=some (x,σ')):
  VS P (fq t true (.tuple #[])) w (Yz c μ Φ σ' x):=by
 simp only[WW]at hr;obtain⟨g,hr⟩:=D8 hr;obtain⟨rfl,rfl⟩:=ZE hr;obtain⟨h1,h2⟩:=GY (Ch (Φ:=Φ) b) (Ut b);have e:AV.cells (.pv p)=p.cells.map .pv:=by cases p <;> rfl
 rw[e];obtain⟨μ',k1,h,k3⟩:=d7a k g t (h1.toRL (μ:=μ)) h2;exact⟨_,_,by simp[fq,zeroValue,typeInfo,hi,j,newVar,newRow] <;> rfl,μ',Φ,k1,Yk.le.refl _,h,k3⟩
def g6a{t:TypeId}(i:Good c μ Φ σ w)(hr:(WW L env .mkmap).run σ=some (x,σ')):VS P (Instr.makeMap t none) w (Yz c μ Φ σ' x):=by simp only[WW]at hr;obtain⟨k,hr⟩:=D8 hr;obtain⟨rfl,rfl⟩:=ZE hr;have hm:μ L 0=none:=i.fresh L 0 (.inr k);have g:=Mu.le_add μ L 0 (w.heap.size,0,0) (.inl hm);refine⟨.map (some w.heap.size),w.alloc (.map #[] 0),rfl,μ.add L 0 (w.heap.size,0,0),Φ,g,Yk.le.refl _,?_,.map L _ 0 0 (Mu.add_same _ _ _ _)⟩;refine i.new k g (λl' h n=>Mu.add_ne _ _ _ _ _ _ h) rfl rfl rfl (by simp) (λb hb=>Kt w _ b hb) ?_ (by simp[blk,Mu.add_same]);exact⟨w.heap.size,0,0,#[],0,Mu.add_same _ _ _ _,Kw w _,rfl,λj e p h=>by simp at h,Ed i (Iw _),λx l=>by simp at l,by simp⟩
end
end
section
section
variable {P:Program} {c:Ctx} {μ:Mu} {Φ:Yk} {σ σ':ZC} {w:World} {a:Act} {env:List AV} {L:Nat} {x:AV}
def Good.setRow{B:Nat}{o o':AObj}{l:Nat}{cs:Array Value}(k:Good c μ Φ σ w)(j:σ[l]? = some (.obj o))(e:o.live)(i:blk μ l o=B)(h:Dn μ Φ (w.setRow B cs) l o')(hb:blk μ l o'=B):
  Good c μ Φ (σ.set l (.obj o')) (w.setRow B cs):=
 k.put j e (Mu.le.refl _) (λ_ _ _=>rfl) (by simp) (by simp) (by simp) (by simp) (λb _ g=>setRow_other w B b cs (by rw[i]at g;exact g)) h (.inl (by rw[hb,i]))
def a0m{g o:Nat}{t:TypeId}{z:Nat×Nat}: ∀ (vs:List Value) (i:Nat) (b:Array Value) (w:World),w.heap[g]? = some (.cells b t z)->(z=(0,0)∨b.size<=z.1)->o+i+vs.length<=b.size->(∀ v∈vs,v.oneCell') ->
  (storeCells ⟨g,o,none⟩ vs i).run P w = .ok () (w.setRow g (b.toList.take (o+i)++vs++b.toList.drop (o+i+vs.length)).toArray):=by
 intro vs
 induction vs with
 | nil=>intro i b w h _ _ _;simp only[storeCells,bB,fH,bi,List.take_append_drop,Array.toArray_toList];rw[setRow_self w g b t z h];rfl
 | cons v rest ih=>
  intro i b w h j l h1;rw[IR]at l;have hi:o+i<b.size:=by omega
  have s:(⟨g,o,none⟩:Addr).add i=⟨g,o+i,none⟩:=by unfold Addr.add;split <;> simp_all
  have q:w.frozen? ⟨g,o+i,none⟩=false:=by
   rcases j with rfl|j
   ·simp[fP,h]
   ·simp[fP,h];omega
  have r:(store ((⟨g,o,none⟩:Addr).add i) v).run P w = .ok () (w.setRow g (b.setIfInBounds (o+i) v)):=by rw[s,run_store P w _ v _ (h1 v (by simp)),show w.cell? ⟨g,o+i,none⟩=some b[o+i] by simp[bL,h,hi]];simp[q,setCell_eq_setRow w g (o+i) b t z v h]
  have k:=ih (i+1) (b.setIfInBounds (o+i) v) (w.setRow g (b.setIfInBounds (o+i) v)) (setRow_heap w g b _ t _ h) (by simpa using j) (by simp;omega) λx u=>h1 x (by simp[u])
  simp only[storeCells,Ig,r,Ik,k,setRow_setRow];congr 3;have e:=list_seg_step b.toList (o+i) v rest (by simp;omega);simpa [bV,I8]using e
def QP.put{B n C:Nat}{ty:Nat}{b cs:Array Value}(h:QP w B b ty n C)(hs:cs.size=b.size):QP (w.setRow B cs) B cs ty n C:=by obtain⟨z,h1,h2⟩:=h;exact⟨z,setRow_heap w B b cs ty z h1,by rw[hs];exact h2⟩
def b0g{t:TypeId}{i:TypeInfo}{v:Value}{B o:Nat}{T n C:Nat}{b:Array Value}(hi:P.info? t=some i)(hn:v.cells.toList.length=i.size)(g:QP w B b T n C)(hf:o+i.size<=b.size)(ho:XZ v.cells.toList):
  (dX t (.pointer (some ⟨B,o,none⟩)) v).run P w = .ok () (w.setRow B (splice b.toList o v.cells.toList).toArray):=by
 obtain⟨z,g,j⟩:=g;have hs:=a0m (P:=P) (o:=o) v.cells.toList 0 b w g (j.imp id λh=>h.2) (by rw[hn];omega) ho;have e:v.cells.size=i.size:=by simpa using hn
 simp only[bi]at hs;simp[dX,aP,storeVar,YF hi,e,hs,splice]
def RL.splice{cs ds:List Value}{xs ys:List AV}(h:RL μ Φ cs xs)(k:RL μ Φ ds ys)(o:Nat):RL μ Φ (splice cs o ds) (splice xs o ys):=by unfold Pl.splice;rw[k.1];exact((h.take o).append k).append (h.drop _)
def Un.splice{cs ds:List Value}{xs ys:List PV}(h:Un Φ cs xs)(k:Un Φ ds ys)(o:Nat):Un Φ (splice cs o ds) (splice xs o ys):=by unfold Pl.splice;rw[k.1];exact((h.take o).append k).append (h.drop _)
def XZ.splice{cs ds:List Value}(h:XZ cs)(k:XZ ds)(o:Nat):XZ (splice cs o ds):=((h.take o).append k).append (h.drop _)
def UN{α:Type}{cs ds:List α}{o:Nat}(h:o+ds.length<=cs.length):(splice cs o ds).length=cs.length:=by simp[splice];omega
def U7{α:Type}{cs ds:List α}{o:Nat}(h:o+ds.length<=cs.length)(j:Nat):(splice cs o ds)[j]? = if j<o then cs[j]? else if j<o+ds.length then ds[j - o]? else cs[j]? :=by
 unfold splice;have h1:(cs.take o).length=o:=by simp;omega
 by_cases hj:j<o
 ·rw[fw hj,IQ (by simp;omega),IQ (by omega),Ir,fw hj]
 ·rw[fo hj];by_cases hk:j<o+ds.length
  ·rw[fw hk,IQ (by simp;omega),I9 (by omega),h1]
  ·rw[fo hk,I9 (by simp;omega),IA];congr 1;simp;omega
def c2f{α:Type}{cs ds:List α}{o n:Nat}(h:o+ds.length<=n)(hn:n<=cs.length):(splice cs o ds).take n=splice (cs.take n) o ds:=by
 apply I1;intro j;rw[Ir,U7 (by omega),U7 (by simp;omega),Ir];by_cases h1:j<n
 ·simp[h1]
 ·have : ¬ j<o:=by omega
  have : ¬ j<o+ds.length:=by omega
  simp[*]
def RP.one_of{v:Value}{p:PV}(h:RP Φ v p)(b:v.oneCell'):p.one:=by cases h <;> first|rfl|simp[fJ]at b
def e7a{p:PV}(h:p.one):p.cells=[p]:=by cases p <;> first|rfl|simp[PV.one]at h
def Un.ones{cs:List Value}{ps:List PV}(h:Un Φ cs ps)(ho:XZ cs): ∀ p∈ps,p.one:=by intro p g;obtain⟨j,e,rfl⟩:=I4 g;obtain⟨v,i,b⟩:=h.at_ (Ia e);exact b.one_of (ho v (Iz i))
def b6c{y:PV}{cs:List PV}(h:cs.length=y.cells.length)(h1 : ∀ q∈cs,q.one):(y.withCells cs).cells=cs:=by
 have b : ∀ y:PV,y.cells=[y]->cs.length=1->(cs.headD y).cells=cs:=by
  intro y _ e
  match cs,e,h1 with
  | [q],_,h1=>exact e7a (h1 q (by simp))
 cases y with
 | agg ys=>rfl
 | _=>exact b _ rfl h
def d2z{α:Type}{cs ds:List α}{o:Nat}{q:α}(h:q∈splice cs o ds):q∈cs∨q∈ds:=by
 unfold splice at h;rcases Ih.1 h with h|h
 ·rcases Ih.1 h with h|h
  ·exact .inl (IP h)
  ·exact .inr h
 ·exact .inl (IM h)
def c0p{xs:List PV}{sz:Nat}(hs : ∀ x∈xs,x.cells.length=sz){j:Nat}{y:PV}(e:xs[j]? = some y){k:Nat}(b:k<sz):(flat xs)[j*sz+k]? = y.cells[k]? :=by rw[<- Eb hs e,Ir,fw b,IA]
def f1h: ∀ {xs:List PV} {sz:Nat} (hs : ∀ x∈xs,x.cells.length=sz) {j:Nat} {y:PV} (b:j<xs.length) (g:y.cells.length=sz),flat (xs.set j y)=splice (flat xs) (j*sz) y.cells:=by
 intro xs
 induction xs with
 | nil=>intro sz hs j y b;simp at b
 | cons x xs ih=>
  intro sz hs j y b g;have h:=hs x (by simp);cases j with
  | zero=>rw[List.set_cons_zero,VQ,VQ,bn];simp[splice,g,<- h]
  | succ j=>
   rw[List.set_cons_succ,VQ,VQ,ih (λz i=>hs z (by simp[i])) (by simpa using b) g];have e:(j+1)*sz=x.cells.length+j*sz:=by rw[II,aW,h,dz]
   rw[e];simp only[splice,fB,fA,I8];rw[IX (l:=x.cells) (by omega),List.drop_of_length_le (l:=x.cells) (by omega)];simp
def e4f{α:Type}{cs ds es:List α}{b o:Nat}(hb:b+ds.length<=cs.length)(ho:o+es.length<=ds.length)(e : ∀ k,k<ds.length->cs[b+k]? = ds[k]?):
  splice cs b (splice ds o es)=splice cs (b+o) es:=by
 have g:=UN ho;apply I1;intro j;rw[U7 (cs:=cs) (ds:=splice ds o es) (by omega),U7 (cs:=cs) (ds:=es) (by omega),g];by_cases h1:j<b
 ·have:j<b+o:=by omega
  simp[h1,this]
 ·rw[fo h1];by_cases h2:j<b+ds.length
  ·rw[fw h2,U7 ho];by_cases h3:j<b+o
   ·rw[fw h3,fw (by omega),<- e _ (by omega)];congr 1;omega
   ·rw[fo h3,fo (by omega)];by_cases h4:j<b+o+es.length
    ·rw[fw h4,fw (by omega)];congr 1;omega
    ·rw[fo h4,fo (by omega),<- e _ (by omega)];congr 1;omega
  ·rw[fo h2,fo (by omega),fo (by omega)]
def f6t{t:TypeId}{i:TypeInfo}{u v:Value}{X Y:IOp}(hi:P.info? t=some i)(hg:Good c μ Φ σ w)(hu:R μ Φ u (ev env X))(hv:R μ Φ v (ev env Y))(hr:(WW L env (.store i.size X Y)).run σ=some (x,σ')):
  ∃ w',(dX t u v).run P w = .ok () w'∧Yz c μ Φ σ' x aQ w':=by
 simp only[WW]at hr;split at hr
 ·rename_i l o hX;rw[hX]at hu;have e:=VC hr;clear hr;obtain⟨ob,g,hr⟩:=e;split at hr
  ·rename_i cs;split at hr
   ·rename_i hc;obtain⟨h1,h2,h3⟩:=hc;obtain⟨_,hr⟩:=Bf hr;obtain⟨rfl,rfl⟩:=ZE hr;cases hu with
    | ptr _ _ B C S hm=>
     obtain⟨B',C',S',T,r,k1,W,k3,Q,U⟩:=hg.obj l _ g;rw[hm]at k1;cases k1;obtain⟨F,E⟩:=a0p hv h3;have b:v.cells.toList.length=i.size:=by rw[F.1,h1]
     have hsz:r.size=cs.length:=by simpa using k3.1
     refine⟨_,b0g (n:=0) (C:=0) hi b (.of W) (by omega) E,μ,Φ,Mu.le.refl _,Yk.le.refl _,?_,.undef⟩;refine hg.setRow g rfl (by simp[blk,hm]) ?_ (by simp[blk,hm]);exact⟨B,C,S,T,_,hm,setRow_heap w B r _ T _ W,by simpa using k3.splice F o,by simpa using Q.splice E o,U⟩
   ·exact(Zn hr).elim
  ·exact(Zn hr).elim
 ·rename_i l m j o hX;rw[hX]at hu;rw[HM.run_bind,Ib]at hr;obtain⟨⟨p,σ1⟩,hf,hr⟩:=hr;obtain⟨Φ1,f1,f2,f3⟩:=a0g _ hf hg hv;have e:=VC hr;clear hr;obtain⟨ob,g,hr⟩:=e;split at hr
  ·rename_i ty sz xs;have e:=YR hr;clear hr;obtain⟨s,hr⟩:=e;simp only[Ie,gm,fu]at s;obtain⟨⟨⟨⟨O,hj0⟩,h1⟩,h2⟩,h3⟩:=s;obtain⟨y,hyy,V⟩ : ∃ y,xs.getD j default=y∧xs[j]? = some y:=⟨_,rfl,by simp[I7,Ia hj0]⟩
   rw[hyy]at h2 hr;have e:=Bf hr;clear hr;obtain⟨_,hr⟩:=e;obtain⟨rfl,rfl⟩:=ZE hr;cases hu with
   | eptr _ _ _ _ B C S hm=>
    obtain⟨B',C',r,k1,W,k3,Q,U,k6,H,k8,k9,k10⟩:=f2.obj l _ g;rw[O,hm]at k1;cases k1;obtain⟨F,E⟩:=GY f3 h3;have b:v.cells.toList.length=i.size:=by rw[F.1,h1]
    have M:j<xs.length:=(Ic.1 V).1;have D:y.cells.length=sz:=H y (Iz V);have hle:j*sz+sz<=xs.length*sz:=by
     have:(j+1)*sz<=xs.length*sz:=IG _ M
     rwa [II,aW]at this
    have N:xs.length*sz<=r.size:=by rw[Q];exact IG _ U
    have I:p.cells.length=i.size:=h1;refine⟨_,b0g hi b k3 (by omega) E,μ,Φ1,Mu.le.refl _,f1,?_,.undef⟩;have hB:blk μ l (.row false ty sz xs)=B:=by simp[blk,O,hm]
    have J:Un Φ1 ((r.toList.drop (j*sz)).take sz) y.cells∧XZ ((r.toList.drop (j*sz)).take sz):=(c4h k3 H k8 k9 V).2;have h:(splice y.cells o p.cells).length=y.cells.length:=UN (by rw[I];exact h2);have A:(y.withCells (splice y.cells o p.cells)).cells=splice y.cells o p.cells:=by
     refine b6c h ?_;intro q s;rcases d2z s with s|s
     ·exact J.1.ones J.2 q s
     ·exact F.ones E q s
    have hfs:flat (xs.set j (y.withCells (splice y.cells o p.cells)))=splice (flat xs) (j*sz+o) p.cells:=by rw[f1h H M (by rw[A,h,D]),A];refine e4f (by rw[Uc H];omega) (by rw[I];exact h2) ?_;intro k hk;exact c0p H V (by omega)
    have hop:o+i.size<=sz:=by rw[<- D];exact h2
    have K:(splice r.toList (j*sz+o) v.cells.toList).take ((xs.set j (y.withCells (splice y.cells o p.cells))).length*sz)=splice (r.toList.take (xs.length*sz)) (j*sz+o) v.cells.toList:=by rw[cZ,c2f (by rw[b];omega) (by simpa using N)]
    refine f2.setRow g rfl hB ?_ (by simp[blk,O,hm]);refine⟨B,C,_,by rw[cZ,O];exact hm,λn hn=>W n (by simpa using hn),by rw[cZ];exact k3.put (by have:=UN (cs:=r.toList) (ds:=v.cells.toList) (o:=j*sz+o) (by rw[b];simp;omega);simpa using this),?_,by simpa using U,k6,?_,?_,?_,by simpa using k10⟩
    ·have:=UN (cs:=r.toList) (ds:=v.cells.toList) (o:=j*sz+o) (by rw[b];simp;omega);simpa [Q]using this
    ·intro z Z;rcases List.mem_or_eq_of_mem_set Z with Z|rfl
     ·exact H z Z
     ·rw[A,h,D]
    ·rw[I5,K,hfs];exact k8.splice F _
    ·rw[I5,K];exact k9.splice E _
  ·exact(Zn hr).elim
 ·exact(Zn hr).elim
end
end
section
section
variable {P:Program} {c:Ctx} {μ:Mu} {Φ:Yk} {σ σ':ZC} {w:World} {a:Act} {env:List AV} {L:Nat} {x:AV}
def Av(d:TypeDesc)(st:Bool):Prop:=if st then d = .string else ∃ k,d = .int k
def b7k{g:TypeId}{d:TypeDesc}{st:Bool}(hd:P.underlying g=some d)(b:Av d st)(e:Bool)(v:Value)(n:Nat):(dI e (n+1) g v).run P w = .ok () w:=by
 unfold dI;cases st with
 | true=>simp only[Av,gq]at b;subst b;simp[run_underlying hd]
 | false=>simp only[Av,gp,IL]at b;obtain⟨k,rfl⟩:=b;simp[run_underlying hd]
def Ru{d:TypeDesc}{st:Bool}(e:Av d st){v u:Value}{p q:PV}(i:RP Φ v p)(g:RP Φ u q)(b:p.isKey st){r:Bool}(h:a5n p q=some r):dY d v u=some r:=by
 cases st with
 | true=>simp only[Av,gq]at e;subst e;cases i <;> simp[PV.isKey]at b;cases g <;> simp[a5n]at h;subst h;simp only[dY];congr 1
 | false=>simp only[Av,gp,IL]at e;obtain⟨k,rfl⟩:=e;cases i <;> simp[PV.isKey]at b;cases g <;> simp[a5n]at h;obtain⟨rfl,rfl⟩:=h;simp[dY]
def c4r(Φ:Yk)(l:List MapEntry)(es:List (PV×PV)):Prop:=l.length=es.length∧ ∀ (j:Nat) e p,l[j]? = some e->es[j]? = some p->RP Φ e.key p.1∧RP Φ e.val p.2
def c4r.uncons{l:List MapEntry}{p:PV×PV}{es:List (PV×PV)}(h:c4r Φ l (p::es)): ∃ e l',l=e::l'∧RP Φ e.key p.1∧RP Φ e.val p.2∧c4r Φ l' es:=by
 cases l with
 | nil=>have:=h.1;simp at this
 | cons e l'=>have g:=h.2 0 e p rfl rfl;exact⟨e,l',rfl,g.1,g.2,by have:=h.1;simpa using this,λj a b ha hb=>h.2 (j+1) a b (by simpa using ha) (by simpa using hb)⟩
def i0c{d:TypeDesc}{st:Bool}(H:Av d st){v u:Value}{p q:PV}(E:RP Φ v p)(A:p.isKey st)(hu:RP Φ u q): ∀ (es:List (PV×PV)) (l:List MapEntry) (i:Nat) (r:List (PV×PV)),c4r Φ l es->upd p q es=some r ->
  (∃ g b B,aT d v l i=some (some (i+g,b))∧l[g]? = some B∧RP Φ B.key p∧(∀ f:MapEntry->MapEntry,(∀ e,RP Φ e.key p->RP Φ (f e).key p∧RP Φ (f e).val q)->c4r Φ (l.modify g f) r)) ∨
  (aT d v l i=some none∧ ∀ born,c4r Φ (l++[{key:=v,val:=u,born:=born}]) r):=by
 intro es
 induction es with
 | nil=>
  intro l i r J s;simp[upd]at s;subst s;have:l=[]:=by have:=J.1;simpa using this
  subst this;refine .inr ⟨rfl,λborn=>⟨rfl,?_⟩⟩;intro j a b ha hb;cases j with
  | zero=>simp at ha hb;subst ha hb;exact⟨E,hu⟩
  | succ j=>simp at ha
 | cons z es ih=>
  intro l i r J s;obtain⟨e,l',rfl,h1,h2,h3⟩:=J.uncons;obtain⟨a,b⟩:=z;simp only[upd]at s;split at s
  ·rename_i C;cases s;have D:RP Φ e.key p:=by
    have:p=a:=by cases p <;> cases a <;> simp_all[a5n,PV.isKey]
    rw[this];exact h1
   refine .inl ⟨0,e.val,e,by simp[aT,Ru H E h1 A C],rfl,D,λf F=>⟨by simpa using h3.1,?_⟩⟩;intro j x y h k;cases j with
   | zero=>simp at h k;subst h k;exact F e D
   | succ j=>simp at h k;exact h3.2 j x y h k
  ·rename_i C;rw[Cm]at s;obtain⟨K,s,rfl⟩:=s;rcases ih l' (i+1) K h3 s with ⟨g,M,B,k1,I,k3,N⟩|⟨k1,I⟩
   ·refine .inl ⟨g+1,M,B,?_,by simpa using I,k3,λf F=> ?_⟩
    ·have e:i+(g+1)=i+1+g:=by omega
     simp[aT,Ru H E h1 A C,k1,e]
    ·have:=N f F;refine⟨by simpa using this.1,?_⟩;intro j x y h k;cases j with
     | zero=>simp at h k;subst h k;exact⟨h1,h2⟩
     | succ j=>simp at h k;exact this.2 j x y (by simpa using h) k
   ·refine .inr ⟨by simp[aT,Ru H E h1 A C,k1],λborn=> ?_⟩
    have:=I born;refine⟨by have:=this.1;simp at this ⊢;omega,?_⟩;intro j x y h k;cases j with
    | zero=>simp at h k;subst h k;exact⟨h1,h2⟩
    | succ j=>simp at h k;exact this.2 j x y h k
  ·cases s
def b1z(q:Good c μ Φ σ w){l:Nat}{es:List (PV×PV)}(h:σ[l]? = some (.obj (.map es))){B C S:Nat}(hm:μ l 0=some (B,C,S)): ∃ g b,w.heap[B]? = some (.map g b)∧c4r Φ g.toList es∧Φ B=none∧b3e g b:=by obtain⟨B',C',S',g,b,h1,h2,h3,r,s⟩:=q.obj l _ h;rw[hm]at h1;cases h1;exact⟨g,b,h2,⟨by simpa using h3,λj e p k i=>r j e p (by simpa using k) i⟩,s⟩
def b7d(w:World)(B b:Nat)(o:Obj)(h:b≠B):({w with heap:=w.heap.setIfInBounds B o}:World).heap[b]? = w.heap[b]? :=by simp[aH (af h)]
def Good.setMap{B:Nat}{es k:List (PV×PV)}{l C S:Nat}{i:Array MapEntry}{g:Nat}(u:Good c μ Φ σ w)(s:σ[l]? = some (.obj (.map es)))(hm:μ l 0=some (B,C,S))(h:c4r Φ i.toList k)(r:b3e i g):
  Good c μ Φ (σ.set l (.obj (.map k))) {w with heap:=w.heap.setIfInBounds B (.map i g)}:=by
 obtain⟨mes0,clock0,h1,_,h2⟩:=b1z u s hm;have q:=(Iy.1 h1).1;refine u.put s rfl (Mu.le.refl _) (λ_ _ _=>rfl) rfl rfl rfl (by simp) ?_ ?_ (.inl (by simp[blk]))
 ·intro b _ hb;exact b7d w B b _ (by simpa [blk,hm]using hb)
 ·exact⟨B,C,S,i,g,hm,by simp[q],by simpa using h.1,λj e p y z=>h.2 j e p (by simpa using y) z,h2.1,r⟩
def b3e.update{i g:Array MapEntry}{b:Nat}(h:b3e i b)(e:g.toList.map (·.born)=i.toList.map (·.born)):b3e g b:=by refine⟨λx l=> ?_,by rw[e];exact h.2⟩;have:x.born∈g.toList.map (·.born):=IU.2 ⟨x,l,rfl⟩;rw[e]at this;obtain⟨y,k,j⟩:=IU.1 this;rw[<- j];exact h.1 y k
def b3e.push{i:Array MapEntry}{g:Nat}(h:b3e i g)(k v:Value):b3e (i.push {key:=k,val:=v,born:=g}) (g+1):=by
 refine⟨λx j=> ?_,?_⟩
 ·simp only[eP,Ih,eD]at j;rcases j with j|rfl
  ·exact Nat.lt_succ_of_lt (h.1 x j)
  ·exact Nat.lt_succ_self _
 ·simp only[eP,aK,IJ,fT];rw[eQ];refine⟨h.2,by simp,λa ha b hb e=> ?_⟩;obtain⟨y,l,rfl⟩:=IU.1 ha
  have:=h.1 y l;simp only[eD]at hb;omega
def O9{v:Value}{l:List UInt8}(h:RP Φ v (.str l)): ∃ s:ByteArray,v = .string s∧s.data.toList=l:=by
 cases h with
 | str s=>exact⟨s,rfl,rfl⟩
def f0n{st:Bool}{v u:Value}{p:PV}(h:RP Φ v p)(hu:RP Φ u p)(g:p.isKey st):(eF u v).run P w = .ok v w:=by
 have e:dJ (9999+1) u v:=by
  cases p <;> simp[PV.isKey]at g
  ·cases h;cases hu;unfold dJ;first|rfl|simp|trace_state
  ·obtain⟨b,rfl,k⟩:=O9 h;obtain⟨i,rfl,j⟩:=O9 hu;have:b=i:=ByteArray.ext (by simpa using k.trans j.symm);subst this;unfold dJ;show(b==b)=true
   first|exact gy b|(show(b.data.toList==b.data.toList);simp)|(show(b.data==b.data);simp)|(show decide (b=b);simp)
 unfold eF;rw[show(10000:Nat)=9999+1 from rfl,fw e];rfl
def e3i{t N et:TypeId}{d:TypeDesc}{st:Bool}{u v z:Value}{X Y Z:IOp}(ht:P.underlying t=some (.map N et))(hd:P.underlying N=some d)(hk:Av d st)
  (hg:Good c μ Φ σ w) (hu:R μ Φ u (ev env X)) (F:R μ Φ v (ev env Y)) (hz:R μ Φ z (ev env Z)) (hr:(WW L env (.mapupd st X Y Z)).run σ=some (x,σ')) :
  ∃ w',(cu t u v z).run P w = .ok () w'∧Yz c μ Φ σ' x aQ w':=by
 simp only[WW]at hr;split at hr
 ·rename_i k hY;rw[hY]at F;replace F:=Y6 F;split at hr
  ·rename_i D;split at hr
   ·rename_i l hX;rw[hX]at hu;rw[HM.run_bind,Ib]at hr;obtain⟨⟨q,σ1⟩,hf,hr⟩:=hr;obtain⟨Φ1,K,f2,f3⟩:=a0g _ hf hg hz;have i:=VC hr;clear hr;obtain⟨ob,E,hr⟩:=i;split at hr
    ·rename_i es;cases hu with
     | map _ B C S hm=>
      obtain⟨g,r,h1,h2,_,J⟩:=b1z f2 E hm;have y:(getObj B).run P w = .ok (.map g r) w:=by simp[getObj,gB,h1]
      have A : ∀ o,(setObj B o).run P w = .ok () {w with heap:=w.heap.setIfInBounds B o}:=λo=>by simp[setObj,gB,h1]
      have M : ∀ e,(dI e 10000 N v).run P w = .ok () w:=λe=>b7k hd hk _ _ 9999
      have H : ∀ Q,aT d v g.toList 0=some Q->(fQ N v g.toList).run P w = .ok Q w:=λQ h=>by simp[fQ,run_underlying hd,h]
      have i:=YR hr;clear hr;obtain⟨hq,hr⟩:=i;obtain⟨s,I⟩ : ∃ s,upd k q es=some s:=aF.1 hq;have V:c8b k q es=s:=by simp[c8b,I]
      rw[V]at hr;have i:=Bf hr;clear hr;obtain⟨_,hr⟩:=i;obtain⟨rfl,rfl⟩:=ZE hr;rcases i0c hk (F.mono K) D f3 es g.toList 0 s h2 I with ⟨T,b,U,k1,k2,k3,k4⟩|⟨k1,k2⟩
      ·simp only[dx]at k1;have O:g[T]? = some U:=by simpa using k2
       have W:=f0n (P:=P) (w:=w) (F.mono K) k3 D;refine⟨_,by simp[cu,run_underlying ht,y,M,H _ k1,O,W,A] <;> rfl,μ,Φ1,Mu.le.refl _,K,?_,.undef⟩;refine f2.setMap E hm ?_ (J.update ?_)
       rotate_left
       ·apply I1;intro j;simp only[Ij,au,ax];split
        ·cases g[j]? <;> rfl
        ·rfl
       have:=k4 (λe=>{e with key:=v,val:=z}) (λe _=>⟨F.mono K,f3⟩);simpa using this
      ·refine⟨_,by simp[cu,run_underlying ht,y,M,H _ k1,A] <;> rfl,μ,Φ1,Mu.le.refl _,K,?_,.undef⟩;refine f2.setMap E hm ?_ (J.push _ _);simpa using k2 r
    ·exact(Zn hr).elim
   ·exact(Zn hr).elim
  ·exact(Zn hr).elim
 ·exact(Zn hr).elim
end
end
section
section
variable {P:Program} {c:Ctx} {μ:Mu} {Φ:Yk} {σ σ':ZC} {w:World} {a:Act} {env:List AV} {L:Nat} {x:AV}
def F3(P:Program)(t:TypeId):Option Nat:=
 match P.underlying t with
 | some .string=>some 0
 | some (.slice _)=>some 1
 | some (.map _ _)=>some 2
 | _=>none
def i2v{t ty:TypeId}{k:Nat}{u:Value}{X:IOp}(ht:F3 P t=some k)(i:Good c μ Φ σ w)(hu:R μ Φ u (ev env X))(hr:(WW L env (.len k X)).run σ=some (x,σ')):VS P (aG #[t] ty #[u]) w (Yz c μ Φ σ' x):=by
 simp only[WW]at hr;split at hr
 ·rename_i l h;rw[h]at hu;obtain⟨a,b,g⟩ : ∃ a b,P.underlying t=some (.map a b):=by unfold F3 at ht;split at ht <;> first|exact⟨_,_,‹_›⟩|simp at ht
  obtain⟨ob,A,hr⟩:=VC hr;split at hr
  ·rename_i es;obtain⟨rfl,rfl⟩:=ZE hr;cases hu with
   | map _ B C S hm=>
    obtain⟨r,j,h1,h2,_⟩:=b1z i A hm;have y:(getObj B).run P w = .ok (.map r j) w:=by simp[getObj,gB,h1]
    have hs:r.size=es.length:=by simpa using h2.1
    refine⟨_,w,by simp[aG,run_underlying g,y] <;> rfl,Zm i ?_⟩;rw[hs];exact .pv _ _ (.int _ _)
  ·exact(Zn hr).elim
 ·rename_i h;rw[h]at hu;obtain⟨a,b,g⟩ : ∃ a b,P.underlying t=some (.map a b):=by unfold F3 at ht;split at ht <;> first|exact⟨_,_,‹_›⟩|simp at ht
  obtain⟨rfl,rfl⟩:=ZE hr;replace hu:=Y6 hu;cases hu;exact⟨_,w,by simp[aG,run_underlying g] <;> rfl,Zm i (.pv _ _ (.int _ _))⟩
 ·rename_i s h;rw[h]at hu;have g:P.underlying t=some .string:=by unfold F3 at ht;split at ht <;> first|assumption|simp at ht
  obtain⟨rfl,rfl⟩:=ZE hr;obtain⟨z,rfl,rfl⟩:=O9 (Y6 hu);have e:z.data.toList.length=z.size:=by simp
  exact⟨.int .i64 z.size,w,by simp[aG,run_underlying g,goInt],Zm i (by rw[e];exact .pv _ _ (.int _ _))⟩
 ·rename_i b m xs h;rw[h]at hu;obtain⟨e,g⟩ : ∃ a,P.underlying t=some (.slice a):=by unfold F3 at ht;split at ht <;> first|exact⟨_,‹_›⟩|simp at ht
  obtain⟨rfl,rfl⟩:=ZE hr;replace hu:=Y6 hu;cases hu with
  | sl0=>exact⟨.int .i64 0,w,by simp[aG,run_underlying g,goInt],Zm i (.pv _ _ (.int _ _))⟩
  | sl b off cs cc=>exact⟨.int .i64 xs.length,w,by simp[aG,run_underlying g,goInt],Zm i (.pv _ _ (.int _ _))⟩
 ·rename_i ra D rc h;rw[h]at hu;obtain⟨e,g⟩ : ∃ a,P.underlying t=some (.slice a):=by unfold F3 at ht;split at ht <;> first|exact⟨_,‹_›⟩|simp at ht
  obtain⟨rfl,rfl⟩:=ZE hr;replace hu:=Y6 hu;cases hu;exact⟨.int .i64 D,w,by simp[aG,run_underlying g,goInt],Zm i (.pv _ _ (.int _ _))⟩
 ·rename_i l n' lo hi h;rw[h]at hu;obtain⟨e,g⟩ : ∃ a,P.underlying t=some (.slice a):=by unfold F3 at ht;split at ht <;> first|exact⟨_,‹_›⟩|simp at ht
  obtain⟨rfl,rfl⟩:=ZE hr;cases hu with
  | row _ _ _ _ B C S q hm h2 h3 h4 ha=>exact⟨.int .i64 (hi - lo:Nat),w,by simp[aG,run_underlying g,goInt],Zm i (.pv _ _ (.int _ _))⟩
 ·exact(Zn hr).elim
def f9n{b dst:TypeId}{u:Value}{X:IOp}(hs:(P.underlying b).isSome)(hd:P.underlying dst=some .string)(g:Good c μ Φ σ w)(hu:R μ Φ u (ev env X))
  (hr:(WW L env (.strid X)).run σ=some (x,σ')):VS P (convert b dst u) w (Yz c μ Φ σ' x):=by
 simp only[WW]at hr;split at hr
 ·rename_i s e;rw[e]at hu;obtain⟨rfl,rfl⟩:=ZE hr;obtain⟨z,rfl,rfl⟩:=O9 (Y6 hu);obtain⟨d,hd'⟩:=aF.1 hs;exact⟨.string z,w,by cases d <;> simp[convert,run_underlying hd',run_underlying hd],Zm g (.pv _ _ (.str _))⟩
 ·exact(Zn hr).elim
def h9d{mx:Bool}{ts:Array TypeId}{ty:TypeId}{u v:Value}{X Y:IOp}(g:Good c μ Φ σ w)(hu:R μ Φ u (ev env X))(b:R μ Φ v (ev env Y))(hr:(WW L env (.mm mx X Y)).run σ=some (x,σ')):
  VS P (if mx then fU ts ty #[u,v]else fV ts ty #[u,v]) w (Yz c μ Φ σ' x):=by
 simp only[WW]at hr;split at hr
 ·rename_i k p k' q i h;rw[i]at hu;rw[h]at b;split at hr
  ·rename_i e;have e:=Tt e;subst e;obtain⟨rfl,rfl⟩:=ZE hr;replace hu:=Y6 hu;replace b:=Y6 b;cases hu;cases b;cases mx
   ·exact⟨_,w,by simp[fV,Builtin.min2] <;> rfl,Zm g (.pv _ _ (.int _ _))⟩
   ·exact⟨_,w,by simp[fU,Builtin.max2] <;> rfl,Zm g (.pv _ _ (.int _ _))⟩
  ·exact(Zn hr).elim
 ·exact(Zn hr).elim
def e5e(off:Nat): ∀ (vs:List Value) (k:Nat) (cs:Array Value),off+k+vs.length<=cs.size ->
  ((vs.zipIdx k).foldl (λcs (p:Value×Nat)=>cs.setIfInBounds (off+p.2) p.1) cs).toList=splice cs.toList (off+k) vs:=by
 intro vs
 induction vs with
 | nil=>intro k cs h;simp[splice]
 | cons v vs ih=>
  intro k cs h;simp only[bq,List.foldl_cons];simp only[IR]at h;rw[ih (k+1) _ (by simp;omega),bV];apply I1;intro j;rw[U7 (by simp;omega),U7 (by simp;omega),ah];simp only[IR];by_cases h1:j<off+k
  ·have b:j<off+(k+1):=by omega
   have g : ¬ off+k=j:=by omega
   simp[h1,b,g]
  ·by_cases h2:j=off+k
   ·subst h2;have b:off+k<off+(k+1):=by omega
    simp[b];omega
   ·have b : ¬ j<off+(k+1):=by omega
    have g : ¬ off+k=j:=by omega
    by_cases h3:j<off+(k+1)+vs.length
    ·have e:j<off+k+(vs.length+1):=by omega
     rw[fo b,fw h3,fo h1,fw e];have:j - (off+k)=(j - (off+(k+1)))+1:=by omega
     rw[this,List.getElem?_cons_succ]
    ·have e : ¬ j<off+k+(vs.length+1):=by omega
     rw[fo b,fo h3,fo h1,fo e,fo g]
def d8m{places:Nat->Option (Nat×Nat)}: ∀ (ps:List (Nat×Value)) (qs:List (Nat×Nat×AV)) (cs:Array Value) (xs ys:List AV),RL μ Φ cs.toList xs->XZ cs.toList ->
  ps.length=qs.length->(∀ (j:Nat) p q,ps[j]? = some p->qs[j]? = some q->places p.1=some (q.1,q.2.1)∧R μ Φ p.2 q.2.2)->OC xs qs=some ys ->
  ∃ ds,dP places cs ps=some ds∧RL μ Φ ds.toList ys∧XZ ds.toList∧ds.size=cs.size:=by
 intro ps
 induction ps with
 | nil=>
  intro qs cs xs ys h1 h2 h3 _ g;have:qs=[]:=by simpa using h3.symm
  subst this;simp[OC]at g;subst g;exact⟨cs,rfl,h1,h2,rfl⟩
 | cons p ps ih=>
  intro qs cs xs ys h1 h2 h3 r g;cases qs with
  | nil=>simp at h3
  | cons q qs=>
   obtain⟨i,v⟩:=p;obtain⟨o,n,y⟩:=q;simp only[OC]at g;split at g
   ·rename_i hc;obtain⟨c1,c2,z⟩:=hc;obtain⟨l,k⟩:=r 0 _ _ rfl rfl;simp only at l k;obtain⟨s,u⟩:=a0p k z;have h:v.cells.size=n:=by have:=s.1;simp at this;omega
    have hcs:cs.size=xs.length:=by simpa using h1.1
    have e:=e5e o v.cells.toList 0 cs (by simp;omega);simp only[bi]at e;obtain⟨ds,k1,B,k3,A⟩:=ih qs (v.cells.zipIdx.foldl (λcs (p:Value×Nat)=>cs.setIfInBounds (o+p.2) p.1) cs) _ ys
     (by rw[<- bO,bG,e];exact h1.splice s o) (by rw[<- bO,bG,e];exact h2.splice u o) (by simpa using h3) (λj a b ha hb=>r (j+1) a b (by simpa using ha) (by simpa using hb)) g
    refine⟨ds,?_,B,k3,?_⟩
    ·simp only[dP,l];rw[fo (by simp[h];omega)];exact k1
    ·rw[A]
     have:=congrArg ed e;rw[UN (by simp;omega)]at this;rw[<- bO,bG];simpa using this
   ·cases g
end
end
section
section
variable {P:Program} {c:Ctx} {μ:Mu} {Φ:Yk} {σ σ':ZC} {w:World} {a:Act} {env:List AV} {L:Nat} {x:AV}
def e8y{α β:Type}{f:α->Sem β}: ∀ {xs:List α} {ys:List β},xs.length=ys.length->(∀ (j:Nat) x y,xs[j]? = some x->ys[j]? = some y->(f x).run P w = .ok y w)->(xs.mapM f).run P w = .ok ys w:=by
  intro xs
  induction xs with
  | nil => intro ys h _; have : ys = [] := by simpa using h.symm
           subst this;simp
  | cons x xs ih=>
    intro ys h e;cases ys with
    | nil=>simp at h
    | cons y ys=>rw[List.mapM_cons];simp[e 0 x y rfl rfl,ih (by simpa using h) (λj a b ha hb=>e (j+1) a b (by simpa using ha) (by simpa using hb))]
def b9h{α β:Type}{f:α->Sem β}{xs:Array α}{ys:List β}(h:xs.size=ys.length)(b : ∀ (j:Nat) x y,xs[j]? = some x->ys[j]? = some y->(f x).run P w = .ok y w):(xs.mapM f).run P w = .ok ys.toArray w:=by rw[Array.mapM_eq_mapM_toList];simp[e8y (P:=P) (w:=w) (f:=f) (xs:=xs.toList) (ys:=ys) (by simpa using h) (λj x y g e=>b j x y (by simpa using g) e)]
def a0v{z:Value}{p:PV}{places:Nat->Option (Nat×Nat)}{ps:List (Nat×Value)}{qs:List (Nat×Nat×IOp)}(h:D9 z=some p)(hg:Good c μ Φ σ w)
  (g:ps.length=qs.length) (e : ∀ (j:Nat) a b,ps[j]? = some a->qs[j]? = some b->places a.1=some (b.1,b.2.1)∧R μ Φ a.2 (ev env b.2.2)) (hr:(WW L env (.build p.cells qs)).run σ=some (x,σ')) :
  ∃ ds,dP places z.cells ps=some ds∧σ'=σ∧R μ Φ (.agg ds) x:=by
 simp only[WW]at hr;split at hr
 ·rename_i ys i;obtain⟨rfl,rfl⟩:=ZE hr;obtain⟨h1,h2⟩:=GY (Ch (Φ:=Φ) h) (Ut h)
  obtain⟨ds,k1,k,k3,_⟩:=d8m (places:=places) ps (qs.map λ(o,n,x)=>(o,n,ev env x)) z.cells _ ys (h1.toRL (μ:=μ)) h2 (by simpa using g) (by
   intro j a b ha hb;rw[Ij]at hb;obtain⟨q,l,rfl⟩:=Cm.1 hb
   exact e j a q ha l) i
  refine⟨ds,k1,rfl,?_⟩
  have:=a2c k k3;simpa using this
 ·exact(Zn hr).elim
def f6y{t:TypeId}{l:Array Field}{i:TypeInfo}{z:Value}{p:PV}{h:List (Nat×Nat)}{ps:Array (Nat×Value)}{qs:List (Nat×Nat×IOp)}(ht:P.underlying t=some (.struct l))(hi:P.info? t=some i)(u:i.zero=some z)(B:D9 z=some p)
  (r:Vj (λ(f:Field)=>(P.info? f.type).map λi=>(f.offset,i.size)) l.toList=some h) (y:Good c μ Φ σ w) (g:ps.size=qs.length)
  (e : ∀ (j:Nat) a b,ps[j]? = some a->qs[j]? = some b->h[a.1]? = some (b.1,b.2.1)∧R μ Φ a.2 (ev env b.2.2)) (hr:(WW L env (.build p.cells qs)).run σ=some (x,σ')) :
  VS P (dE t ps) w (Yz c μ Φ σ' x):=by
 obtain⟨ds,k1,rfl,E⟩:=a0v (c:=c) (places:=(h[·]?)) (ps:=ps.toList) B y (by simpa using g) (λj a b ha hb=>e j a b (by simpa using ha) hb) hr;obtain⟨C,A⟩:=VO r
 have hm:=b9h (P:=P) (w:=w) (f:=λ(f:Field)=>do pure (f.offset,<- sizeOf f.type)) (xs:=l) (ys:=h) (by simpa using C) (by
  intro j f q D F
  have:=A j f q (by simpa using D) F;rw[Cm]at this;obtain⟨i',k,rfl⟩:=this
  simp[YF k])
 refine⟨.agg ds,w,?_,Zm y E⟩;have s:(zeroValue t).run P w = .ok z w:=by simp[zeroValue,typeInfo,hi,u]
 simp only[dE,Ig,s,Ik,run_underlying ht];rw[hm];simp[k1]
def e6d{t e:TypeId}{n:Nat}{i k:TypeInfo}{z:Value}{p:PV}{ps:Array (Nat×Value)}{qs:List (Nat×Nat×IOp)}(ht:P.underlying t=some (.array n e))(hi:P.info? t=some i)(l:P.info? e=some k)(r:i.zero=some z)(u:D9 z=some p)
  (s:Good c μ Φ σ w) (h:ps.size=qs.length)
  (g : ∀ (j:Nat) a b,ps[j]? = some a->qs[j]? = some b->some (a.1*k.size,k.size)=some (b.1,b.2.1)∧R μ Φ a.2 (ev env b.2.2)) (hr:(WW L env (.build p.cells qs)).run σ=some (x,σ')) :
  VS P (dE t ps) w (Yz c μ Φ σ' x):=by
 obtain⟨ds,k1,rfl,y⟩:=a0v (c:=c) (places:=λj=>some (j*k.size,k.size)) (ps:=ps.toList) u s (by simpa using h) (λj a b ha hb=>g j a b (by simpa using ha) hb) hr;refine⟨.agg ds,w,?_,Zm s y⟩;have q:(zeroValue t).run P w = .ok z w:=by simp[zeroValue,typeInfo,hi,r]
 simp[dE,q,run_underlying ht,YF l,k1]
def e3g{sz:Nat}: ∀ (xs:List PV) (k:Nat) (pre:List AV),pre.length=k*sz->(∀ x∈xs,x.cells.length=sz∧x.cellsOk) ->
  OC (pre++IB (xs.length*sz) .junk) ((xs.zipIdx k).map λq=>(q.2*sz,sz,AV.pv q.1))=some (pre++(flat xs).map .pv):=by
 intro xs
 induction xs with
 | nil=>intro k pre _ _;simp[OC,flat]
 | cons x xs ih=>
  intro k pre h j;obtain⟨h1,h2⟩:=j x (by simp);have e:AV.cells (.pv x)=x.cells.map .pv:=by cases x <;> rfl
  have g:AV.cellsOk (.pv x):=by cases x <;> simp_all[AV.cellsOk,PV.cellsOk]
  have i:(AV.cells (.pv x)).length=sz:=by rw[e];simpa using h1
  simp only[bq,IJ,OC];rw[fw ⟨i,by simp[h,II],g⟩];have b:splice (pre++IB ((x::xs).length*sz) AV.junk) (k*sz) (AV.cells (.pv x))=(pre++x.cells.map .pv)++IB (xs.length*sz) .junk:=by unfold splice;rw[i,<- h,fK,<- List.drop_drop,List.drop_left,e,List.drop_replicate];congr 2;simp[II]
  rw[b,ih (k+1) _ (by simp[h,h1,II]) (λy l=>j y (by simp[l]))];simp[VQ]
def c1w:(default:Value).oneCell':=rfl
def h4o(cs:List Value):RL μ Φ cs (IB cs.length .junk):=
 ⟨by simp,λj v x hv b=>by
  have:=Ic.1 b;obtain⟨h,e⟩:=this;simp at e;subst e
  exact .junk v⟩
def a6k{z:Array Value}(g:XZ z.toList)(n:Nat):XZ ((dF n).map (z[· % z.size]!)).toList:=by
 intro v b;simp at b;obtain⟨k,hk,rfl⟩:=b;rw[getElem!_def];split
 ·rename_i e;exact g _ (by simpa using Array.mem_of_getElem? e)
 ·exact c1w
def b0l{α:Type}: ∀ (l:List (Nat×α)) (k:Nat),l.map (·.1)=List.range' k l.length->l=((l.map (·.2)).zipIdx k).map λq=>(q.2,q.1):=by
 intro l
 induction l with
 | nil=>intro k _;rfl
 | cons a l ih=>intro k h;simp only[IJ,IR,List.range'_succ,cO]at h;simp only[IJ,bq];rw[<- ih (k+1) h.2,<- h.1]
def vs_bslice {t e : TypeId} {n : Nat} {i : TypeInfo} {z : Value} {p : PV} {ps : Array (Nat × Value)} {qs : List (Nat × IOp)} (ht : P.underlying t = some (.slice e)) (hi : P.info? e = some i) (I : i.zero = some z) (O : D9 z = some p)
    (hsmall:n*i.size ≤ 1048576) (hnsm:n ≤ 1048576) (Z:Good c μ Φ σ w) (H:ps.size=qs.length)
    (u : ∀ (j:Nat) a b,ps[j]? = some a → qs[j]? = some b → a.1=b.1∧R μ Φ a.2 (ev env b.2)) (hr:(WW L env (.bslice e i.size n p qs)).run σ=some (x,σ')) :
    VS P (bu t n ps) w (Yz c μ Φ σ' x):=by
  simp only[WW]at hr;split at hr
  · rename_i h
    rw[HM.run_bind,Ib]at hr;obtain⟨⟨xs,σ1⟩,hf,hr⟩:=hr;have N:RL μ Φ (ps.toList.map (·.2)) (qs.map λ(_,x)=>ev env x):=by refine⟨by simpa using H,?_⟩;intro j v y s l;rw[Ij]at s l;obtain⟨a,ha,rfl⟩:=Cm.1 s;obtain⟨b,hb,rfl⟩:=Cm.1 l;exact(u j a b (by simpa using ha) hb).2
    obtain⟨Φ1,Y,f2,f3⟩:=Kr _ hf Z N;simp only at hr;have K:=YR hr;clear hr;obtain⟨E,hr⟩:=K
    · obtain⟨V,hr⟩:=D8 hr
      obtain⟨rfl,rfl⟩:=ZE hr;have D:xs.length=n:=by have h1:=congrArg ed h;have h2:=f3.1;simp at h1 h2;omega
      have k : ∀ x∈xs,x.cells.length=i.size∧x.cellsOk:=by
        intro y l
        have:=aR.1 E y l;simpa using this
      have hzero:(if n*i.size=0 then(pure #[]:Sem (Array Value))else do pure (← zeroValue e).cells).run P w = .ok (if n*i.size=0 then #[]else z.cells) w:=by
        split
        · rfl
        · simp[zeroValue,typeInfo,hi,I]
      have M:XZ (if n*i.size=0 then #[]else z.cells:Array Value).toList:=by
        split
        · intro v s;simp at s
        · exact(GY (Ch (Φ:=Φ) O) (Ut O)).2
      have hps:ps.toList=((ps.toList.map (·.2)).zipIdx 0).map λq=>(q.2,q.1):=by
        refine b0l _ 0 ?_;have U:ps.toList.map (·.1)=qs.map (·.1):=by
          apply I1;intro j;rw[Ij,Ij];by_cases hj:j<qs.length
          · have ha:ps[j]? = some (ps[j]'(by omega)):=Ii (by omega)
            have hb:qs[j]? = some qs[j]:=Ia hj
            have:=(u j _ _ ha hb).1;simp[ha,hb,this]
          · have hb:qs[j]? = none:=aN (by omega)
            have ha:ps.toList[j]? = none:=aN (by simp;omega);rw[ha,hb];rfl
        rw[U,h,dQ];have:ps.toList.length=n:=by have:=f3.1;simp at this ⊢;omega
        rw[this]
      obtain⟨ds,k1,S,k3,W⟩:=d8m (μ:=μ) (Φ:=Φ1) (places:=λj=>some (j*i.size,i.size)) ps.toList ((xs.zipIdx 0).map λq=>(q.2*i.size,i.size,AV.pv q.1))
        ((dF (n*i.size)).map ((if n*i.size=0 then #[]else z.cells:Array Value)[· % (if n*i.size=0 then #[]else z.cells:Array Value).size]!)) (IB (n*i.size) .junk) ((flat xs).map .pv)
        (by have := h4o (μ := μ) (Φ := Φ1) ((dF (n * i.size)).map ((if n * i.size = 0 then #[] else z.cells : Array Value)[· % (if n * i.size = 0 then #[] else z.cells : Array Value).size]!)).toList
            simpa using this)
        (a6k M _) (by have:=f3.1;simp at this ⊢;omega)
        (by
          intro j pa qa ha hb;rw[hps,Ij,dR]at ha;rw[Ij,dR]at hb;simp only[Option.map_map,Cm,Function.comp]at ha hb;obtain⟨v,s,rfl⟩:=ha;obtain⟨y,l,rfl⟩:=hb
          exact⟨rfl,.pv _ _ (f3.2 j v y s l)⟩)
        (by have := e3g (sz := i.size) xs 0 [] (by simp) k
            rw[D]at this
            simpa using this)
      have g:dP (λj=>some (j*i.size,i.size)) ((dF (n*i.size)).map ((if n*i.size=0 then #[]else z.cells:Array Value)[· % (if n*i.size=0 then #[]else z.cells:Array Value).size]!)) ps.toList=some ds:=k1;have A:ds.size=n*i.size:=by rw[W];simp
      have F:ds.toList.take (xs.length*i.size)=ds.toList:=by rw[IX (by simp[A,D])]
      obtain⟨μ',X,T,Q⟩:=Mg (w':=w.alloc (.cells ds e)) f2 V (ty:=e) (sz:=i.size) (xs:=xs) (B:=w.heap.size) (C:=n) (cs:=ds) rfl rfl rfl (by simp) (λb hb=>Kt w _ b hb) (Iw _) (Kw w _) A (by omega)
        (by unfold maxLen;omega)
        (λy l=>(k y l).1) (by
          rw[F]
          refine⟨by simpa using S.1,λj v y s l=>Y6 (S.2 j v (.pv y) s (by simp[l]))⟩) (by rw[F];exact k3)
      rw[D]at Q;refine⟨_,_,?_,μ',Φ1,X,Y,T,Q⟩;have r : ¬ n*i.size>2 ^ 24:=by omega
      have J:(zeroValue e).run P w = .ok z w:=by simp[zeroValue,typeInfo,hi,I]
      by_cases hz0:n*i.size=0
      · simp only[hz0,gq]at g r
        simp only[bu,Ig,run_underlying ht,Ik,YF hi,r,gp,hz0,gq,IZ,g,newRow];rfl
      · simp only[hz0,gp]at g r
        simp only[bu,Ig,run_underlying ht,Ik,YF hi,r,gp,hz0,J,IZ,g,newRow];rfl
  · exact(Zn hr).elim
end
end
section
section
variable {P:Program} {c:Ctx} {μ:Mu} {Φ:Yk} {σ σ':ZC} {w:World} {a:Act} {env:List AV} {L:Nat} {x:AV}
def Po{p:PV}: ∀ (n k:Nat),k<n*p.cells.length->(flat (IB n p))[k]? = p.cells[k % p.cells.length]? :=by
 intro n
 induction n with
 | zero=>intro k h;simp at h
 | succ n ih=>
  intro k h;rw[List.replicate_succ,VQ];rw[II,aW]at h;by_cases hk:k<p.cells.length
  ·rw[IQ hk,Nat.mod_eq_of_lt hk]
  ·rw[I9 (by omega),ih _ (by omega)];congr 1;rw[Nat.mod_eq_sub_mod (by omega:k ≥ p.cells.length)]
def f0z{z:Value}{p:PV}(u:D9 z=some p){n sz:Nat}(hs:p.cells.length=sz):Un Φ ((madeCells z.cells (n*sz)).toList) (flat (IB n p))∧XZ (madeCells z.cells (n*sz)).toList:=by
 obtain⟨h1,h2⟩:=GY (Ch (Φ:=Φ) u) (Ut u);have q:z.cells.size=sz:=by have:=h1.1;simp at this;omega
 refine⟨⟨?_,?_⟩,a6k h2 _⟩
 ·rw[Uc (sz:=sz) (λx i=>by have:=aZ i;rw[this];exact hs)];simp[size_madeCells]
 ·intro j v x b i;have y:j<n*sz:=by have:=(Ic.1 b).1;simpa [size_madeCells]using this
  have g:0<sz:=by
   rcases Nat.eq_zero_or_pos sz with h|h
   ·subst h;simp at y
   ·exact h
  have hm:j % sz<sz:=Nat.mod_lt _ g;rw[Po n j (by rw[hs];exact y),hs]at i;have l:z.cells[j % sz]? = some (z.cells[j % sz]'(by omega)):=Ii (by omega);have r:v=z.cells[j % sz]'(by omega):=by
   simp[madeCells,q]at b;obtain⟨k,A,b⟩:=b;have s:j=k:=by obtain⟨_,e⟩:=Ic.1 A;simpa using e
   subst s;rw[getElem!_pos z.cells (j % sz) (by omega)]at b;exact b.symm
  subst r;exact h1.2 (j % sz) _ x (by simp[l]) i
def g9w{t e:TypeId}{i:TypeInfo}{z:Value}{p:PV}{u v:Value}{X Y:IOp}(ht:P.underlying t=some (.slice e))(hi:P.info? e=some i)(q:i.zero=some z)(s:D9 z=some p)(hs:p.cells.length=i.size)
  (M:Good c μ Φ σ w) (hu:R μ Φ u (ev env X)) (l:R μ Φ v (ev env Y)) (hr:(WW L env (.mksl e i.size i.bytes p X Y)).run σ=some (x,σ')):VS P (Instr.makeSlice t u v) w (Yz c μ Φ σ' x):=by
 simp only[WW]at hr;split at hr
 ·rename_i n m F A;rw[F]at hu;rw[A]at l;replace hu:=Y6 hu;replace l:=Y6 l;have g:=YR hr;clear hr;obtain⟨hc,hr⟩:=g;simp only[Ie,gm,fu]at hc
  ·obtain⟨⟨⟨D,rfl⟩,h2⟩,h3⟩:=hc;have g:=D8 hr;clear hr;obtain⟨H,hr⟩:=g;obtain⟨rfl,rfl⟩:=ZE hr;cases hu;cases l;have h:=run_make (P:=P) w t e i z ht hi q .i64 .i64 n n D (Int.le_refl _) (by rw[Int.mul_comm];omega) (by omega);obtain⟨k1,J⟩:=f0z (Φ:=Φ) s (n:=n.toNat) hs;have k:(IB n.toNat p).length=n.toNat:=by simp
   have j:(madeCells z.cells (n.toNat*i.size)).toList.take ((IB n.toNat p).length*i.size)=(madeCells z.cells (n.toNat*i.size)).toList:=by rw[IX (by simp[size_madeCells])]
   obtain⟨μ',K,E,r⟩:=Mg (w':=w.alloc (.cells (madeCells z.cells (n.toNat*i.size)) e)) M H (ty:=e) (sz:=i.size) (xs:=IB n.toNat p) (B:=w.heap.size) (C:=n.toNat) (cs:=madeCells z.cells (n.toNat*i.size)) rfl rfl rfl (by simp) (λb hb=>Kt w _ b hb) (Iw _) (Kw w _) (size_madeCells _ _) (by simp)
    (by unfold maxLen;omega) (λy I=>by have:=aZ I;rw[this];exact hs) (by rw[j];exact k1) (by rw[j];exact J)
   rw[k]at r;exact⟨_,_,h,μ',Φ,K,Yk.le.refl _,E,r⟩
 ·exact(Zn hr).elim
def YS(Φ:Yk)(w:World)(sz:Nat)(v:Value)(ys:List PV):Prop:=∃ e g,v = .slice e ys.length g∧(ys=[] ∨ ∃ b off news,e=some ⟨b,off,none⟩∧Qx w b off news∧Un Φ news (flat ys)∧XZ news∧ ∀ x∈ys,x.cells.length=sz)
def Na{σ:ZC}{l:Nat}{s:Slot}(h:σ[l]? = some s):σ.set l s=σ:=by
 apply I1;intro j;by_cases e:j=l
 ·subst e;rw[Z6 h,h]
 ·rw[ZR e]
def UX{t ty e:TypeId}{i:TypeInfo}(ht:P.underlying t=some (.slice e))(hi:P.info? e=some i){b j:Option Addr}{n g l:Nat}(h:n<=g):
  (Iu #[t,t] ty #[.slice b n g,.slice j 0 l]).run P w = .ok (.slice b n g) w:=by
 have k:(eG i.size 0 (.slice j 0 l)).run P w = .ok #[] w:=by
  cases j with
  | none=>rfl
  | some q=>simp[eG,loadCells,loadCellsFrom]
 cases b with
 | none=>simp[Iu,run_underlying ht,YF hi,aU,h,k]
 | some q=>simp[Iu,run_underlying ht,YF hi,aU,h,k,storeCells]
def Uo{b off:Nat}{cs:List Value}(h:Qx w b off cs): ∀ j u,cs[j]? = some u->w.cell? ((⟨b,off,none⟩:Addr).add j)=some u:=λj u e=>by rw[VB];exact h j u e
def Dv{w':World}(hg:Good c μ Φ σ w){v':Value}{e sz n:Nat}{h:List Value}{xs:List PV}(j:w'.ownsRow w.heap.size e sz v' n h)(hgr : ∀ k,k<w.heap.size->w'.heap[k]? = w.heap[k]?)(hn:n=xs.length)(hpos:0<n):
  ∃ g i b,v' = .slice (some ⟨g,0,none⟩) n i∧w.heap.size<=g∧w'.heap[g]? = some (.cells b e (0,0))∧n<=i∧i<=maxLen∧b.size=i*sz∧b.toList.take (n*sz)=h:=by
 rcases j.2 with ⟨_,h0⟩|⟨g,i,b,h1,h2,h3,q,r,l,s⟩
 ·omega
 ·exact⟨g,i,b,h1,h2,h3,q,r,l,s⟩
def QP.stores{B o n C:Nat}{e:Nat}{b:Array Value}(h:QP w B b e n C)(vs:List Value)(hl:o+vs.length<=b.size)(h1 : ∀ v∈vs,v.oneCell'):
  (storeCells ⟨B,o,none⟩ vs 0).run P w = .ok () (w.setRow B (b.toList.take o++vs++b.toList.drop (o+vs.length)).toArray):=by
 obtain⟨z,h,g⟩:=h
 have:=a0m (P:=P) (o:=o) vs 0 b w h (g.imp id λh=>h.2) (by omega) h1;simpa using this
def O5{t ty e:TypeId}{i:TypeInfo}(ht:P.underlying t=some (.slice e))(hi:P.info? e=some i)
  (g b h:Nat) (k:Array Value) {n C:Nat} (z:QP w g k e n C)
  (a:Addr) (m c:Nat) (news:List Value) (y:news.length=m*i.size) (l : ∀ j u,news[j]? = some u->w.cell? (a.add j)=some u) (h1 : ∀ u∈news,u.oneCell')
  (q:b+m<=h) (r:b*i.size+news.length<=k.size) :
  (Iu #[t,t] ty #[.slice (some ⟨g,0,none⟩) b h,.slice (some a) m c]).run P w =
   .ok (.slice (some ⟨g,0,none⟩) (b+m) h) (w.setRow g (k.toList.take (b*i.size)++news++k.toList.drop (b*i.size+news.length)).toArray):=by
 have A:=run_firstCells_some (P:=P) w i.size m a m c news y l;have s:=z.stores (P:=P) news r h1;simp[Iu,run_underlying ht,sizeOf,typeInfo,hi,aU,q,A,Addr.add_lit,s]
def QP.put'{g n C j i:Nat}{e:Nat}{b:Array Value}{cs:List Value}(h:QP w g b e n C)(hs:cs.length=b.size):QP (w.setRow g cs.toArray) g cs.toArray e j i:=by obtain⟨z,h1,h2⟩:=h;exact⟨z,setRow_heap w g b _ e z h1,by rw[ai,hs];exact h2⟩
def ML{t ty e:TypeId}{i:TypeInfo}{z:Value}{p:PV}{u v:Value}{X:AV}{ys:List PV}(ht:P.underlying t=some (.slice e))(hi:P.info? e=some i)(N:i.zero=some z)(hz:D9 z=some p)(hs:p.cells.length=i.size)(D:0<i.size)
  (W:Good c μ Φ σ w) (hu:R μ Φ u X) (hy:YS Φ w i.size v ys) (hr:(BM L e i.size i.bytes X ys).run σ=some (x,σ')):VS P (Iu #[t,t] ty #[u,v]) w (Yz c μ Φ σ' x):=by
 have V:z.cells.size=i.size:=by have:=(GY (Ch (Φ:=Φ) hz) (Ut hz)).1.1;simp at this;omega
 obtain⟨ay,cy,rfl,hys⟩:=hy;unfold BM at hr;split at hr
 ·rename_i sz' tt xs;replace hu:=Y6 hu;have s:=YR hr;clear hr;obtain⟨rfl,hr⟩:=s;replace hr:=e1z hr;cases he:ys.isEmpty with
  | true=>
   rw[he]at hr;obtain⟨rfl,rfl⟩:=ZE hr;have:ys=[]:=by simpa using he
   subst this;have : ∃ b J,u = .slice b xs.length J∧xs.length<=J:=by
    cases hu with
    | sl0 a c sz t h=>exact⟨a,c,rfl,by simp⟩
    | sl b off cs c sz t xs u hb hc htt hs hu hr=>exact⟨_,c,rfl,hc⟩
   obtain⟨b,J,rfl,hcp⟩:=this;exact⟨_,w,UX ht hi hcp,Zm W (.pv _ _ hu)⟩
  | false=>
   rw[he]at hr;have U : ¬ ys.isEmpty:=by simp[he]
   have s:=YR hr;clear hr;obtain⟨hb,hr⟩:=s;simp only[Ie,fu]at hb
   ·obtain⟨⟨hb0,hb1⟩,hb2⟩:=hb;have s:=D8 hr;clear hr;obtain⟨hl,hr⟩:=s;obtain⟨rfl,rfl⟩:=ZE hr;rcases hys with rfl|⟨b,off,news,rfl,y1,y2,y3,y4⟩
    ·simp at U
    have y:news.length=ys.length*i.size:=by rw[y2.1,Uc y4]
    have hylen:0<ys.length:=by
     cases ys with
     | nil=>simp at U
     | cons=>simp
    have K : ∃ v' w' H,(Iu #[t,t] ty #[u,.slice (some ⟨b,off,none⟩) ys.length cy]).run P w = .ok v' w'∧w'.ownsRow w.heap.size e i.size v' (xs.length+ys.length) (H++news)∧w.grownBy w' none∧Un Φ H (flat xs)∧XZ H∧(∀ x∈xs,x.cells.length=i.size):=by
     by_cases hx0:xs=[]
     ·subst hx0;cases hu with
      | sl0 a cc _ _ h=>
       have:=h rfl;subst this;cases a with
       | none=>obtain⟨v',w',Y,Q,A,_⟩:=run_append_own (P:=P) w w.heap.size t ty e i z i.size i.bytes ht hi N rfl rfl V D _ 0 [] (World.ownsRow_nil _ _ _ _) ⟨b,off,none⟩ ys.length cy news y (Uo y1) y3 (by unfold maxLen;simp at hb2;omega) (by simp at hb1 ⊢;omega) (Iw _);exact⟨v',w',[],Y,by simpa using Q,A,⟨rfl,λj v x h=>by simp at h⟩,λv hv=>by simp at hv,λx E=>by simp at E⟩
       | some q=>obtain⟨v',w',Y,Q,A⟩:=run_append_arg_grows (P:=P) w t ty e i z i.size i.bytes ht hi N rfl rfl V D q 0 0 [] (by simp) (λj u h=>by simp at h) ⟨b,off,none⟩ ys.length cy news y (Uo y1) (by omega) (by unfold maxLen;simp at hb2;omega) (by simp at hb1 ⊢;omega);exact⟨v',w',[],Y,by simpa using Q,A,⟨rfl,λj v x h=>by simp at h⟩,λv hv=>by simp at hv,λx E=>by simp at E⟩
      | sl b' O cs cc _ _ _ uu hb' hc htt hss huu hrr=>
       have:=htt rfl;have hc0:cc=0:=by simpa using this
       subst hc0;obtain⟨v',w',Y,Q,A⟩:=run_append_arg_grows (P:=P) w t ty e i z i.size i.bytes ht hi N rfl rfl V D ⟨b',O,none⟩ 0 0 [] (by simp) (λj u h=>by simp at h) ⟨b,off,none⟩ ys.length cy news y (Uo y1) (by omega) (by unfold maxLen;simp at hb2;omega) (by simp at hb1 ⊢;omega);exact⟨v',w',[],Y,by simpa using Q,A,⟨rfl,λj v x h=>by simp at h⟩,λv hv=>by simp at hv,λx E=>by simp at E⟩
     ·obtain⟨b',O,c',cs',us',rfl,z1,z2,z3,z4,z5,z6,z7⟩:=hu.sl_cells W.phi hx0;have hc':=z3 rfl;have hsz:sz'=i.size:=by
       rcases bA _ _ |>.mp hb0 with h|h
       ·exact absurd (by simpa using h) hx0
       ·exact beq_iff_eq.mp h
      subst hsz;obtain⟨v',w',Y,Q,A⟩:=run_append_arg_grows (P:=P) w t ty e i z i.size i.bytes ht hi N rfl rfl V D ⟨b',O,none⟩ xs.length c' us' (by rw[z6.1,Uc z4]) (Uo z5) ⟨b,off,none⟩ ys.length cy news y (Uo y1) (by omega) (by unfold maxLen;omega) (by omega);exact⟨v',w',us',Y,Q,A,z6,z7,z4⟩
    obtain⟨v',w',H,Y,Q,A,r4,r5,r6⟩:=K;have I : ∀ x∈xs++ys,x.cells.length=i.size:=λx E=>by
     rcases Ih.1 E with E|E
     ·exact r6 x E
     ·exact y4 x E
    have M : ∀ k,k<w.heap.size->w'.heap[k]? = w.heap[k]? :=λk hk=>A.block k hk (by simp)
    obtain⟨g,J,cur,rfl,g2,g3,g4,g5,g6,g7⟩:=Dv W Q M (xs:=xs++ys) (by simp) (by omega);have r:(xs++ys).length=xs.length+ys.length:=by simp
    obtain⟨μ',q1,q2,q3⟩:=Mg (w':=w') W hl (ty:=e) (sz:=i.size) (xs:=xs++ys) (B:=g) (C:=J) (cs:=cur) A.os A.tape A.output A.size M g2 g3 g6 (by rw[r];exact g4) g5 I
     (by rw[r,g7,KS];exact r4.append y2) (by rw[r,g7];exact r5.append y3)
    rw[r]at q3;exact⟨_,_,Y,μ',Φ,q1,Yk.le.refl _,q2,q3⟩
 ·rename_i l n0 n;have s:=VC hr;clear hr;obtain⟨ob,T,hr⟩:=s;split at hr
  ·rename_i ty' sz' xs;split at hr
   ·rename_i hc;obtain⟨rfl,rfl⟩:=hc;have s:=YR hr;clear hr;obtain⟨hq,hr⟩:=s;simp only[Ie,gm,fu]at hq;obtain⟨⟨⟨hn,rfl⟩,hb1⟩,hb2⟩:=hq;have s:=Bf hr;clear hr;obtain⟨_,hr⟩:=s;obtain⟨rfl,rfl⟩:=ZE hr;cases hu with
    | row _ _ _ _ B C S q hm h2 h3 h4 ha=>
     have hq:=ha (.inr rfl);subst hq;obtain⟨B',C',us,k1,k2,k3,k4,k5,k6,k7,k8,k9,k10⟩:=W.obj l _ T;rw[hn,hm]at k1;cases k1;simp only[eH,bn];rcases hys with rfl|⟨b,off,news,rfl,y1,y2,y3,y4⟩
     ·have F:σ.set l (.obj (.row false ty' i.size (xs++[])))=σ:=by rw[bB];exact Na T
      refine⟨_,w,UX ht hi (by omega),?_⟩;rw[F];refine Zm W ?_
      have:=R.row (μ:=μ) (Φ:=Φ) l n 0 n B C i.size (some ⟨B,0,none⟩) hm (aC _) (Iw _) h4 (λ_=>by simp);simpa using this
     ·have y:news.length=ys.length*i.size:=by rw[y2.1,Uc y4]
      have I : ∀ x∈xs++ys,x.cells.length=i.size:=λx E=>by
       rcases Ih.1 E with E|E
       ·exact k7 x E
       ·exact y4 x E
      have r:(xs++ys).length=n+ys.length:=by simp[hn]
      have hblk:blk μ l (.row false ty' i.size xs)=B:=by simp[blk,hn,hm]
      by_cases hy0:ys=[]
      ·subst hy0;have F:σ.set l (.obj (.row false ty' i.size (xs++[])))=σ:=by rw[bB];exact Na T
       refine⟨_,w,UX ht hi (by omega),?_⟩;rw[F];refine Zm W ?_
       have:=R.row (μ:=μ) (Φ:=Φ) l n 0 n B C i.size (some ⟨B,0,none⟩) hm (aC _) (Iw _) h4 (λ_=>by simp);simpa using this
      ·have hylen:0<ys.length:=by
        cases ys with
        | nil=>exact absurd rfl hy0
        | cons=>simp
       have hnew:μ l (n+ys.length)=none:=k2 _ (by omega);by_cases hroom:n+ys.length<=C
       ·have hfit:n*i.size+news.length<=us.size:=by rw[y,k4,<- II];exact IG _ hroom
        have K:=O5 (P:=P) (w:=w) (ty:=ty) ht hi B n C us k3 ⟨b,off,none⟩ ys.length cy news y (Uo y1) y3 hroom hfit;have Z:=Mu.le_add μ l (n+ys.length) (B,C,i.size) (.inl hnew);refine⟨_,_,K,μ.add l (n+ys.length) (B,C,i.size),Φ,Z,Yk.le.refl _,?_,?_⟩
        ·refine W.put T rfl Z (λl' h m=>Mu.add_ne _ _ _ _ _ _ h) (by simp) (by simp) (by simp) (by simp) (λb' _ U=>setRow_other w B b' _ (by rw[hblk]at U;exact U)) ?_ (.inl (by rw[hblk];simp[blk,r,Mu.add_same]));have hfl:(us.toList.take (n*i.size)).length=n*i.size:=by simp;omega
         have htk:(us.toList.take (n*i.size)++news++us.toList.drop (n*i.size+news.length)).take ((xs++ys).length*i.size)=us.toList.take (xs.length*i.size)++news:=by rw[r,hn,II,<- y];rw[bE (by rw[Ip,hfl];exact Iw _),IX (by rw[Ip,hfl];exact Iw _)]
         refine⟨B,C,_,by rw[r];exact Mu.add_same _ _ _ _,λm hm'=>by rw[Mu.add_ver _ _ _ _ _ (by omega)];exact k2 m (by omega),k3.put' (by rw[Ip,Ip,hfl,aj];simp only[I6];omega),?_,by rw[r];exact hroom,k6,I,?_,?_,by simpa using k10⟩
         ·rw[ai,Ip,Ip,hfl,aj];simp only[I6];omega
         ·rw[I5,htk,KS];exact k8.append y2
         ·rw[I5,htk];exact k9.append y3
        ·have:=R.row (μ:=μ.add l (n+ys.length) (B,C,i.size)) (Φ:=Φ) l (n+ys.length) 0 (n+ys.length) B C i.size (some ⟨B,0,none⟩) (Mu.add_same _ _ _ _) (aC _) (Iw _) hroom (λ_=>by simp);simpa using this
       ·have hol:(us.toList.take (n*i.size)).length=n*i.size:=by
         have:n*i.size<=us.size:=by rw[k4];exact IG _ h4
         simp;omega
        obtain⟨v',w',Y,Q,A⟩:=run_append_arg_grows (P:=P) w t ty ty' i z i.size i.bytes ht hi N rfl rfl V D ⟨B,0,none⟩ n C (us.toList.take (n*i.size)) hol
         (λj u' hj=>by
          rw[VB];obtain⟨_,k3,_⟩:=k3
          have:=VL k3 0 (n*i.size);simp only[fM]at this
          exact this j u' hj)
         ⟨b,off,none⟩ ys.length cy news y (Uo y1) (by omega) (by unfold maxLen;omega) (by omega)
        have M : ∀ k,k<w.heap.size->w'.heap[k]? = w.heap[k]? :=λk hk=>A.block k hk (by simp)
        obtain⟨g,J,cur,rfl,g2,g3,g4,g5,g6,g7⟩:=Dv W Q M (xs:=xs++ys) (by simp[hn]) (by omega);have Z:=Mu.le_add μ l (n+ys.length) (g,J,i.size) (.inl hnew);refine⟨_,_,Y,μ.add l (n+ys.length) (g,J,i.size),Φ,Z,Yk.le.refl _,?_,?_⟩
        ·refine W.put T rfl Z (λl' h m=>Mu.add_ne _ _ _ _ _ _ h) A.os A.tape A.output A.size (λb' hb' _=>M b' hb') ?_ (.inr (by simp[blk,r,Mu.add_same];exact g2));refine⟨g,J,cur,by rw[r];exact Mu.add_same _ _ _ _,λm hm'=>by rw[Mu.add_ver _ _ _ _ _ (by omega)];exact k2 m (by omega),.of g3,g6,by rw[r];exact g4,g5,I,?_,?_,by simp[Ed W g2]⟩
         ·rw[r,g7,KS]
          have:=k8;rw[hn]at this;exact this.append y2
         ·rw[r,g7]
          have:=k9;rw[hn]at this;exact this.append y3
        ·have:=R.row (μ:=μ.add l (n+ys.length) (g,J,i.size)) (Φ:=Φ) l (n+ys.length) 0 (n+ys.length) g J i.size (some ⟨g,0,none⟩) (Mu.add_same _ _ _ _) (aC _) (Iw _) g4 (λ_=>by simp);simpa using this
   ·exact(Zn hr).elim
  ·exact(Zn hr).elim
 ·exact(Zn hr).elim
def Hf(b:ByteArray):(Zr b.data.toList).length=b.size:=by unfold Zr;simp
def a3t(s:List UInt8): ∀ x∈Zr s,x.cells.length=1:=by intro x b;unfold Zr at b;obtain⟨c,_,rfl⟩:=IU.1 b;rfl
def P6(s:List UInt8):flat (Zr s)=Zr s:=by
 unfold Zr
 induction s with
 | nil=>rfl
 | cons c s ih=>simp only[flat,IJ,bW,PV.cells,dK]at ih ⊢;rw[ih]
def g9z(g:ByteArray):Un Φ (IE g) (flat (Zr g.data.toList)):=by
 rw[P6];refine⟨by rw[IW,Hf],λj v x b e=> ?_⟩;unfold IE at b;unfold Zr at e;rw[Ij]at b e;cases hs:g.data.toList[j]? with
 | none=>rw[hs]at b;cases b
 | some c=>rw[hs]at b e;cases b;cases e;exact .int _ _
def Nc{t s ty e:TypeId}{i:TypeInfo}(ht:P.underlying t=some (.slice e))(g:P.underlying s=some .string)(hi:P.info? e=some i){b:Option Addr}{n r:Nat}{l:ByteArray}(h:n<=r)(j:l.size=0):
  (Iu #[t,s] ty #[.slice b n r,.string l]).run P w = .ok (.slice b n r) w:=by
 have k:=bY (P:=P) w i.size l;rw[j]at k;have hc:IE l=[]:=aM (by rw[IW,j]);rw[hc]at k;cases b with
 | none=>simp[Iu,run_underlying ht,run_underlying g,sizeOf,typeInfo,hi,aU,j,h,k]
 | some q=>simp[Iu,run_underlying ht,run_underlying g,sizeOf,typeInfo,hi,aU,j,h,k,storeCells]
def Nf{t y ty e:TypeId}{i:TypeInfo}(ht:P.underlying t=some (.slice e))(u:P.underlying y=some .string)(hi:P.info? e=some i)(r:i.size=1)
  (g b h:Nat) (k:Array Value) {B z:Nat} (A:QP w g k e B z) (j:ByteArray) (q:b+j.size<=h) (l:b*i.size+(IE j).length<=k.size) :
  (Iu #[t,y] ty #[.slice (some ⟨g,0,none⟩) b h,.string j]).run P w =
   .ok (.slice (some ⟨g,0,none⟩) (b+j.size) h) (w.setRow g (k.toList.take (b*i.size)++IE j++k.toList.drop (b*i.size+(IE j).length)).toArray):=by
 have C:=bY (P:=P) w 1 j;rw[r,bN]at l;have s:=A.stores (P:=P) (o:=b) (IE j) l (dS j);rw[IW]at s;rw[r,bN,IW];simp[Iu,run_underlying ht,run_underlying u,sizeOf,typeInfo,hi,r,aU,q,C,Addr.add_lit,s]
def Nk{t F ty e:TypeId}{i:TypeInfo}{z:Value}(ht:P.underlying t=some (.slice e))(C:P.underlying F=some .string)(hi:P.info? e=some i)(E:i.zero=some z)(A:z.cells.size=i.size)(y:i.size=1)
  (b:Addr) (n cap:Nat) (g:List Value) (r:g.length=n*i.size) (Gb : ∀ j u,g[j]? = some u->w.cell? (b.add j)=some u)
  (h:ByteArray) (H:cap<n+h.size) (s:n+h.size<=maxLen) (l:(n+h.size)*i.bytes<=140737488355328) :
  ∃ v' w',(Iu #[t,F] ty #[.slice (some b) n cap,.string h]).run P w = .ok v' w'∧w'.ownsRow w.heap.size e i.size v' (n+h.size) (g++IE h)∧w.grownBy w' none:=by
 have hsmall:n+h.size<=9223372036854775807:=by simp only[maxLen]at s;omega
 have q:(g++IE h).length=(n+h.size)*i.size:=by rw[Ip,r,IW,y];omega
 have D:=grownCap_ge w (n+h.size) cap e;have B:grownCap w (n+h.size) cap e<=maxLen:=grownCap_le_maxLen w (n+h.size) cap e s;have hr:=Lib.run_append_grow_string (P:=P) w t F ty e i z ht C hi E b n cap g r Gb h H (by omega) (growslice_fits H l);refine⟨_,_,hr,⟨q,.inr ⟨w.heap.size,_,_,rfl,Iw _,heap_alloc_new w.drew _,D,B,?_,?_⟩⟩,⟨rfl,rfl,rfl,by simp,λk I _=>heap_alloc_old w.drew _ I⟩⟩
 ·simp only[Array.size_append,ai,size_zeroCells,A,r,IW,y,bN];omega
 ·simp only[dn,eT];rw[<- eT,<- q];exact fK
def h7f{t tn ty e:TypeId}{i:TypeInfo}{z:Value}{p:PV}{u v:Value}{X Y:IOp}(ht:P.underlying t=some (.slice e))(Q:P.underlying tn=some .string)(hi:P.info? e=some i)(hiz:i.zero=some z)(hz:D9 z=some p)(hs:p.cells.length=i.size)(H:i.size=1)
  (U:Good c μ Φ σ w) (hu:R μ Φ u (ev env X)) (Z:R μ Φ v (ev env Y)) (hr:(WW L env (.apps e i.size i.bytes X Y)).run σ=some (x,σ')):VS P (Iu #[t,tn] ty #[u,v]) w (Yz c μ Φ σ' x):=by
 have hzs:z.cells.size=i.size:=by have:=(GY (Ch (Φ:=Φ) hz) (Ut hz)).1.1;simp at this;omega
 simp only[WW]at hr;split at hr
 ·rename_i s hY;rw[hY]at Z;replace Z:=Y6 Z;obtain⟨r,rfl,rfl⟩ : ∃ r:ByteArray,v = .string r∧s=r.data.toList:=by generalize T:PV.str s=q at Z;cases Z <;> cases T;exact⟨_,rfl,rfl⟩
  split at hr
  ·rename_i l n0 n hX;rw[hX]at hu;simp only[BM]at hr;have y:=VC hr;clear hr;obtain⟨ob,F,hr⟩:=y;split at hr
   ·rename_i ty' sz' xs;split at hr
    ·rename_i hc;obtain⟨rfl,rfl⟩:=hc;have y:=YR hr;clear hr;obtain⟨T,hr⟩:=y;rw[Hf]at T hr;simp only[Ie,gm,fu]at T;obtain⟨⟨⟨hn,rfl⟩,hb1⟩,hb2⟩:=T;have y:=Bf hr;clear hr;obtain⟨_,hr⟩:=y;obtain⟨rfl,rfl⟩:=ZE hr;cases hu with
     | row _ _ _ _ B C S q hm h2 h3 h4 ha=>
      have T:=ha (.inr rfl);subst T;obtain⟨B',C',I,k1,k2,k3,k4,k5,k6,k7,k8,k9,k10⟩:=U.obj l _ F;rw[hn,hm]at k1;cases k1;simp only[eH,bn];obtain⟨k,D⟩ : ∃ k,k=r.size:=⟨_,rfl⟩
      rw[<- D]at hb1 hb2 ⊢;by_cases h0:k=0
      ·have hb0:Zr r.data.toList=[]:=aM (by rw[Hf,<- D,h0]);rw[h0];have O:σ.set l (.obj (.row false ty' i.size (xs++Zr r.data.toList)))=σ:=by rw[hb0,bB];exact Na F
       refine⟨_,w,Nc ht Q hi (by omega) (by omega),?_⟩;rw[O];refine Zm U ?_
       have:=R.row (μ:=μ) (Φ:=Φ) l n 0 n B C i.size (some ⟨B,0,none⟩) hm (aC _) (Iw _) h4 (λ_=>by simp);simpa using this
      ·have hk0:0<k:=by omega
       have y2:Un Φ (IE r) (flat (Zr r.data.toList)):=g9z r;have y3:XZ (IE r):=dS r;have hzl:(IE r).length=k*i.size:=by rw[IW,H,bN,D]
       have N : ∀ x∈xs++Zr r.data.toList,x.cells.length=i.size:=λx hx=>by
        rcases Ih.1 hx with hx|hx
        ·exact k7 x hx
        ·rw[a3t _ x hx,H]
       have b:(xs++Zr r.data.toList).length=n+k:=by rw[Ip,Hf,hn,D]
       have J:blk μ l (.row false ty' i.size xs)=B:=by simp[blk,hn,hm]
       have M:μ l (n+k)=none:=k2 _ (by omega);have hb48:k*i.bytes<=281474976710656:=by have:k*i.bytes<=(n+k)*i.bytes:=IG _ (by omega);omega
       by_cases hroom:n+k<=C
       ·have W:n*i.size+(IE r).length<=I.size:=by rw[hzl,k4,<- II];exact IG _ hroom
        have K:=Nf (P:=P) (w:=w) (ty:=ty) ht Q hi H B n C I k3 r (by omega) W;rw[<- D]at K;have A:=Mu.le_add μ l (n+k) (B,C,i.size) (.inl M);refine⟨_,_,K,μ.add l (n+k) (B,C,i.size),Φ,A,Yk.le.refl _,?_,?_⟩
        ·refine U.put F rfl A (λl' h m=>Mu.add_ne _ _ _ _ _ _ h) (by simp) (by simp) (by simp) (by simp) (λb' _ hne=>setRow_other w B b' _ (by rw[J]at hne;exact hne)) ?_ (.inl (by rw[J];simp[blk,b,Mu.add_same]));have E:(I.toList.take (n*i.size)).length=n*i.size:=by simp;omega
         have htk:(I.toList.take (n*i.size)++IE r++I.toList.drop (n*i.size+(IE r).length)).take ((xs++Zr r.data.toList).length*i.size)=I.toList.take (xs.length*i.size)++IE r:=by rw[b,hn,II,<- hzl];rw[bE (by rw[Ip,E,I6];exact Iw _),IX (by rw[Ip,E,I6];exact Iw _)]
         refine⟨B,C,_,by rw[b];exact Mu.add_same _ _ _ _,λm hm'=>by rw[Mu.add_ver _ _ _ _ _ (by omega)];exact k2 m (by omega),k3.put' (by rw[Ip,Ip,E,aj];simp only[I6];omega),?_,by rw[b];exact hroom,k6,N,?_,?_,by simpa using k10⟩
         ·rw[ai,Ip,Ip,E,aj];simp only[I6];omega
         ·rw[I5,htk,KS];exact k8.append y2
         ·rw[I5,htk];exact k9.append y3
        ·have:=R.row (μ:=μ.add l (n+k) (B,C,i.size)) (Φ:=Φ) l (n+k) 0 (n+k) B C i.size (some ⟨B,0,none⟩) (Mu.add_same _ _ _ _) (aC _) (Iw _) hroom (λ_=>by simp);simpa using this
       ·have hol:(I.toList.take (n*i.size)).length=n*i.size:=by
         have:n*i.size<=I.size:=by rw[k4];exact IG _ h4
         simp;omega
        obtain⟨v',w',r1,r2,r3⟩:=Nk (P:=P) (w:=w) (ty:=ty) ht Q hi hiz hzs H ⟨B,0,none⟩ n C (I.toList.take (n*i.size)) hol
         (λj u' hj=>by
          rw[VB];obtain⟨_,k3,_⟩:=k3
          have:=VL k3 0 (n*i.size);simp only[fM]at this
          exact this j u' hj)
         r (by omega) (by unfold maxLen;omega) (by rw[<- D];omega)
        rw[<- D]at r2;have hgb : ∀ k,k<w.heap.size->w'.heap[k]? = w.heap[k]? :=λk D=>r3.block k D (by simp)
        obtain⟨g,V,cur,rfl,g2,g3,g4,g5,g6,g7⟩:=Dv U r2 hgb (xs:=xs++Zr r.data.toList) (by rw[Ip,Hf,hn,D]) (by omega);have A:=Mu.le_add μ l (n+k) (g,V,i.size) (.inl M);refine⟨_,_,r1,μ.add l (n+k) (g,V,i.size),Φ,A,Yk.le.refl _,?_,?_⟩
        ·refine U.put F rfl A (λl' h m=>Mu.add_ne _ _ _ _ _ _ h) r3.os r3.tape r3.output r3.size (λb' hb' _=>hgb b' hb') ?_ (.inr (by simp[blk,b,Mu.add_same];exact g2));refine⟨g,V,cur,by rw[b];exact Mu.add_same _ _ _ _,λm hm'=>by rw[Mu.add_ver _ _ _ _ _ (by omega)];exact k2 m (by omega),.of g3,g6,by rw[b];exact g4,g5,N,?_,?_,by simp[Ed U g2]⟩
         ·rw[b,g7,KS]
          have:=k8;rw[hn]at this;exact this.append y2
         ·rw[b,g7]
          have:=k9;rw[hn]at this;exact this.append y3
        ·have:=R.row (μ:=μ.add l (n+k) (g,V,i.size)) (Φ:=Φ) l (n+k) 0 (n+k) g V i.size (some ⟨g,0,none⟩) (Mu.add_same _ _ _ _) (aC _) (Iw _) g4 (λ_=>by simp);simpa using this
    ·exact(Zn hr).elim
   ·exact(Zn hr).elim
  ·exact(Zn hr).elim
 ·exact(Zn hr).elim
end
end
section
section
variable {P:Program} {c:Ctx} {μ:Mu} {Φ:Yk} {σ σ':ZC} {w:World} {a:Act} {env:List AV} {L:Nat} {x:AV}
def Good.below{Φ':Yk}{w':World}(h:Good c μ Φ σ w)(hb:Below w.heap.size w w')(g:Φ.le Φ')(k:UL Φ' w')(e : ∀ b cs,Φ' b=some cs->Φ b=some cs∨w.heap.size<=b):Good c μ Φ' σ w':=by
 refine⟨k,?_,h.apart,h.fresh,h.own,hb.os.trans h.os,hb.tape.trans h.tape,hb.output.trans h.output,IK h.size hb.size,?_,h.Φle.trans g,h.μle,?_,h.laid⟩
 ·intro l o ho;have i:=h.obj l o ho;refine(i.keep (Mu.le.refl _) (λ_=>rfl) g ?_ (hb.block _ i.blk_lt)).1;cases q:Φ' (blk μ l o)with
  | none=>
   cases r:Φ (blk μ l o)with
   | none=>rfl
   | some cs=>rw[g _ _ r]at q;cases q
  | some cs=>
   rcases e _ _ q with hd|hd
   ·exact hd.symm
   ·have:=i.blk_lt;omega
 ·intro b h1 h2;rw[hb.block b (aY h1 h.size)];exact h.frame b h1 h2
 ·intro b cs j;rcases e b cs j with hd|hd
  ·exact h.dom b cs hd
  ·exact .inr (.inl (IK h.size hd))
def F7(s:List UInt8):flat (Zr s)=Zr s:=by
 unfold Zr
 induction s with
 | nil=>rfl
 | cons c s ih=>simp only[flat,IJ,bW,PV.cells,dK]at ih ⊢;rw[ih]
def b5q(w:World)(a:Addr)(b:Nat)(h:b≠a.block):(w.freeze a 1).heap[b]? = w.heap[b]? :=by unfold aa;rw[fo (by decide)];show(w.heap.modify a.block _)[b]? = _;rw[ax,fo (af h)]
def c2l{w:World}{B:Nat}{cs:Array Value}{ty:Nat}{z:Nat×Nat}(h:w.heap[B]? = some (.cells cs ty z))(b:z=(0,0)∨cs.size<=z.1): ∃ i:Nat×Nat,(w.freeze ⟨B,cs.size,none⟩ 1).heap[B]? = some (.cells cs ty i)∧cs.size<=i.1:=by
 obtain⟨lo,hi⟩:=z;unfold aa;rw[fo (by decide)];refine⟨if lo==hi then(cs.size,cs.size+1)else(min lo cs.size,max hi (cs.size+1)),?_,?_⟩
 ·show(w.heap.modify B _)[B]? = _;rw[ax,fw rfl,h];rfl
 ·split
  ·exact Iw _
  ·rename_i g;rcases b with e|b
   ·cases e;simp at g
   ·have b:cs.size<=lo:=b;show cs.size<=min lo cs.size;omega
def e3z{t e:TypeId}{v:Value}{X:IOp}(hd:P.underlying t=some (.slice e))(W:P.underlying e=some (.int .u8))(H:Good c μ Φ σ w)(F:R μ Φ v (ev env X))
  (hr:(WW L env (.sslice X)).run σ=some (x,σ')):VS P (convert t t v) w (Yz c μ Φ σ' x):=by
 simp only[WW]at hr;split at hr
 ·rename_i l n hi O;rw[O]at F;have j:=VC hr;clear hr;obtain⟨ob,i,hr⟩:=j;split at hr
  ·rename_i ty sz xs;have j:=YR hr;clear hr;obtain⟨y,hr⟩:=j;simp only[Ie,gm]at y;obtain⟨hn,rfl⟩:=y;obtain⟨rfl,rfl⟩:=ZE hr;cases F with
   | row _ _ _ _ B C S q hm h2 h3 h4 ha=>
    have y:=ha (.inr rfl);subst y;obtain⟨B',C',A,k1,U,k3,Q,T,V,Y,M,I,D⟩:=H.obj l _ i;rw[hn,hm]at k1;cases k1;obtain⟨z,k3,K⟩:=k3;obtain⟨J,Z,N⟩:=c2l k3 (K.imp id λh=>h.2);have E:w.shape? B=some (5,A.size):=by simp[World.shape?,k3]
    simp only[eH,bn];have u:(convert t t (.slice (some ⟨B,0,none⟩) hi C)).run P w = .ok (.slice (some ⟨B,0,none⟩) hi C) (w.freeze ⟨B,A.size,none⟩ 1):=by simp[convert,run_underlying hd,run_underlying W,markStringish,E]
    have s:blk μ l (.row false 5 sz xs)=B:=by simp[blk,hn,hm]
    have k:=Na i;refine⟨_,_,u,μ,Φ,.refl _,.refl _,?_,?_⟩
    ·have g:=H.put (l:=l) (o:=.row false 5 sz xs) (o':=.row false 5 sz xs) (w':=w.freeze ⟨B,A.size,none⟩ 1) i rfl (.refl _) (λ_ _ _=>rfl) rfl rfl rfl (by simp[aa]) (λb _ r=>b5q w _ b (by rw[s]at r;exact r)) ?_ (.inl rfl)
     ·rw[k]at g;exact g
     ·exact⟨B,C,A,by rw[hn];exact hm,U,⟨J,Z,.inr ⟨rfl,N⟩⟩,Q,T,V,Y,M,I,D⟩
    ·have:=R.row (μ:=μ) (Φ:=Φ) l n 0 hi B C _ (some ⟨B,0,none⟩) hm (aC _) h3 h4 (λ_=>by simp);simpa using this
  ·exact(Zn hr).elim
 ·exact(Zn hr).elim
def e4o{l dst e:TypeId}{v:Value}{X:IOp}(hs:(P.underlying l).isSome)(hd:P.underlying dst=some (.slice e))(O:P.underlying e=some (.int .u8))(H:Good c μ Φ σ w)(B:R μ Φ v (ev env X))
  (hr:(WW L env (.sbytes X)).run σ=some (x,σ')):VS P (convert l dst v) w (Yz c μ Φ σ' x):=by
 simp only[WW]at hr;split at hr
 ·rename_i s N;rw[N]at B;obtain⟨rfl,rfl⟩:=ZE hr;replace B:=Y6 B;obtain⟨u,hu⟩:=aF.1 hs;generalize K:PV.str s=q at B;cases B with
  | str b=>
   cases K;have C:=Lib.run_convert_string_bytes w l dst e b hu hd O;have r:Φ w.heap.size=none:=by
    cases M:Φ w.heap.size with
    | none=>rfl
    | some cs=>
     obtain⟨T,fz,E⟩:=H.phi _ _ M
     have:=(Iy.1 E).1;omega
   have D:Φ.le (λk=>if k=w.heap.size then some (dL w e b)else Φ k):=by
    intro k cs g;have:k≠w.heap.size:=by rintro rfl;rw[r]at g;cases g
    simp[this,g]
   have F:Below w.heap.size w (bJ w e b):=⟨by simp[bJ,aa,ek,fI,-dM,-dZ],by simp[bJ,aa,ek,fI,-dM,-dZ],by simp[bJ,aa,ek,fI,-dM,-dZ],by rw[Lib.bytesWorld_size];omega,λk g=>dN w e b k g⟩
   refine⟨_,_,C,μ,_,.refl _,D,H.below F D ?_ ?_,.pv _ _ ?_⟩
   ·intro k cs g;by_cases h:k=w.heap.size
    ·subst h;simp at g;subst g;exact⟨_,_,Lib.bytesWorld_at_new w e b⟩
    ·simp[h]at g;obtain⟨T,fz,E⟩:=H.phi k cs g;exact⟨T,fz,by rw[dN w e b k (Iy.1 E).1];exact E⟩
   ·intro k cs g;by_cases h:k=w.heap.size
    ·exact .inr (by omega)
    ·simp[h]at g;exact .inl g
   ·have i:(Zr b.data.toList).length=b.size:=by simp[Zr]
    rw[<- i];refine .sl w.heap.size 0 (dL w e b) _ 1 false _ (λj=>.int .u8 ((b.data.toList.getD j 0).toNat:Int)) (by simp) (by rw[i];exact grownCap_ge w _ _ _) (λh=>by cases h) ?_ ?_ ?_
    ·intro y J;simp only[Zr,IU]at J;obtain⟨c,_,rfl⟩:=J;rfl
    ·intro j p A;rw[F7]at A;have I:j<b.size:=by have:=(Ic.1 A).1;rw[i]at this;exact this
     refine⟨?_,rfl⟩;rw[dx,dL,Array.getElem?_append_left (by simpa using I)];have z:j<b.data.size:=I;simp[I7,z];exact⟨_,Ii z,by rw[Ii z];rfl⟩
    ·intro j p A;rw[F7]at A;simp only[Zr,Ij,Cm]at A;obtain⟨c,hc,rfl⟩:=A;have:b.data.toList.getD j 0=c:=by rw[I7,hc];rfl
     rw[this];exact .int _ _
  | _=>cases K
 ·exact(Zn hr).elim
def c1v: ∀ {g:List Value} {xs:List PV},xs.all a5l->Un Φ g (flat xs)->g=(V5 xs).map λb=>.int .u8 (b.toNat:Int):=by
 intro g xs
 induction xs generalizing g with
 | nil=>intro _ h;have:=h.1;simp[flat]at this;subst this;rfl
 | cons y xs ih=>
  intro ha h;simp only[List.all_cons,Ie]at ha;obtain⟨h1,h2⟩:=ha;cases y with
  | int k n=>
   cases k <;> simp[a5l]at h1;have l:flat (.int .u8 n::xs) = .int .u8 n::flat xs:=rfl;rw[l]at h;cases g with
   | nil=>have:=h.1;simp at this
   | cons u g=>
    have q:=h.2 0 u _ rfl rfl;have ht:Un Φ g (flat xs):=⟨by have:=h.1;simpa using this,λj v x i r=>h.2 (j+1) v x i r⟩
    rw[ih h2 ht];cases q;have e:((UInt8.ofNat n.toNat).toNat:Int)=n:=by rw[UInt8.toNat_ofNat'];omega
    show ak .u8 n::gK (λb=>ak IntKind.u8 ↑b.toNat) (V5 xs)=ak .u8 ((UInt8.ofNat n.toNat).toNat:Int)::gK (λb=>ak IntKind.u8 ↑b.toNat) (V5 xs);congr 1;exact congrArg (ak .u8) e.symm
  | _=>simp[a5l]at h1
def h4r{g dst e:TypeId}{v:Value}{X:IOp}(hs:P.underlying g=some (.slice e))(hd:P.underlying dst=some .string)(I:P.underlying e=some (.int .u8))(r:Good c μ Φ σ w)(h:R μ Φ v (ev env X))
  (hr:(WW L env (.bstr X)).run σ=some (x,σ')):VS P (convert g dst v) w (Yz c μ Φ σ' x):=by
 have back : ∀ (l:List UInt8) (b off cap n:Nat),n=l.length->Qx w b off (l.map λb=>.int .u8 (b.toNat:Int))->VS P (convert g dst (.slice (some ⟨b,off,none⟩) n cap)) w (Yz c μ Φ σ (.pv (.str l))):=by
  rintro l b off cap _ rfl hc;refine⟨_,w,run_convert_bytes_back w g dst e ⟨b,off,none⟩ cap l hs I hd λj F=> ?_,Zm r (.pv _ _ (RP.str' rfl))⟩
  have:=hc j (.int .u8 (l[j].toNat:Int)) (by simp[F]);rw[<- VB]at this;exact this
 have nil : ∀ (p:Option Addr) (cap:Nat),VS P (convert g dst (.slice p 0 cap)) w (Yz c μ Φ σ (.pv (.str []))):=by
  intro p cap;cases p with
  | none=>exact⟨_,w,by rw[run_convert_bytes_string w g dst e none 0 cap hs I hd];rfl,Zm r (.pv _ _ (RP.str' rfl))⟩
  | some q=>exact⟨_,w,run_convert_bytes_back w g dst e q cap [] hs I hd λj F=>by simp at F,Zm r (.pv _ _ (RP.str' rfl))⟩
 simp only[WW]at hr;split at hr
 ·rename_i sz t xs H;rw[H]at h;obtain⟨i,hr⟩:=YR hr;obtain⟨rfl,rfl⟩:=ZE hr;replace h:=Y6 h;simp only[Ie]at i;by_cases h0:xs=[]
  ·subst h0;generalize A:PV.sl sz t []=z at h;cases h <;> cases A
   ·exact nil _ _
   ·exact nil _ _
  ·obtain⟨b,off,cap,cs,K,rfl,_,_,_,h5,M,V,_⟩:=h.sl_cells r.phi h0;rw[c1v i.1 V]at M;exact back _ _ _ _ _ (by simp[V5]) M
 ·rename_i l n lo hi H;rw[H]at h;obtain⟨ob,E,hr⟩:=VC hr;split at hr
  ·rename_i fz ty sz xs;obtain⟨i,hr⟩:=YR hr;obtain⟨rfl,rfl⟩:=ZE hr;simp only[Ie,gm]at i;obtain⟨⟨hn,u⟩,rfl⟩:=i;generalize A:AV.row l n lo hi=z at h;cases h with
   | row _ _ _ _ B C S q' hm k2 k3 k4 ha=>
    cases A;obtain⟨rfl,K,J,m2,m3,m4,N,T,m7⟩:=DK r E hn hm;by_cases hlh:lo<hi
    ·have i:=ha (.inl hlh);subst i;have s:hi - lo=(V5 ((xs.take hi).drop lo)).length:=by simp[V5];omega
     refine back _ _ _ _ _ s ?_;have k:((xs.take hi).drop lo).all a5l:=by rw[aR]at u ⊢;intro y W;exact u y (IP (IM W))
     have D:=(T.drop (lo*1)).take ((hi - lo)*1);rw[DC N,Sy (λx U=>N x (IM U))]at D;have O:(xs.take hi).drop lo=(xs.drop lo).take (hi - lo):=by rw[aO]
     rw[<- O]at D;rw[<- c1v k D];obtain⟨_,J,_⟩:=J
     have:=VL J (lo*1) ((hi - lo)*1);have e:((K.toList.take (xs.length*1)).drop (lo*1)).take ((hi - lo)*1)=(K.toList.drop (lo*1)).take ((hi - lo)*1):=by rw[aO,dH,cK];omega
     rw[e];exact this
    ·have:hi=lo:=by omega
     subst this;rw[eB];have Q:V5 ((xs.take hi).drop hi)=[]:=by simp[V5]
     rw[Q];exact nil _ _
   | _=>cases A
  ·exact(Zn hr).elim
 ·exact(Zn hr).elim
def e6p{t e:TypeId}{n:Nat}{i:TypeInfo}{u v:Value}{X Y:IOp}(ht:P.underlying t=some (.array n e))(hi:P.info? e=some i)(l:(P.underlying e).isSome)(b:WG P e=decide (2<=i.size))(C:Good c μ Φ σ w)(hu:R μ Φ u (ev env X))(g:R μ Φ v (ev env Y))
  (hr:(WW L env (.indexA n i.size X Y)).run σ=some (x,σ')):VS P (bM t u v) w (Yz c μ Φ σ' x):=by
 simp only[WW]at hr;split at hr
 ·rename_i ps k j E D;rw[E]at hu;rw[D]at g;split at hr
  ·rename_i h2;rw[h2]at b;obtain⟨q,hr⟩:=YR hr;obtain⟨A,rfl⟩:=Ko hr;simp only[Ie,fu]at q;obtain⟨s,y⟩:=q;replace hu:=Y6 hu;replace g:=Y6 g;cases g;have hc:=GY hu rfl;cases hu with
   | agg cs _ hn ho h=>
    rw[<- b]at A;obtain⟨v,h1,h2⟩:=b6z (P:=P) (w:=w) (μ:=μ) (cs:=cs) l hi hc.1.toRL hc.2 A;refine⟨v,w,?_,Zm C h2⟩;have z:(eO e).run P w = .ok i.size w:=by simp[eO,typeInfo,hi]
    simp only[bM,asIntOf,Ig,IZ,Ik,run_underlying ht];rw[fw ⟨s,by omega⟩];simp only[Ig,z,Ik];exact h1
  rename_i r;rw[r]at b;obtain⟨q,hr⟩:=YR hr;obtain⟨rfl,rfl⟩:=ZE hr;simp only[Ie,fu,gm]at q;obtain⟨⟨⟨s,h1⟩,y⟩,h2⟩:=q;replace hu:=Y6 hu;replace g:=Y6 g;cases g;cases hu with
  | agg cs _ hsz ho h=>
   have B:j.toNat<cs.size:=by omega
   refine⟨cs[j.toNat],w,?_,Zm C (.pv _ _ ?_)⟩
   ·have z:(eO e).run P w = .ok i.size w:=by simp[eO,typeInfo,hi]
    simp only[bM,asIntOf,Ig,IZ,Ik,run_underlying ht];rw[fw ⟨s,by omega⟩];simp only[Ig,z,Ik,h2,bN];exact JV l b (Ii B)
   ·exact h j.toNat _ _ (Ii B) (by simp[I7,h1])
 ·exact(Zn hr).elim
end
end
section
def b9w(xs:Array Operand):Option (List IOp):=Vj Y4 xs.toList
def PU(x:Option Operand):Option (Option IOp):=
 match x with
 | none=>some none
 | some x=>(Y4 x).map some
def u8T(P:Program)(e:TypeId):Bool:=match P.underlying e with|some (.int .u8)=>true|_=>false
def c8i{P:Program}{e:TypeId}(h:u8T P e):P.underlying e=some (.int .u8):=by
 unfold u8T at h;split at h
 ·assumption
 ·cases h
def i2r(P:Program)(k:TypeId):Option Bool:=
 match P.underlying k with
 | some .string=>some true
 | some (.int _)=>some false
 | _=>none
def places(P:Program)(b:Array Field):Option (List (Nat×Nat)):=Vj (λ(f:Field)=>(P.info? f.type).map λi=>(f.offset,i.size)) b.toList
def j3u(P:Program)(t:TypeId):Sh:=
 match P.underlying t with
 | some (.int k)=>.int k
 | some .string=>.str
 | some .bool=>.bool
 | some (.slice e)=>match P.info? e with|some i=>.sl i.size|none=>.any
 | _=>.any
def h7o(P:Program)(t:TypeId):List Sh:=
 match WG P t with
 | true=>match P.cellTypes P.depth t with|some ts=>ts.map (j3u P)|none=>[]
 | false=>[j3u P t]
def NQ(P:Program)(c:Call):Option POp:=
 match c.callee with
 | .value f=>(Y4 f).bind λf=>(b9w c.args).map λxs=>.call f xs
 | .builtin .len=>
  match c.args.toList,c.argTypes.toList with
  | [x],[t]=>(Y4 x).bind λx=>(F3 P t).map λk=>.len k x
  | _,_=>none
 | .builtin .max=>
  match c.args.toList with
  | [x,y]=>(Y4 x).bind λx=>(Y4 y).map λy=>.mm true x y
  | _=>none
 | .builtin .min=>
  match c.args.toList with
  | [x,y]=>(Y4 x).bind λx=>(Y4 y).map λy=>.mm false x y
  | _=>none
 | .builtin .append=>
  match c.args.toList,c.argTypes.toList with
  | [x,y],[t,t']=>
   if t=t' then
    match P.underlying t with
    | some (.slice e)=>(P.info? e).bind λi=>i.zero.bind λz=>(D9 z).bind λp=>(Y4 x).bind λx=>(Y4 y).bind λy=>if p.cells.length=i.size∧0<i.size then some (.append e i.size i.bytes x y)else none
    | _=>none
   else none
  | _,_=>none
 | _=>none
def Gt(P:Program)(o:Op):Option POp:=
 match o with
 | .move x | .assign x=>(Y4 x).map .mv
 | .pick c a b=>(Y4 c).bind λc=>(Y4 a).bind λa=>(Y4 b).map λb=>.pick c a b
 | .box t x=>(P.info? t).bind λi=>(Y4 x).map λx=>.box i.size x
 | .alloc t=>(P.info? t).bind λi=>i.zero.bind λz=>(D9 z).map .alloc
 | .build t ps=>
  (P.info? t).bind λi=>i.zero.bind λz=>(D9 z).bind λp=>
   match P.underlying t with
   | some (.struct fs)=>(places P fs).bind λh=>(Vj (λ(q:Nat×Operand)=>(h[q.1]?).bind λ(o,n)=>(Y4 q.2).map λx=>(o,n,x)) ps.toList).map λqs=>.build p.cells qs
   | some (.array _ e)=>(P.info? e).bind λg=>(Vj (λ(q:Nat×Operand)=>(Y4 q.2).map λx=>(q.1*g.size,g.size,x)) ps.toList).map λqs=>.build p.cells qs
   | _=>none
 | .buildSlice t n ps=>
  match P.underlying t with
  | some (.slice e)=>(P.info? e).bind λi=>i.zero.bind λz=>(D9 z).bind λp=>if n*i.size<=1048576∧n<=1048576 then(Vj (λ(q:Nat×Operand)=>(Y4 q.2).map λx=>(q.1,x)) ps.toList).map λqs=>.bslice e i.size n p qs else none
  | _=>none
 | .load t x=>if (P.underlying t).isSome then(P.info? t).bind λi=>if (h7o P t).length=i.size then(Y4 x).map λx=>.load (WG P t) (h7o P t) x else none else none
 | .store t x v=>(P.info? t).bind λi=>(Y4 x).bind λx=>(Y4 v).map λv=>.store i.size x v
 | .nilCheck x=>(Y4 x).map .nilchk
 | .binOp op t x y _=>(c5g P op t y).bind λkd=>(Y4 x).bind λx=>(Y4 y).map λy=>.bin kd op x y
 | .unOp op _ x=>(Y4 x).map (.un op)
 | .convert src dst x=>
  if (P.underlying src).isSome then
   match P.underlying dst with
   | some (.int k)=>(Y4 x).map (.conv k)
   | some .string=>match P.underlying src with
    | some (.slice e)=>if u8T P e=true then(Y4 x).map .bstr else none
    | _=>(Y4 x).map .strid
   | some (.slice e)=>if u8T P e=true then(if src=dst then(Y4 x).map .sslice else(Y4 x).map .sbytes)else none
   | _=>none
  else none
 | .makeFunc (.func f) xs ys=>(b9w xs).bind λxs=>(b9w ys).map λys=>.mkfn f xs ys
 | .makeMap _ none=>some .mkmap
 | .makeSlice t l c=>
  match P.underlying t with
  | some (.slice e)=>(P.info? e).bind λi=>i.zero.bind λz=>(D9 z).bind λp=>(Y4 l).bind λl=>(Y4 c).bind λc=>if p.cells.length=i.size then some (.mksl e i.size i.bytes p l c)else none
  | _=>none
 | .slice t x lo hi mx=>
  match P.underlying t with
  | some .string=>if mx.isNone then(Y4 x).bind λx=>(PU lo).bind λlo=>(PU hi).map λhi=>.strslc x lo hi else none
  | some (.slice e)=>(P.info? e).bind λi=>(Y4 x).bind λx=>(PU lo).bind λlo=>(PU hi).bind λhi=>(PU mx).map λmx=>.slc i.size x lo hi mx
  | _=>none
 | .fieldAddr s x n=>
  match P.underlying s with
  | some (.struct fs)=>(fs[n]?).bind λf=>(P.info? f.type).bind λi=>if (i.size==0)=false then(Y4 x).map (.faddr f.offset)else none
  | _=>none
 | .field s x n=>
  match P.underlying s with
  | some (.struct fs)=>(fs[n]?).bind λf=>(P.info? f.type).bind λi=>if (P.underlying f.type).isSome then(Y4 x).map (.field (WG P f.type) f.offset i.size)else none
  | _=>none
 | .indexAddr t x i=>
  match P.underlying t with
  | some (.slice e)=>(P.info? e).bind λg=>(Y4 x).bind λx=>(Y4 i).map λi=>.iaddr g.size x i
  | some (.array n e)=>match i with
   | .const (.int _ z)=>(P.info? e).bind λg=>if 0<=z∧z<n then(Y4 x).map (.faddr (z.toNat*g.size))else none
   | _=>none
  | _=>none
 | .index t x i=>
  match P.underlying t with
  | some .string=>(Y4 x).bind λx=>(Y4 i).map λi=>.index x i
  | some (.array n e)=>(P.info? e).bind λg=>if (P.underlying e).isSome=true∧WG P e=decide (2<=g.size)then(Y4 x).bind λx=>(Y4 i).map λi=>.indexA n g.size x i else none
  | _=>none
 | .mapUpdate t m k v=>
  match P.underlying t with
  | some (.map kt _)=>(i2r P kt).bind λst=>(Y4 m).bind λm=>(Y4 k).bind λk=>(Y4 v).map λv=>.mapupd st m k v
  | _=>none
 | .extract x i=>(Y4 x).map (.extract · i)
 | .call c=>NQ P c
 | _=>none
def h2j{P:Program}{k:TypeId}{st:Bool}(h:i2r P k=some st): ∃ d,P.underlying k=some d∧Av d st:=by
 unfold i2r at h;split at h
 ·cases h;exact⟨_,‹_›,by simp[Av]⟩
 ·cases h;exact⟨_,‹_›,by simp[Av]⟩
 ·cases h
def POp.isCall:POp->Bool
 | .call _ _=>true
 | _=>false
section
variable {P:Program} {c:Ctx} {μ:Mu} {Φ:Yk} {σ σ':ZC} {w:World} {a:Act} {env:List AV} {L:Nat} {x:AV}
def Og{s:Sem Unit}(h : ∃ w',s.run P w = .ok () w'∧Yz c μ Φ σ' x aQ w'):QZ P (do s;pure .skip) w (Yz c μ Φ σ' x):=by obtain⟨w',h1,h2⟩:=h;simp[QZ,h1,h2]
def a2v{xs:Array Operand}{ys:List IOp}(b:Wy μ Φ a.tmps env)(h:b9w xs=some ys):RL μ Φ (xs.map a.eval).toList (ys.map (ev env)):=by rw[Array.toList_map];exact i5m h (λo p ho=>Yn b ho)
def a2t{o:Option Operand}{o':Option IOp}(b:Wy μ Φ a.tmps env)(h:PU o=some o')(d n:Nat)(hn:bnd env d o'=some (true,n)):BR d (o.map a.eval) n:=by refine i1t b (o:=o) (o':=o') ?_ hn;cases o <;> exact h
def f6h{Y:Call}{p:POp}(g:NQ P Y=some p)(hc:p.isCall=false)(M:Good c μ Φ σ w)(K:Wy μ Φ a.tmps env)(hr:(WW L env p).run σ=some (x,σ'))(ty:TypeId):
  QZ P (do let d <- resolve a.eval Y ty;invoke d.target d.args) w (Yz c μ Φ σ' x):=by
 obtain⟨callee,args,argTypes⟩:=Y;unfold NQ at g;simp only at g;split at g
 ·simp only[Ib,Cm]at g;obtain⟨f,hf,xs,hxs,rfl⟩:=g;simp[POp.isCall]at hc
 ·split at g
  ·rename_i y t h1 h2;simp only[Ib,Cm]at g;obtain⟨y',s,k,hk,rfl⟩:=g;have J:args = #[y]:=by simpa using congrArg ae h1
   have O:argTypes = #[t]:=by simpa using congrArg ae h2
   subst J O;obtain⟨v,w',F,H⟩:=i2v (ty:=ty) hk M (Yn K s) hr;simp[QZ,resolve,invoke,builtin,F,H]
  ·cases g
 ·split at g
  ·rename_i y z h1;simp only[Ib,Cm]at g;obtain⟨y',s,z',D,rfl⟩:=g;have J:args = #[y,z]:=by simpa using congrArg ae h1
   subst J;obtain⟨v,w',F,H⟩:=h9d (P:=P) (ts:=argTypes) (ty:=ty) M (Yn K s) (Yn K D) hr;simp only[gq]at F;simp[QZ,resolve,invoke,builtin,F,H]
  ·cases g
 ·split at g
  ·rename_i y z h1;simp only[Ib,Cm]at g;obtain⟨y',s,z',D,rfl⟩:=g;have J:args = #[y,z]:=by simpa using congrArg ae h1
   subst J;obtain⟨v,w',F,H⟩:=h9d (P:=P) (ts:=argTypes) (ty:=ty) M (Yn K s) (Yn K D) hr;simp only[gp,IL]at F;simp[QZ,resolve,invoke,builtin,F,H]
  ·cases g
 ·split at g
  ·rename_i y z t t' h1 h2;split at g
   ·rename_i htt;subst htt;split at g
    ·rename_i e ht;simp only[Ib]at g;obtain⟨i,hi,zv,hz,pz,Q,y',s,z',D,g⟩:=g;split at g
     ·rename_i E;cases g;have J:args = #[y,z]:=by simpa using congrArg ae h1
      have O:argTypes = #[t,t]:=by simpa using congrArg ae h2
      subst J O;have V:=Yn K s;have r:=Yn K D;have key:VS P (Iu #[t,t] ty #[a.eval y,a.eval z]) w (Yz c μ Φ σ' x):=by
       simp only[WW]at hr;split at hr
       ·rename_i sz' tt ys X;rw[X]at r;replace r:=Y6 r;have A:=YR hr;clear hr;obtain⟨hq,hr⟩:=A;have I:ys=[]∨sz'=i.size:=by
         rcases bA _ _ |>.mp hq with h|h
         ·exact .inl (by simpa using h)
         ·exact .inr (beq_iff_eq.mp h)
        ·refine ML ht hi hz Q E.1 E.2 M V ?_ hr;by_cases h0:ys=[]
         ·subst h0;generalize a.eval z=q at r;cases r with
          | sl0 b N _ _ _=>exact⟨b,N,rfl,.inl rfl⟩
          | sl b off cs N _ _ _ u=>exact⟨_,N,rfl,.inl rfl⟩
         ·obtain⟨b,off,N,cs,U,z1,z2,z3,z4,z5,z6,z7,z8⟩:=r.sl_cells M.phi h0;have hs:sz'=i.size:=I.resolve_left h0;subst hs;exact⟨_,N,z1,.inr ⟨b,off,U,rfl,z6,z7,z8,z5⟩⟩
       ·rename_i l n lo j X;rw[X]at r;have A:=VC hr;clear hr;obtain⟨ob,W,hr⟩:=A;split at hr
        ·rename_i fz ty' sz' ys;split at hr
         ·rename_i I;subst I;have A:=YR hr;clear hr;obtain⟨hn,hr⟩:=A;have hn:=beq_iff_eq.mp hn;refine ML ht hi hz Q E.1 E.2 M V ?_ hr;generalize a.eval z=q at r;cases r with
          | row _ _ _ _ B C S q' hm k2 k3 k4 ha=>
           obtain⟨rfl,U,m1,m2,m3,m4,Z,m6,m7⟩:=DK M W hn hm;have T:((ys.take j).drop lo).length=j - lo:=by simp;omega
           rw[<- T];refine⟨q',_,rfl,?_⟩;by_cases hlh:lo<j
           ·have hq:=ha (.inl hlh);subst hq;refine .inr ⟨B,lo*i.size,((U.toList.take (ys.length*i.size)).drop (lo*i.size)).take ((j - lo)*i.size),rfl,?_,?_,?_,?_⟩
            ·obtain⟨_,m1,_⟩:=m1;have:=VL m1 (lo*i.size) ((j - lo)*i.size);have e:((U.toList.take (ys.length*i.size)).drop (lo*i.size)).take ((j - lo)*i.size)=(U.toList.drop (lo*i.size)).take ((j - lo)*i.size):=by rw[aO,dH,cK];rw[<- Nat.sub_mul];exact IG _ (by omega)
             rw[e];exact this
            ·have:=(m6.drop (lo*i.size)).take ((j - lo)*i.size);rw[DC Z,Sy (λx hx=>Z x (IM hx))]at this;have O:(ys.take j).drop lo=(ys.drop lo).take (j - lo):=by rw[aO]
             rw[O];exact this
            ·exact(m7.drop _).take _
            ·intro y V;exact Z y (IP (IM V))
           ·left;have:lo=j:=by omega
            subst this;simp
         ·exact(Zn hr).elim
        ·exact(Zn hr).elim
       ·exact(Zn hr).elim
      obtain⟨v,w',F,H⟩:=key;simp[QZ,resolve,invoke,builtin,F,H]
     ·cases g
    ·cases g
   ·cases g
  ·cases g
 ·cases g
def i2j{o:Oper}{p:POp}(g:Gt P o.op=some p)(hc:p.isCall=false)(s:Good c μ Φ σ w)(r:Wy μ Φ a.tmps env)(hr:(WW L env p).run σ=some (x,σ')):
  QZ P (execOp a.eval o) w (Yz c μ Φ σ' x):=by
 obtain⟨dst,op,I,pos,after,guard⟩:=o;simp only at g;unfold Gt at g;split at g
 all_goals try simp only[Ib,Cm]at g
 ·obtain⟨y,l,rfl⟩:=g;simp only[WW]at hr;obtain⟨rfl,rfl⟩:=ZE hr;exact Zm s (Yn r l)
 ·obtain⟨y,l,rfl⟩:=g;simp only[WW]at hr;obtain⟨rfl,rfl⟩:=ZE hr;exact Zm s (Yn r l)
 ·obtain⟨y1,h1,y2,h2,y3,h3,rfl⟩:=g;obtain⟨v,w',S,r2⟩:=h5n (P:=P) s (Yn r h1) (Yn r h2) (Yn r h3) hr;simp only[Ig]at S;simp only[QZ,execOp,Ig];cases C:(asBool (a.eval _)).run P w with
  | ok b w1=>simp only[C,Ik,IZ]at S ⊢;cases S;exact r2
  | halt h w1=>simp[C]at S
 ·obtain⟨i,hi,y,l,rfl⟩:=g;exact(i3m (P:=P) s (Yn r l) hr).gives
 ·obtain⟨i,hi,z,A,q,C,rfl⟩:=g;exact(g0s (P:=P) hi A C s hr).gives
 ·obtain⟨i,hi,z,A,q,C,g⟩:=g;split at g
  ·rename_i fs ht;simp only[Ib,Cm]at g;obtain⟨pl,U,qs,B,rfl⟩:=g;obtain⟨N,O⟩:=VO B;refine(f6y (P:=P) ht hi A C U s (by simpa using N) ?_ hr).gives;intro j pa K ha hb;rw[bQ,Cm]at ha;obtain⟨⟨n,o⟩,ho,rfl⟩:=ha
   have:=O j (n,o) K (by simpa using ho) hb;simp only[Ib,Cm]at this;obtain⟨⟨o1,n1⟩,k1,y,Q,rfl⟩:=this;exact⟨k1,Yn r Q⟩
  ·rename_i len e ht;simp only[Ib,Cm]at g;obtain⟨ie,T,qs,B,rfl⟩:=g;obtain⟨N,O⟩:=VO B;refine(e6d (P:=P) ht hi T A C s (by simpa using N) ?_ hr).gives;intro j pa K ha hb;rw[bQ,Cm]at ha;obtain⟨⟨n,o⟩,ho,rfl⟩:=ha
   have:=O j (n,o) K (by simpa using ho) hb;simp only[Cm]at this;obtain⟨y,Q,rfl⟩:=this;exact⟨rfl,Yn r Q⟩
  ·cases g
 ·split at g
  ·rename_i e ht;simp only[Ib]at g;obtain⟨i,hi,z,A,q,C,g⟩:=g;split at g
   ·rename_i J;simp only[Cm]at g;obtain⟨qs,B,rfl⟩:=g;obtain⟨N,O⟩:=VO B;refine(vs_bslice (P:=P) ht hi A C J.1 J.2 s (by simpa using N) ?_ hr).gives;intro j pa K ha hb;rw[bQ,Cm]at ha;obtain⟨⟨n,o⟩,ho,rfl⟩:=ha
    have:=O j (n,o) K (by simpa using ho) hb;simp only[Cm]at this;obtain⟨y,Q,rfl⟩:=this;exact⟨rfl,Yn r Q⟩
   ·cases g
  ·cases g
 ·split at g
  ·rename_i hu;simp only[Ib]at g;obtain⟨i,hi,g⟩:=g;split at g
   ·rename_i hsh;simp only[Cm]at g;obtain⟨y,l,rfl⟩:=g;exact(g8h (P:=P) hu hi hsh s (Yn r l) hr).gives
   ·cases g
  ·cases g
 ·obtain⟨i,hi,y,l,z,A,rfl⟩:=g;exact Og (f6t (P:=P) hi s (Yn r l) (Yn r A) hr)
 ·obtain⟨y,l,rfl⟩:=g;exact e7e (P:=P) s (Yn r l) hr _ a.eval _ rfl rfl
 ·obtain⟨kd,hk,y,l,z,A,rfl⟩:=g;exact(i0t (P:=P) hk s (Yn r l) (Yn r A) hr).gives
 ·obtain⟨y,l,rfl⟩:=g;exact(j4y (P:=P) s (Yn r l) hr).gives
 ·split at g
  ·rename_i hs;split at g
   ·rename_i k hd;simp only[Cm]at g;obtain⟨y,l,rfl⟩:=g;exact(h2c (P:=P) hs hd s (Yn r l) hr).gives
   ·rename_i hd;split at g
    ·rename_i e hsl;split at g
     ·rename_i F;simp only[Cm]at g;obtain⟨y,l,rfl⟩:=g;exact(h4r (P:=P) hsl hd (c8i F) s (Yn r l) hr).gives
     ·cases g
    ·simp only[Cm]at g;obtain⟨y,l,rfl⟩:=g;exact(f9n (P:=P) hs hd s (Yn r l) hr).gives
   ·rename_i e hd;split at g
    ·rename_i F;split at g
     ·rename_i hsd;subst hsd;simp only[Cm]at g;obtain⟨y,l,rfl⟩:=g;exact(e3z (P:=P) hd (c8i F) s (Yn r l) hr).gives
     ·simp only[Cm]at g;obtain⟨y,l,rfl⟩:=g;exact(e4o (P:=P) hs hd (c8i F) s (Yn r l) hr).gives
    ·cases g
   ·cases g
  ·cases g
 ·obtain⟨xs,Y,ys,hys,rfl⟩:=g;exact(h1e (P:=P) s (a2v r Y) (a2v r hys) hr).gives
 ·cases g;exact(g6a (P:=P) s hr).gives
 ·split at g
  ·rename_i e ht;simp only[Ib]at g;obtain⟨i,hi,z,A,q,C,y,l,u,hu,g⟩:=g;split at g
   ·rename_i hs;cases g;exact(g9w (P:=P) ht hi A C hs s (Yn r l) (Yn r hu) hr).gives
   ·cases g
  ·cases g
 ·rename_i t o lo hi mx;split at g
  ·rename_i ht;split at g
   ·rename_i E;simp only[Ib,Cm]at g;obtain⟨y,l,W,H,X,D,rfl⟩:=g;have:mx=none:=by simpa using E
    subst this;exact(e2t (P:=P) ht (λn hn=>a2t r H 0 n hn) (λd n hn=>a2t r D d n hn) s (Yn r l) hr).gives
   ·cases g
  ·rename_i e ht;simp only[Ib,Cm]at g;obtain⟨i,Z,y,l,W,H,X,D,mx',E,rfl⟩:=g;refine(h9y (P:=P) ht Z (λn hn=>a2t r H 0 n hn) (λd n hn=>a2t r D d n hn) ?_ ?_ ?_ s (Yn r l) hr).gives
   ·rintro rfl;cases mx with
    | none=>rfl
    | some z=>simp[PU]at E
   ·intro h;cases hi with
    | none=>simp[PU]at D;exact absurd D.symm h
    | some z=>simp
   ·rintro m rfl;cases mx with
    | none=>simp[PU]at E
    | some z=>exact⟨a.eval z,rfl,λd n hn=>a2t r (o:=some z) E d n hn⟩
  ·cases g
 ·split at g
  ·rename_i fs ht;simp only[Ib]at g;obtain⟨f,V,i,hi,g⟩:=g;split at g
   ·rename_i A;simp only[Cm]at g;obtain⟨y,l,rfl⟩:=g;exact(f1m (P:=P) ht V hi A s (Yn r l) hr).gives
   ·cases g
  ·cases g
 ·split at g
  ·rename_i fs ht;simp only[Ib]at g;obtain⟨f,V,i,hi,g⟩:=g;split at g
   ·rename_i hu;simp only[Cm]at g;obtain⟨y,l,rfl⟩:=g;exact(f8v (P:=P) ht V hu hi s (Yn r l) hr).gives
   ·cases g
  ·cases g
 ·split at g
  ·rename_i e ht;simp only[Ib,Cm]at g;obtain⟨i,hi,y,l,z,A,rfl⟩:=g;exact(g2y (P:=P) ht hi s (Yn r l) (Yn r A) hr).gives
  ·rename_i n e ht;split at g
   ·rename_i k z;simp only[Ib]at g;obtain⟨ie,hi,g⟩:=g;split at g
    ·rename_i A;simp only[Cm]at g;obtain⟨y,l,rfl⟩:=g;exact(f9m (P:=P) (k:=k) ht hi A s (Yn r l) hr).gives
    ·cases g
   ·cases g
  ·cases g
 ·split at g
  ·rename_i ht;simp only[Ib,Cm]at g;obtain⟨y,l,z,A,rfl⟩:=g;exact(g2e (P:=P) ht s (Yn r l) (Yn r A) hr).gives
  ·rename_i n e ht;simp only[Ib]at g;obtain⟨ie,hi,g⟩:=g;split at g
   ·rename_i M;simp only[Ib,Cm]at g;obtain⟨y,l,z,A,rfl⟩:=g;exact(e6p (P:=P) ht hi M.1 M.2 s (Yn r l) (Yn r A) hr).gives
   ·cases g
  ·cases g
 ·split at g
  ·rename_i kt et ht;simp only[Ib,Cm]at g;obtain⟨st,hst,y,l,u,hu,z,A,rfl⟩:=g;obtain⟨d,hd,hk⟩:=h2j hst;exact Og (e3i (P:=P) ht hd hk s (Yn r l) (Yn r hu) (Yn r A) hr)
  ·cases g
 ·obtain⟨y,l,rfl⟩:=g;exact(d4i (P:=P) s (Yn r l) hr).gives
 ·exact f6h g hc s r hr I
 ·cases g
end
end
def a3z:List Nat->Bool
 | []=>true
 | x::xs=> !xs.contains x&&a3z xs
def Ls{ls:List Nat}{l i:Nat}(h:fwd ls l=some i):ls[i]? = some l:=by unfold fwd at h;rw[List.idxOf?,List.findIdx?_eq_some_iff_getElem]at h;obtain⟨hi,h1,_⟩:=h;rw[Ia hi];simp at h1;rw[h1]
def PP{ρ:Nat->Option Nat}: ∀ {xs ys:List AV},Fp ρ xs=some ys->xs.length=ys.length∧ ∀ (j:Nat) x y,xs[j]? = some x->ys[j]? = some y->x.ren ρ=some y:=by
 intro xs
 induction xs with
 | nil=>intro ys h;simp[Fp]at h;subst h;simp
 | cons x xs ih=>
  intro ys h;simp only[Fp,Ib,Cm]at h;obtain⟨y,g,ys',e,rfl⟩:=h;obtain⟨h1,h2⟩:=ih e;refine⟨by simp[h1],?_⟩;intro j a b ha hb;cases j with
  | zero=>simp at ha hb;subst ha hb;exact g
  | succ j=>simp at ha hb;exact h2 j a b ha hb
def h9v{μ μ':Mu}{Φ:Yk}{ρ:Nat->Option Nat}(r : ∀ l i,ρ l=some i-> ∀ n z,μ l n=some z->μ' i n=some z){v:Value}{x:AV}(h:R μ Φ v x): ∀ {y:AV},x.ren ρ=some y->R μ' Φ v y:=by
 induction h with
 | pv v p h=>intro y b;simp[AV.ren]at b;subst b;exact .pv v p h
 | junk v=>intro y b;simp[AV.ren]at b;subst b;exact .junk v
 | undef=>intro y b;simp[AV.ren]at b;subst b;exact .undef
 | agg cs xs hn ho h ih=>
  intro y b;simp only[AV.ren,Cm]at b;obtain⟨ys,e,rfl⟩:=b;obtain⟨h1,h2⟩:=PP e;refine .agg cs ys (by omega) ho (λj v y q b=> ?_);have g:j<xs.length:=by have:=(Ic.1 b).1;omega
  exact ih j v xs[j] q (Ia g) (h2 j _ _ (Ia g) b)
 | tup cs xs hn h ih=>
  intro y b;simp only[AV.ren,Cm]at b;obtain⟨ys,e,rfl⟩:=b;obtain⟨h1,h2⟩:=PP e;refine .tup cs ys (by omega) (λj v y q b=> ?_);have g:j<xs.length:=by have:=(Ic.1 b).1;omega
  exact ih j v xs[j] q (Ia g) (h2 j _ _ (Ia g) b)
 | ptr l o B C S h=>intro y b;simp only[AV.ren,Cm]at b;obtain⟨i,hi,rfl⟩:=b;exact .ptr i o B C S (r l i hi _ _ h)
 | row l n lo hi B C S a h h1 h2 h3 ha=>intro y b;simp only[AV.ren,Cm]at b;obtain⟨i,hi,rfl⟩:=b;exact .row i n lo _ B C S a (r l i hi _ _ h) h1 h2 h3 ha
 | eptr l n i o B C S h=>intro y b;simp only[AV.ren,Cm]at b;obtain⟨k,D,rfl⟩:=b;exact .eptr k n i o B C S (r l k D _ _ h)
 | map l B C S h=>intro y b;simp only[AV.ren,Cm]at b;obtain⟨i,hi,rfl⟩:=b;exact .map i B C S (r l i hi _ _ h)
 | fn f cs ds xs ys hn hm h k ih1 ih2=>
  intro y b;simp only[AV.ren,Ib,Cm]at b;obtain⟨u,s,A,e,rfl⟩:=b;obtain⟨h1,h2⟩:=PP s;obtain⟨k1,E⟩:=PP e;refine .fn f cs ds u A (by omega) (by omega) (λj v y q b=> ?_) (λj v y q b=> ?_)
  ·have g:j<xs.length:=by have:=(Ic.1 b).1;omega
   exact ih1 j v xs[j] q (Ia g) (h2 j _ _ (Ia g) b)
  ·have g:j<ys.length:=by have:=(Ic.1 b).1;omega
   exact ih2 j v ys[j] q (Ia g) (E j _ _ (Ia g) b)
 | yld l=>intro y b;simp only[AV.ren,Im]at b;subst b;exact .yld l
def c8f{μ μ':Mu}{Φ:Yk}{ρ:Nat->Option Nat}(e : ∀ l i,ρ l=some i-> ∀ n z,μ l n=some z->μ' i n=some z){vs:List Value}{xs ys:List AV}(h:RL μ Φ vs xs)(a:Fp ρ xs=some ys):RL μ' Φ vs ys:=by
 obtain⟨h1,h2⟩:=PP a;refine⟨by rw[h.1,h1],λj v y g a=> ?_⟩;have b:j<xs.length:=by have:=(Ic.1 a).1;omega
 exact h9v e (h.2 j v xs[j] g (Ia b)) (h2 j _ _ (Ia b) a)
def WV{μ μ':Mu}{Φ:Yk}{w:World}{ρ:Nat->Option Nat}(e : ∀ l i,ρ l=some i-> ∀ n z,μ l n=some z->μ' i n=some z){l i:Nat}(a : ∀ n,μ' i n=μ l n){o o':AObj}(h:Dn μ Φ w l o)(ho:o.ren ρ=some o'):
  Dn μ' Φ w i o'∧blk μ' i o'=blk μ l o:=by
 cases o with
 | box xs=>simp only[AObj.ren,Cm]at ho;obtain⟨ys,b,rfl⟩:=ho;obtain⟨B,C,S,T,cs,h1,h2,h3,g,j⟩:=h;exact⟨⟨B,C,S,T,cs,by rw[a];exact h1,h2,c8f e h3 b,g,j⟩,by simp[blk,a]⟩
 | row fz ty sz xs=>simp only[AObj.ren,Im]at ho;subst ho;obtain⟨B,C,cs,h1,h2,h3⟩:=h;exact⟨⟨B,C,cs,by rw[a];exact h1,λn hn=>by rw[a];exact h2 n hn,h3⟩,by simp[blk,a]⟩
 | map es=>simp only[AObj.ren,Im]at ho;subst ho;obtain⟨B,C,S,m,k,h1,h2⟩:=h;exact⟨⟨B,C,S,m,k,by rw[a];exact h1,h2⟩,by simp[blk,a]⟩
def e8f: ∀ {l:List Nat},a3z l-> ∀ (i j:Nat) x,l[i]? = some x->l[j]? = some x->i=j:=by
 intro l
 induction l with
 | nil=>intro _ i j x h;simp at h
 | cons a l ih=>
  intro h i j x hi b;simp only[a3z,Ie,eU]at h;have e:a ∉ l:=by simpa using h.1
  cases i with
  | zero=>
   cases j with
   | zero=>rfl
   | succ j=>simp at hi b;subst hi;exact absurd (Iz b) e
  | succ i=>
   cases j with
   | zero=>simp at hi b;subst b;exact absurd (Iz hi) e
   | succ j=>simp at hi b;rw[ih h.2 i j x hi b]
def Mu.ren(μ:Mu)(ls:List Nat):Mu:=λi n=>match ls[i]? with|some l=>μ l n|none=>none
def c7x{α:Type}{σ:ZC}{k:List (Nat×AObj)->HM α}{r:α×ZC}: ∀ (n:Nat) {ls:List Nat} {e:List (Nat×AObj)},(M9 n ls e k).run σ=some r->(∀ p∈e,σ[p.1]? = some (.obj p.2))->(e.map (·.1)).Nodup ->
  ∃ g,(∀ p∈g,σ[p.1]? = some (.obj p.2))∧(g.map (·.1)).Nodup∧(k g).run σ=some r:=by
 intro n
 induction n with
 | zero=>intro ls e h _ _;simp[M9,HM.run]at h
 | succ n ih=>
  intro ls e h h1 h2;cases ls with
  | nil=>exact⟨e,h1,h2,h⟩
  | cons l ls=>
   unfold M9 at h;split at h
   ·exact ih h h1 h2
   ·rename_i j;obtain⟨x,σ'⟩:=r;obtain⟨o,ho,h3⟩:=VC h;refine ih h3 ?_ ?_
    ·intro p i;rw[Ih]at i;rcases i with i|i
     ·exact h1 p i
     ·simp at i;subst i;exact ho
    ·rw[aK,eQ];refine⟨h2,by simp,?_⟩;intro a ha b hb;simp at hb;subst hb;rintro rfl;exact j (by simpa using ha)
def d3k{α:Type}{k:HM α}{r:α×ZC}: ∀ {ps:List (Nat×AObj)} {σ:ZC},(a5e ps k).run σ=some r->(ps.map (·.1)).Nodup ->
  ∃ b,k.run b=some r∧(∀ p∈ps,b[p.1]? = some (.obj p.2))∧ ∀ l,l ∉ ps.map (·.1)->b[l]? = σ[l]? :=by
 intro ps
 induction ps with
 | nil=>intro σ h _;exact⟨σ,h,by simp,λ_ _=>rfl⟩
 | cons p ps ih=>
  intro σ h hn;obtain⟨l,o⟩:=p;obtain⟨x,σ'⟩:=r;simp only[a5e]at h;obtain⟨⟨o',e⟩,h1⟩:=Bf h;simp only[IJ,List.nodup_cons]at hn;obtain⟨b,k1,k2,k3⟩:=ih h1 hn.2;refine⟨b,k1,?_,?_⟩
  ·intro p g;rcases IY.1 g with rfl|g
   ·rw[k3 _ hn.1];exact Z6 e
   ·exact k2 p g
  ·intro l' a;simp only[IJ,IY,gD]at a;rw[k3 l' a.2,ZR a.1]
def c7l{α:Type}{k:HM α}{r:α×ZC}: ∀ {os:List AObj} {L:Nat} {σ:ZC},(EH L os k).run σ=some r ->
  ∃ g,k.run g=some r∧(∀ (j:Nat) o,os[j]? = some o->σ[L+j]? = some .fresh∧g[L+j]? = some (.obj o))∧ ∀ l,(l<L∨L+os.length<=l)->g[l]? = σ[l]? :=by
 intro os
 induction os with
 | nil=>intro L σ h;exact⟨σ,h,by simp,λ_ _=>rfl⟩
 | cons o os ih=>
  intro L σ h;obtain⟨x,σ'⟩:=r;simp only[EH]at h;obtain⟨s,h1⟩:=D8 h;obtain⟨g,k1,k2,k3⟩:=ih h1;refine⟨g,k1,?_,?_⟩
  ·intro j u i;cases j with
   | zero=>simp at i;subst i;refine⟨s,?_⟩;rw[bi,k3 L (.inl (by omega))];exact Z6 s
   | succ j=>
    simp at i;obtain⟨a,b⟩:=k2 j u i;have e:L+1+j=L+(j+1):=by omega
    rw[e]at a b;refine⟨?_,b⟩
    rwa [ZR (by omega)]at a
  ·intro l q;rw[k3 l (by simp at q;omega),ZR (by simp at q;omega)]
def Dj{ρ:Nat->Option Nat}: ∀ {xs ys:List AObj},DV ρ xs=some ys->xs.length=ys.length∧ ∀ (j:Nat) x y,xs[j]? = some x->ys[j]? = some y->x.ren ρ=some y:=by
 intro xs
 induction xs with
 | nil=>intro ys h;simp[DV]at h;subst h;simp
 | cons x xs ih=>
  intro ys h;simp only[DV,Ib,Cm]at h;obtain⟨y,g,ys',e,rfl⟩:=h;obtain⟨h1,h2⟩:=ih e;refine⟨by simp[h1],?_⟩;intro j a b ha hb;cases j with
  | zero=>simp at ha hb;subst ha hb;exact g
  | succ j=>simp at ha hb;exact h2 j a b ha hb
def Mu.back(μ a:Mu)(ls:List Nat)(L k:Nat):Mu:=λl n=>
 if L<=l∧l<L+k then a (ls.length+(l - L)) n
 else match ls.idxOf? l with|some i=>a i n|none=>μ l n
section
def W9(P:Program)(f:Nat)(pre:List PV->Bool)(val:List PV->PV):Prop:=
 ∀ ps,pre ps-> ∀ Φ w (vs:Array Value),GlobOK Φ->UL Φ w->Un Φ vs.toList ps ->
  Calls P f vs w λe w'=> ∃ v Φ',e = .returned v∧Yk.le Φ Φ'∧UL Φ' w'∧RP Φ' v (val ps)∧Below w.heap.size w w'∧ ∀ b cs,Φ' b=some cs->Φ b=some cs∨w.heap.size<=b
def Y7(μ:Mu)(Φ:Yk)(σ:ZC)(w:World):Ctx:=⟨w,λb=> ∃ l o,σ[l]? = some (.obj o)∧blk μ l o=b,Φ,μ⟩
def XC(os:List AObj):ZC:=os.map .obj
def YP(P:Program)(f:Nat)(pre:List AV->List AObj->Bool)(val:List AV->List AObj->AV×List AObj×List AObj):Prop:=
 ∀ args os x b ext,pre args os->val args os=(x,b,ext)->b.length=os.length∧ ∀ μ Φ w (vs:Array Value),Good (Y7 μ Φ (XC os) w) μ Φ (XC os) w->RL μ Φ vs.toList args ->
  Calls P f vs w λe w'=> ∃ v g Φ',e = .returned v∧Good (Y7 μ Φ (XC os) w) g Φ' (XC (b++ext)) w'∧R g Φ' v x
def e1j(P:Program)(f:Nat):Den->Prop
 | .pure pre val=>W9 P f pre val
 | .own pre val=>YP P f pre val
def Xa(P:Program)(T:ZH):Prop:= ∀ f D,T f=some D->(∃ fn,P.funcs[f]? = some fn∧fn.body.isSome∧(fn.name == "runtime.NumGoroutine")=false)∧e1j P f D
section
variable {P:Program} {c:Ctx} {μ:Mu} {Φ:Yk} {σ σ':ZC} {w:World} {a:Act} {env:List AV} {L:Nat} {x:AV}
def Jv{f:FuncId}{fn:Func}{args:Array Value}(hf:P.funcs[f]? = some fn)(hb:fn.body.isSome)(hn:(fn.name == "runtime.NumGoroutine")=false):(callFunc f args).run P w = .ok (.enter f args) w:=by
 have hb':fn.body.isNone=false:=by cases h:fn.body <;> simp_all
 unfold callFunc;simp only[Ig,run_program,Ik,hf,hn,hb',gp,IL];rfl
def e9c{f:Nat}{pre:List PV->Bool}{val:List PV->PV}(h:W9 P f pre val){vs:Array Value}{args:List AV}(j:Good c μ Φ σ w)(k:RL μ Φ vs.toList args)
  (hr:((Jg args).bind λps=>HM.req (pre ps) (.ret (.pv (val ps)))).run σ=some (x,σ')):Calls P f vs w λe w'=> ∃ v,e = .returned v∧Yz c μ Φ σ' x v w':=by
 rw[HM.run_bind,Ib]at hr;obtain⟨⟨ps,σ1⟩,h1,h2⟩:=hr;obtain⟨h3,l⟩:=YR h2;obtain⟨rfl,rfl⟩:=ZE l;obtain⟨Φ1,f1,f2,f3⟩:=Kr args h1 j k;refine(h ps h3 Φ1 w vs (f2.laid.mono f2.Φle) f2.phi f3).mono ?_;rintro e w' ⟨v,Φ2,rfl,k1,i,k3,b,g⟩;exact⟨v,rfl,μ,Φ2,Mu.le.refl _,f1.trans k1,f2.below b k1 i g,.pv _ _ k3⟩
def Good.μ_fresh(h:Good c μ Φ σ w){l n:Nat}{z:Nat×Nat×Nat}(b:μ l n=some z): ∃ s,σ[l]? = some s∧s ≠ .fresh:=by
 cases hs:σ[l]? with
 | none=>rw[h.fresh l n (.inl hs)]at b;cases b
 | some s=>refine⟨s,rfl,?_⟩;rintro rfl;rw[h.fresh l n (.inr hs)]at b;cases b
def f8d{ls:List Nat}{os:List AObj}{r ext D A:List AObj}{σ1 σ2:ZC}{B:Mu}{Φ2:Yk}{w':World}(q:Good c μ Φ σ w)(hnd:ls.Nodup)
  (hls : ∀ (i l:Nat) o,ls[i]? = some l->os[i]? = some o->σ[l]? = some (.obj o)) (hlen:os.length=ls.length) {J:List AObj} (hren:DV (fwd ls) os=some J)
  (y:Good (Y7 (μ.ren ls) Φ (XC J) w) B Φ2 (XC (r++ext)) w') (h2:r.length=ls.length) (r1:DV (bwd ls L) r=some D) (r2:DV (bwd ls L) ext=some A)
  (a1 : ∀ (i l:Nat) o,ls[i]? = some l->D[i]? = some o->σ1[l]? = some (.obj o)) (a2 : ∀ l,l ∉ ls->σ1[l]? = σ[l]?)
  (b1 : ∀ (j:Nat) o,A[j]? = some o->σ1[L+j]? = some .fresh∧σ2[L+j]? = some (.obj o)) (b2 : ∀ l,(l<L∨L+A.length<=l)->σ2[l]? = σ1[l]?) :
  Mu.le μ (μ.back B ls L ext.length)∧Good c (μ.back B ls L ext.length) Φ2 σ2 w'∧ ∀ (i l:Nat),bwd ls L i=some l-> ∀ n z,B i n=some z->μ.back B ls L ext.length l n=some z:=by
 obtain⟨e1,q1⟩:=Dj r1;obtain⟨e2,q2⟩:=Dj r2;obtain⟨e3,q3⟩:=Dj hren;have hidx : ∀ (i l:Nat),ls[i]? = some l->ls.idxOf? l=some i:=by
  intro i l g;have hi:i<ls.length:=(Ic.1 g).1;have hm:l∈ls:=Iz g;cases hx:ls.idxOf? l with
  | none=>rw[cB]at hx;exact absurd hm hx
  | some j=>
   have hj:=Ls (ls:=ls) (l:=l) (i:=j) hx;have hj':j<ls.length:=(Ic.1 hj).1;rw[Ia hi]at g;rw[Ia hj']at hj;have:ls[i]=ls[j]:=by rw[Im]at g hj;rw[g,hj]
   rw[(fE hnd).1 this]
 have hnone : ∀ (l:Nat),l ∉ ls->ls.idxOf? l=none:=λl g=>by rw[cB];exact g
 have hL : ∀ (j:Nat),j<ext.length->L+j ∉ ls∧σ[L+j]? = some .fresh:=by
  intro j hj;obtain⟨f1,_⟩:=b1 j A[j] (Ia (by omega));have hn:L+j ∉ ls:=by
   intro hm;obtain⟨i,hi,e⟩:=I4 hm
   have:=a1 i (L+j) D[i] (by rw[Ia hi,e]) (Ia (by omega));rw[f1]at this;cases this
  exact⟨hn,by rw[<- a2 _ hn];exact f1⟩
 have hin : ∀ (i l:Nat),ls[i]? = some l-> ¬ (L<=l∧l<L+ext.length):=by
  intro i l g ⟨h3,F⟩
  have:=(hL (l - L) (by omega)).1;rw[show L+(l - L)=l by omega]at this;exact this (Iz g)
 have Z : ∀ (i l n:Nat),ls[i]? = some l->μ.back B ls L ext.length l n=B i n:=by intro i l n g;simp only[Mu.back,fo (hin i l g),hidx i l g]
 have bk2 : ∀ (j n:Nat),j<ext.length->μ.back B ls L ext.length (L+j) n=B (ls.length+j) n:=by intro j n hj;simp only[Mu.back];rw[fw ⟨by omega,by omega⟩,show ls.length+(L+j - L)=ls.length+j by omega]
 have O : ∀ (l n:Nat),l ∉ ls-> ¬ (L<=l∧l<L+ext.length)->μ.back B ls L ext.length l n=μ l n:=by intro l n g hr;simp only[Mu.back,fo hr,hnone l g]
 have hρ : ∀ (i l:Nat),bwd ls L i=some l-> ∀ n z,B i n=some z->μ.back B ls L ext.length l n=some z:=by
  intro i l g n z S;unfold bwd at g;split at g
  ·rw[Z i l n g];exact S
  ·rename_i hi;simp only[Im]at g;subst g;obtain⟨s,hs,_⟩:=y.μ_fresh S;have:i<(XC (r++ext)).length:=(Ic.1 hs).1;simp[XC]at this;rw[bk2 (i - ls.length) n (by omega),show ls.length+(i - ls.length)=i by omega];exact S
 have hle:Mu.le μ (μ.back B ls L ext.length):=by
  intro l n z S;by_cases hm:l∈ls
  ·obtain⟨i,hi,e⟩:=I4 hm;have g:ls[i]? = some l:=by rw[Ia hi,e]
   rw[Z i l n g];refine y.μle i n z ?_;simp[Y7,Mu.ren,g,S]
  ·by_cases hr:L<=l∧l<L+ext.length
   ·have:=(hL (l - L) (by omega)).2;rw[show L+(l - L)=l by omega]at this;rw[q.fresh l n (.inr this)]at S;cases S
   ·rw[O l n hm hr];exact S
 have u : ∀ (l:Nat) (o:AObj),σ2[l]? = some (.obj o)->(∃ (i:Nat) (p:AObj),(r++ext)[i]? = some p∧bwd ls L i=some l∧p.ren (bwd ls L)=some o∧(∀ n,μ.back B ls L ext.length l n=B i n))∨(l ∉ ls∧ ¬ (L<=l∧l<L+ext.length)∧σ[l]? = some (.obj o)):=by
  intro l o g;by_cases hr:L<=l∧l<L+ext.length
  ·left;obtain⟨_,f2⟩:=b1 (l - L) A[l - L] (Ia (by omega));rw[show L+(l - L)=l by omega,g]at f2;cases f2;refine⟨ls.length+(l - L),ext[l - L],?_,?_,?_,?_⟩
   ·rw[I9 (by omega),show ls.length+(l - L) - r.length=l - L by omega];exact Ia (by omega)
   ·simp only[bwd];rw[fo (by omega)];congr 1;omega
   ·exact q2 (l - L) _ _ (Ia (by omega)) (Ia (by omega))
   ·intro n
    have:=bk2 (l - L) n (by omega)
    rwa [show L+(l - L)=l by omega]at this
  ·rw[b2 l (by omega)]at g;by_cases hm:l∈ls
   ·left;obtain⟨i,hi,e⟩:=I4 hm;have N:ls[i]? = some l:=by rw[Ia hi,e]
    have:=a1 i l D[i] N (Ia (by omega));rw[g]at this;cases this;refine⟨i,r[i],?_,?_,q1 i _ _ (Ia (by omega)) (Ia (by omega)),λn=>Z i l n N⟩
    ·rw[IQ (by omega)];exact Ia (by omega)
    ·simp only[bwd];rw[fw hi];exact N
   ·right;rw[a2 l hm]at g;exact⟨hm,hr,g⟩
 have C : ∀ (i:Nat) (p:AObj),(r++ext)[i]? = some p->(XC (r++ext))[i]? = some (.obj p):=by intro i p h;simp only[XC,Ij,h,aX]
 have H : ∀ b,(Y7 (μ.ren ls) Φ (XC J) w).own b-> ∃ (l:Nat) (o:AObj),l∈ls∧σ[l]? = some (.obj o)∧blk μ l o=b:=by rintro b ⟨i,o',ho',hb⟩;simp only[XC,Ij,Cm]at ho';obtain⟨X,ho1,e⟩:=ho';cases e;have hi:i<J.length:=(Ic.1 ho1).1;have g:ls[i]? = some ls[i]:=Ia (by omega);have ho:os[i]? = some os[i]:=Ia (by omega);have hσ:=hls i _ _ g ho;refine⟨ls[i],os[i],fC _,hσ,?_⟩;rw[<- hb];exact(WV (μ':=μ.ren ls) (i:=i) (ρ:=fwd ls) (λl i hi n z S=>by simp[Mu.ren,Ls hi,S]) (λn=>by simp[Mu.ren,g]) (q.obj _ _ hσ) (q3 i _ _ ho ho1)).2.symm
 have I : ∀ (i:Nat) (p:AObj),(r++ext)[i]? = some p->w.heap.size<=blk B i p ∨ ∃ (l:Nat) (o:AObj),l∈ls∧σ[l]? = some (.obj o)∧blk μ l o=blk B i p:=by
  intro i p h;rcases y.own i p (C i p h)with k|k
  ·exact .inl k
  ·exact .inr (H _ k)
 refine⟨hle,⟨y.phi,?_,?_,?_,?_,y.os.trans q.os,y.tape.trans q.tape,y.output.trans q.output,IK q.size y.size,?_,q.Φle.trans y.Φle,q.μle.trans hle,?_,q.laid⟩,hρ⟩
 ·intro l o g;rcases u l o g with ⟨i,p,h3,F,E,h6⟩|⟨h3,F,E⟩
  ·exact(WV hρ h6 (y.obj i p (C i p h3)) E).1
  ·have hox:=q.obj l o E;have K : ¬ (Y7 (μ.ren ls) Φ (XC J) w).own (blk μ l o):=by intro k;obtain⟨l',o',k1,U,k3⟩:=H _ k;exact q.apart l' l o' o (λe=>h3 (e▸k1)) U E k3
   refine(hox.keep hle (λn=>O l n h3 F) y.Φle ?_ (y.frame _ hox.blk_lt K)).1;cases hp:Φ2 (blk μ l o)with
   | none=>
    cases hq:Φ (blk μ l o)with
    | none=>rfl
    | some cs=>rw[y.Φle _ _ hq]at hp;cases hp
   | some cs=>
    rcases y.dom _ _ hp with hd|hd|hd
    ·exact hd.symm
    ·have:=hox.blk_lt;have hd':w.heap.size<=blk μ l o:=hd;omega
    ·exact absurd hd K
 ·intro l l' o o' hne g hl';have M : ∀ (l:Nat) (o:AObj),l ∉ ls->σ[l]? = some (.obj o)-> ∀ (i:Nat) (p:AObj),(r++ext)[i]? = some p->blk μ l o≠blk B i p:=by
   intro l o h3 F i p E e;rcases I i p E with k|⟨l1,X,k1,U,k3⟩
   ·have:=(q.obj l o F).blk_lt;omega
   ·exact q.apart l1 l X o (λe=>h3 (e▸k1)) U F (k3.trans e.symm)
  have Q : ∀ (l:Nat) (o:AObj),l ∉ ls-> ¬ (L<=l∧l<L+ext.length)->blk (μ.back B ls L ext.length) l o=blk μ l o:=by intro l o h3 F;simp only[blk,O l _ h3 F]
  rcases u l o g with ⟨i,p,h3,F,E,h6⟩|⟨h3,F,E⟩
  ·rw[(WV hρ h6 (y.obj i p (C i p h3)) E).2];rcases u l' o' hl' with ⟨V,W,k3,Y,k5,k6⟩|⟨k3,Y,k5⟩
   ·rw[(WV hρ k6 (y.obj V W (C V W k3)) k5).2];refine y.apart i V p W ?_ (C i p h3) (C V W k3);rintro rfl;rw[F]at Y;cases Y;exact hne rfl
   ·rw[Q l' o' k3 Y];exact λe=>M l' o' k3 k5 i p h3 e.symm
  ·rw[Q l o h3 F];rcases u l' o' hl' with ⟨V,W,k3,Y,k5,k6⟩|⟨k3,Y,k5⟩
   ·rw[(WV hρ k6 (y.obj V W (C V W k3)) k5).2];exact M l o h3 E V W k3
   ·rw[Q l' o' k3 Y];exact q.apart l l' o o' hne E k5
 ·intro l n T;have hm:l ∉ ls:=by
   intro hm;obtain⟨i,hi,e⟩:=I4 hm;have g:ls[i]? = some l:=by rw[Ia hi,e]
   have hnr:=hin i l g
   have:=a1 i l D[i] g (Ia (by omega));rw[<- b2 l (by omega)]at this;rcases T with k|k <;> rw[k]at this <;> cases this
  have hnr : ¬ (L<=l∧l<L+ext.length):=by intro hr;obtain⟨_,f2⟩:=b1 (l - L) A[l - L] (Ia (by omega));rw[show L+(l - L)=l by omega]at f2;rcases T with k|k <;> rw[k]at f2 <;> cases f2
  rw[O l n hm hnr];rw[b2 l (by omega),a2 l hm]at T;exact q.fresh l n T
 ·intro l o g;rcases u l o g with ⟨i,p,h3,F,E,h6⟩|⟨h3,F,E⟩
  ·rw[(WV hρ h6 (y.obj i p (C i p h3)) E).2];rcases I i p h3 with k|⟨l1,X,k1,U,k3⟩
   ·exact .inl (IK q.size k)
   ·rw[<- k3];exact q.own l1 X U
  ·have:blk (μ.back B ls L ext.length) l o=blk μ l o:=by simp only[blk,O l _ h3 F]
   rw[this];exact q.own l o E
 ·intro b hb K;rw[y.frame b (aY hb q.size) ?_]
  ·exact q.frame b hb K
  ·intro k;obtain⟨l1,X,k1,U,k3⟩:=H _ k;rcases q.own l1 X U with m|m
   ·omega
   ·rw[k3]at m;exact K m
 ·intro b cs hcs;rcases y.dom b cs hcs with k|k|k
  ·exact q.dom b cs k
  ·exact .inr (.inl (IK q.size k))
  ·obtain⟨l1,X,k1,U,k3⟩:=H _ k;rcases q.own l1 X U with m|m
   ·rw[k3]at m;exact .inr (.inl m)
   ·rw[k3]at m;exact .inr (.inr m)
def e6b{ls:List Nat}{os g:List AObj}(r:Good c μ Φ σ w)(I:ls.Nodup)(F : ∀ (i l:Nat) o,ls[i]? = some l->os[i]? = some o->σ[l]? = some (.obj o))(hlen:os.length=ls.length)(y:DV (fwd ls) os=some g):
  Good (Y7 (μ.ren ls) Φ (XC g) w) (μ.ren ls) Φ (XC g) w:=by
 obtain⟨e3,W⟩:=Dj y;have E : ∀ l i,fwd ls l=some i-> ∀ n z,μ l n=some z->μ.ren ls i n=some z:=λl i hi n z T=>by simp[Mu.ren,Ls hi,T]
 have k : ∀ (i:Nat) (o':AObj),(XC g)[i]? = some (.obj o')-> ∃ (l:Nat) (o:AObj),ls[i]? = some l∧σ[l]? = some (.obj o)∧o.ren (fwd ls)=some o':=by intro i o' A;simp only[XC,Ij,Cm]at A;obtain⟨M,s,e⟩:=A;cases e;have hi:i<g.length:=(Ic.1 s).1;have C:ls[i]? = some ls[i]:=Ia (by omega);have ho:os[i]? = some os[i]:=Ia (by omega);exact⟨_,_,C,F i _ _ C ho,W i _ _ ho s⟩
 refine⟨r.phi,?_,?_,?_,?_,rfl,rfl,rfl,Iw _,λ_ _ _=>rfl,Yk.le.refl _,Mu.le.refl _,λb cs h=>.inl h,r.laid.mono r.Φle⟩
 ·intro i o' ho;obtain⟨l,o,C,hσ,hr⟩:=k i o' ho;exact(WV E (λn=>by simp[Mu.ren,C]) (r.obj l o hσ) hr).1
 ·intro i j M Y H k1 Z;obtain⟨O,N,B,J,X⟩:=k i M k1;obtain⟨K,Q,u,S,V⟩:=k j Y Z;rw[(WV E (λn=>by simp[Mu.ren,B]) (r.obj O N J) X).2,(WV E (λn=>by simp[Mu.ren,u]) (r.obj K Q S) V).2];refine r.apart O K N Q ?_ J S;rintro rfl;have hi:=(Ic.1 B).1;have U:=(Ic.1 u).1;rw[Ia hi]at B;rw[Ia U]at u;rw[Im]at B u;exact H ((fE I).1 (B.trans u.symm))
 ·intro i n D;have:ls[i]? = none:=by
   have h:(XC g)[i]? = none:=by
    rcases D with h|h
    ·exact h
    ·simp only[XC,Ij,Cm]at h;obtain⟨q,hq,e⟩:=h;cases e
   simp only[XC,Ij,Option.map_eq_none_iff,bZ]at h;rw[bZ];omega
  simp[Mu.ren,this]
 ·intro i o' ho;exact .inr ⟨i,o',ho,rfl⟩
def d5p{f:Nat}{pre:List AV->List AObj->Bool}{val:List AV->List AObj->AV×List AObj×List AObj}(Y:YP P f pre val){vs:Array Value}{args:List AV}(O:Good c μ Φ σ w)(W:RL μ Φ vs.toList args)
  (hr:(Ns L pre val args).run σ=some (x,σ')):Calls P f vs w λe w'=> ∃ v,e = .returned v∧Yz c μ Φ σ' x v w':=by
 unfold Ns at hr;obtain⟨F,h1,h2,h3⟩:=c7x 64 hr (by simp) (by simp);clear hr;simp only at h3;generalize s:F.map (·.1)=ls at h2 h3;generalize k:F.map (·.2)=os at h3;have r:os.length=ls.length:=by rw[<- s,<- k];simp
 have D : ∀ (i l:Nat) o,ls[i]? = some l->os[i]? = some o->σ[l]? = some (.obj o):=by intro i l o A ho;rw[<- s,Ij,Cm]at A;rw[<- k,Ij,Cm]at ho;obtain⟨p,N,rfl⟩:=A;obtain⟨q,S,rfl⟩:=ho;rw[N]at S;cases S;exact h1 p (Iz N)
 split at h3
 ·rename_i g h u b;obtain⟨B,y⟩:=YR h3;generalize H:val g h=q at y;obtain⟨x0,K,ext⟩:=q;simp only at y;split at y
  ·rename_i x' E ext' X j C;split at y
   ·rename_i hl2;obtain⟨k1,Z⟩:=Y g h x0 K ext B H;have M:=e6b O h2 D r b;have J:RL (μ.ren ls) Φ vs.toList g:=c8f (λl i hi n z I=>by simp[Mu.ren,Ls hi,I]) W u;refine(Z (μ.ren ls) Φ w vs M J).mono ?_;rintro e w' ⟨v,μ2,Φ2,rfl,Q,U⟩;have I:(ls.zip E).map (·.1)=ls:=by rw[List.map_fst_zip];omega
    obtain⟨σ1,n1,n2,n3⟩:=d3k y (by rw[I];exact h2);obtain⟨σ2,o1,o2,o3⟩:=c7l n1;obtain⟨rfl,rfl⟩:=ZE o1;have eos:=(Dj j).1;have eob:=(Dj b).1;obtain⟨r1,T,V⟩:=f8d (L:=L) O h2 D r b Q (by omega) j C
     (λi l o A ho=>n2 (l,o) (Iz (i:=i) (by rw[List.getElem?_zip_eq_some];exact⟨A,ho⟩))) (λl A=>n3 l (by rw[I];exact A)) o2 o3
    exact⟨v,rfl,_,Φ2,r1,Q.Φle,T,h9v V U X⟩
   ·exact(Zn y).elim
  ·exact(Zn y).elim
 ·exact(Zn h3).elim
def RL.app{cs ds:Array Value}{xs ys:List AV}(h:RL μ Φ cs.toList xs)(k:RL μ Φ ds.toList ys):RL μ Φ (cs++ds).toList (xs++ys):=by rw[dn];exact h.append k
def a9g{T:ZH}(hT:Xa P T){g:Nat}{vs:Array Value}{args:List AV}(hg:Good c μ Φ σ w)(hv:RL μ Φ vs.toList args)(hr:(d9o T L g args).run σ=some (x,σ')):
  (∃ fn,P.funcs[g]? = some fn∧fn.body.isSome∧(fn.name == "runtime.NumGoroutine")=false)∧Calls P g vs w λe w'=> ∃ v,e = .returned v∧Yz c μ Φ σ' x v w':=by
 unfold d9o at hr;split at hr
 ·rename_i F F' hF;exact⟨(hT g _ hF).1,e9c (hT g _ hF).2 hg hv hr⟩
 ·rename_i G G' hG;exact⟨(hT g _ hG).1,d5p (hT g _ hG).2 hg hv hr⟩
 ·exact(Zn hr).elim
def e2h{T:ZH}(I:Xa P T){o:Oper}{p:POp}(b:Gt P o.op=some p)(F:Good c μ Φ σ w)(E:Wy μ Φ a.tmps env)(hr:(VJ T L env p).run σ=some (x,σ')):
  QZ P (execOp a.eval o) w (Yz c μ Φ σ' x):=by
 cases hc:p.isCall with
 | false=>refine i2j b hc F E ?_ (L:=L);cases p <;> first|exact hr|simp[POp.isCall]at hc
 | true=>
  cases p <;> simp[POp.isCall]at hc;rename_i f xs;obtain⟨dst,op,type,pos,after,guard⟩:=o;simp only at b
  have C : ∃ s args l,op = .call {callee:=.value s,args:=args,argTypes:=l}∧Y4 s=some f∧b9w args=some xs:=by
   unfold Gt at b;split at b
   all_goals try simp only[Ib,Cm,reduceCtorEq,gT,exists_false]at b
   all_goals first
    | (obtain⟨_,_,_,_,_,_,b⟩:=b;(repeat' split at b) <;> simp[Ib,Cm]at b;done)
    | ((repeat' split at b) <;> simp[Ib,Cm]at b;done)
    | skip
   rename_i J;obtain⟨callee,args,l⟩:=J;unfold NQ at b;simp only at b;split at b
   ·rename_i s;simp only[Ib,Cm]at b;obtain⟨f2,i,xs',r,e⟩:=b;cases e;exact⟨s,args,l,rfl,i,r⟩
   all_goals ((repeat' split at b) <;> simp[Ib,Cm]at b;done)
  obtain⟨s,args,l,rfl,A,u⟩:=C;have i:=Yn E A;have r:=a2v E u;simp only[VJ]at hr;split at hr
  ·rename_i g y;rw[y]at i;obtain⟨⟨fn,k1,D,k3⟩,k4⟩:=a9g I F r hr;replace i:=Y6 i;generalize H:a.eval s=q at i;cases i;have e:(args.map a.eval)++ #[]=args.map a.eval:=by simp
   simp only[QZ,execOp,Ig,resolve,H,Deferred.ofValue,IZ,Ik,invoke,Array.empty_append,e,Jv k1 D k3];exact k4
  ·rename_i g fst cap y;rw[y]at i;generalize H:a.eval s=q at i;cases i with
   | fn _ cs ds _ _ hn hm h k=>
    have h1:RL μ Φ cs.toList fst:=⟨by simpa using hn,λj v x z B=>h j v x (by simpa using z) B⟩
    have h2:RL μ Φ ds.toList cap:=⟨by simpa using hm,λj v x z B=>k j v x (by simpa using z) B⟩
    obtain⟨⟨fn,k1,D,k3⟩,k4⟩:=a9g I F ((h1.app r).app h2) hr;simp only[QZ,execOp,Ig,resolve,H,Deferred.ofValue,IZ,Ik,invoke,Jv k1 D k3];exact k4
  ·exact(Zn hr).elim
end
end
def HM.runF{α:Type}:HM α->ZC->Option (α×ZC×List Nat×List Nat)
 | .ret a,σ=>some (a,σ,[],[])
 | .fail,_=>none
 | .get l k,σ=>match σ[l]? with
  | some (.obj o)=>((k o).runF σ).map λ(a,σ',R,W)=>(a,σ',l::R,W)
  | _=>none
 | .put l o k,σ=>match σ[l]? with
  | some (.obj _)=>(k.runF (σ.set l (.obj o))).map λ(a,σ',R,W)=>(a,σ',R,l::W)
  | _=>none
 | .new l o k,σ=>match σ[l]? with
  | some .fresh=>(k.runF (σ.set l (.obj o))).map λ(a,σ',R,W)=>(a,σ',R,l::W)
  | _=>none
 | .ask b k,σ=>(k b).runF σ
 | .req b k,σ=>match b with|true=>k.runF σ|false=>none
def HM.run_of_runF{α:Type}(m:HM α): ∀ {σ:ZC} {a:α} {e:ZC} {R W:List Nat},m.runF σ=some (a,e,R,W)->m.run σ=some (a,e):=by
 induction m with
 | ret a=>intro σ b e R W h;simp only[HM.runF,Im,Il]at h;simp[HM.run,h.1,h.2.1]
 | fail=>intro σ b e R W h;simp[HM.runF]at h
 | get l k ih=>
  intro σ b e R W h;simp only[HM.runF]at h;simp only[HM.run];split at h
  ·rename_i o ho;rw[Cm]at h;obtain⟨⟨g,σ1,R1,W1⟩,h1,h2⟩:=h;simp only[Il]at h2;obtain⟨rfl,rfl,_,_⟩:=h2
   try simp only[ho]
   exact ih o h1
  ·cases h
 | put l o k ih=>
  intro σ b e R W h;simp only[HM.runF]at h;simp only[HM.run];split at h
  ·rename_i o' ho;rw[Cm]at h;obtain⟨⟨g,σ1,R1,W1⟩,h1,h2⟩:=h;simp only[Il]at h2;obtain⟨rfl,rfl,_,_⟩:=h2
   try simp only[ho]
   exact ih h1
  ·cases h
 | new l o k ih=>
  intro σ b e R W h;simp only[HM.runF]at h;simp only[HM.run];split at h
  ·rename_i ho;rw[Cm]at h;obtain⟨⟨g,σ1,R1,W1⟩,h1,h2⟩:=h;simp only[Il]at h2;obtain⟨rfl,rfl,_,_⟩:=h2
   try simp only[ho]
   exact ih h1
  ·cases h
 | ask b k ih=>intro σ a e R W h;exact ih b h
 | req b k ih=>
  intro σ a e R W h;cases b
  ·simp[HM.runF]at h
  ·exact ih h
def HM.local_{α:Type}(m:HM α): ∀ {σ:ZC} {a:α} {q:ZC} {R W:List Nat},m.runF σ=some (a,q,R,W) ->
  (∀ l,l ∉ W->q[l]? = σ[l]?)∧q.length=σ.length ∧
  ∀ τ:ZC,τ.length=σ.length->(∀ l,l∈R∨l∈W->τ[l]? = σ[l]?)-> ∃ r,m.runF τ=some (a,r,R,W)∧(∀ l,l∈W->r[l]? = q[l]?)∧(∀ l,l ∉ W->r[l]? = τ[l]?):=by
 induction m with
 | ret a=>intro σ b q R W h;simp only[HM.runF,Im,Il]at h;obtain⟨rfl,rfl,rfl,rfl⟩:=h;exact⟨λ_ _=>rfl,rfl,λτ _ _=>⟨τ,rfl,λl z=>by simp at z,λ_ _=>rfl⟩⟩
 | fail=>intro σ b q R W h;simp[HM.runF]at h
 | get l k ih=>
  intro σ b q R W h;simp only[HM.runF]at h;split at h
  ·rename_i o ho;rw[Cm]at h;obtain⟨⟨y,σ1,R1,W1⟩,h1,h2⟩:=h;simp only[Il]at h2;obtain⟨rfl,rfl,rfl,rfl⟩:=h2;obtain⟨k1,u,k3⟩:=ih o h1;refine⟨k1,u,λτ s i=> ?_⟩;obtain⟨r,m1,m2,m3⟩:=k3 τ s (λl' g=>i l' (g.imp (λh=>by simp[h]) id));refine⟨r,?_,m2,m3⟩;simp only[HM.runF];rw[i l (.inl (by simp)),ho];simp[m1]
  ·cases h
 | put l o k ih=>
  intro σ b q R W h;simp only[HM.runF]at h;split at h
  ·rename_i o' ho;rw[Cm]at h;obtain⟨⟨y,σ1,R1,W1⟩,h1,h2⟩:=h;simp only[Il]at h2;obtain⟨rfl,rfl,rfl,rfl⟩:=h2;obtain⟨k1,u,k3⟩:=ih h1;refine⟨λl' g=> ?_,by simpa using u,λτ s i=> ?_⟩
   ·simp only[IY,gD]at g;rw[k1 l' g.2,ZR g.1]
   ·have j:=i l (.inr (by simp))
    obtain⟨r,m1,m2,m3⟩:=k3 (τ.set l (.obj o)) (by simpa using s) (λl' g=>by
     by_cases e:l'=l
     ·subst e;rw[Z6 (j.trans ho),Z6 ho]
     ·rw[ZR e,ZR e]
      exact i l' (g.imp id (λh=>by simp[h])))
    refine⟨r,?_,?_,?_⟩
    ·simp only[HM.runF];rw[j,ho];simp[m1]
    ·intro l' g;by_cases hw:l'∈W1
     ·exact m2 l' hw
     ·simp only[IY,hw,gI]at g;subst g;rw[m3 l' hw,k1 l' hw,Z6 (j.trans ho),Z6 ho]
    ·intro l' g;simp only[IY,gD]at g;rw[m3 l' g.2,ZR g.1]
  ·cases h
 | new l o k ih=>
  intro σ b q R W h;simp only[HM.runF]at h;split at h
  ·rename_i ho;rw[Cm]at h;obtain⟨⟨y,σ1,R1,W1⟩,h1,h2⟩:=h;simp only[Il]at h2;obtain⟨rfl,rfl,rfl,rfl⟩:=h2;obtain⟨k1,u,k3⟩:=ih h1;refine⟨λl' g=> ?_,by simpa using u,λτ s i=> ?_⟩
   ·simp only[IY,gD]at g;rw[k1 l' g.2,ZR g.1]
   ·have j:=i l (.inr (by simp))
    obtain⟨r,m1,m2,m3⟩:=k3 (τ.set l (.obj o)) (by simpa using s) (λl' g=>by
     by_cases e:l'=l
     ·subst e;rw[Z6 (j.trans ho),Z6 ho]
     ·rw[ZR e,ZR e]
      exact i l' (g.imp id (λh=>by simp[h])))
    refine⟨r,?_,?_,?_⟩
    ·simp only[HM.runF];rw[j,ho];simp[m1]
    ·intro l' g;by_cases hw:l'∈W1
     ·exact m2 l' hw
     ·simp only[IY,hw,gI]at g;subst g;rw[m3 l' hw,k1 l' hw,Z6 (j.trans ho),Z6 ho]
    ·intro l' g;simp only[IY,gD]at g;rw[m3 l' g.2,ZR g.1]
  ·cases h
 | ask b k ih=>intro σ a q R W h;exact ih b h
 | req b k ih=>
  intro σ a q R W h;cases b
  ·simp[HM.runF]at h
  ·exact ih h
def a5x(xs ys:List Nat):Bool:=xs.all λx=> !ys.contains x
def PW{xs ys:List Nat}(h:a5x xs ys){l:Nat}(h1:l∈xs)(h2:l∈ys):False:=by have:=aR.1 h l h1;simp at this;exact this h2
def HM.comm{α β:Type}{m:HM α}{n:HM β}{σ z u:ZC}{a:α}{b:β}{q k s i:List Nat}(h1:m.runF σ=some (a,z,q,k))(h2:n.runF z=some (b,u,s,i))
  (B:a5x k s) (r:a5x k i) (C:a5x q i) : ∃ τ,n.runF σ=some (b,τ,s,i)∧m.runF τ=some (a,u,q,k):=by
 obtain⟨A,E,D⟩:=HM.local_ m h1;obtain⟨y,q2,F⟩:=HM.local_ n h2
 obtain⟨τ,t1,t2,t3⟩:=F σ E.symm (λl e=>(A l (λj=>by
  rcases e with e|e
  ·exact PW B j e
  ·exact PW r j e)).symm)
 have H:=(HM.local_ n t1).2.1
 obtain⟨τ',u1,u2,u3⟩:=D τ H (λl e=>t3 l (λj=>by
  rcases e with e|e
  ·exact PW C e j
  ·exact PW r e j))
 refine⟨τ,t1,?_⟩;have:τ'=u:=by
  apply I1;intro l;by_cases hw1:l∈k
  ·have g:l ∉ i:=λh=>PW r hw1 h
   rw[u2 l hw1,y l g]
  ·rw[u3 l hw1];by_cases g:l∈i
   ·rw[t2 l g]
   ·rw[t3 l g,y l g,A l hw1]
 rw[<- this];exact u1
structure PI where
 dst:Option Nat
 op:POp
 L:Nat
 gd:Option (Nat×Bool)
def WF(env:List AV):Option (Nat×Bool)->Option Bool
 | none=>some true
 | some (s,b)=>match env[s]? with
  | some (.pv (.bool v))=>some (v==b)
  | some .undef=>some false
  | _=>none
def Y3(env:List AV)(d:Option Nat)(v:AV):List AV:=
 match d with
 | some d=>env.set d v
 | none=>env
def Vw(T:ZH)(a:Nat)(p:PI)(st:St):Option (St×List Nat×List Nat):=
 match WF st.env p.gd with
 | none=>none
 | some false=>some (⟨Y3 st.env p.dst .undef,st.heap⟩,[],[])
 | some true=>((VJ T (a+p.L) st.env p.op).runF st.heap).map λ(v,σ,R,W)=>(⟨Y3 st.env p.dst v,σ⟩,R,W)
def IOp.slot:IOp->List Nat
 | .t n=>[n]
 | .c _=>[]
def Rh(x:Option IOp):List Nat:=x.toList.flatMap IOp.slot
def POp.slots:POp->List Nat
 | .mv x | .box _ x | .load _ _ x | .nilchk x | .un _ x | .conv _ x | .faddr _ x | .field _ _ _ x | .extract x _ | .len _ x | .strid x | .sbytes x | .sslice x | .bstr x=>x.slot
 | .pick a b c | .mapupd _ a b c=>a.slot++b.slot++c.slot
 | .alloc _ | .mkmap=>[]
 | .build _ ps=>ps.flatMap λq=>q.2.2.slot
 | .bslice _ _ _ _ ps=>ps.flatMap λq=>q.2.slot
 | .store _ a b | .bin _ _ a b | .mm _ a b | .mksl _ _ _ _ a b | .iaddr _ a b | .index a b | .indexA _ _ a b | .append _ _ _ a b | .apps _ _ _ a b=>a.slot++b.slot
 | .mkfn _ xs ys=>(xs++ys).flatMap IOp.slot
 | .strslc x lo hi=>x.slot++Rh lo++Rh hi
 | .slc _ x lo hi mx=>x.slot++Rh lo++Rh hi++Rh mx
 | .call f xs=>f.slot++xs.flatMap IOp.slot
def PI.looks(p:PI):List Nat:=p.op.slots++(match p.gd with|some (s,_)=>[s]|none=>[])
def Xb{env:List AV}{d:Option Nat}{v:AV}{x:IOp}(h : ∀ n,d=some n->n ∉ x.slot):ev (Y3 env d v) x=ev env x:=by
 cases d with
 | none=>rfl
 | some d=>
  cases x with
  | c p=>rfl
  | t n=>
   have a:d≠n:=by have:=h d rfl;simpa [IOp.slot]using this
   simp[ev,Y3,I7,a]
def PK{env:List AV}{d:Option Nat}{v:AV}{m:Nat}{x:Option IOp}(h : ∀ n,d=some n->n ∉ Rh x):bnd (Y3 env d v) m x=bnd env m x:=by
 cases x with
 | none=>rfl
 | some x=>simp only[bnd];rw[Xb (λn hn=>by have:=h n hn;simpa [Rh]using this)]
def b1o{env:List AV}{d:Option Nat}{v:AV}{xs:List IOp}(h : ∀ n,d=some n->n ∉ xs.flatMap IOp.slot):xs.map (ev (Y3 env d v))=xs.map (ev env):=by apply bH;intro x a;exact Xb (λn hn hs=>h n hn (bv.2 ⟨x,a,hs⟩))
def d7b{T:ZH}{L:Nat}{env:List AV}{d:Option Nat}{v:AV}{p:POp}(h : ∀ n,d=some n->n ∉ p.slots):VJ T L (Y3 env d v) p=VJ T L env p:=by
 cases p with
 | build z ps=>
  have e:(ps.map λ(x:Nat×Nat×IOp)=>(x.1,x.2.1,ev (Y3 env d v) x.2.2))=ps.map λ(x:Nat×Nat×IOp)=>(x.1,x.2.1,ev env x.2.2):=by apply bH;intro q g;rw[Xb (λn hn hs=>h n hn (bv.2 ⟨q,g,hs⟩))]
  simp only[VJ,WW];rw[e]
 | bslice ty sz n z ps=>
  have e:(ps.map λ(x:Nat×IOp)=>ev (Y3 env d v) x.2)=ps.map λ(x:Nat×IOp)=>ev env x.2:=by apply bH;intro q g;rw[Xb (λn hn hs=>h n hn (bv.2 ⟨q,g,hs⟩))]
  simp only[VJ,WW];rw[e]
 | mkfn f xs ys=>
  have h1:xs.map (ev (Y3 env d v))=xs.map (ev env):=b1o (λn hn hs=>h n hn (by simp only[POp.slots,dw,Ih];exact .inl hs));have h2:ys.map (ev (Y3 env d v))=ys.map (ev env):=b1o (λn hn hs=>h n hn (by simp only[POp.slots,dw,Ih];exact .inr hs));simp only[VJ,WW];cases xs with
  | nil=>
   cases ys with
   | nil=>rfl
   | cons y ys=>show HM.ret (AV.fn f _ _)=HM.ret (AV.fn f _ _);rw[h1,h2]
  | cons x xs=>show HM.ret (AV.fn f _ _)=HM.ret (AV.fn f _ _);rw[h1,h2]
 | strslc x lo hi=>simp only[POp.slots,Ih,gD]at h;simp only[VJ,WW];rw[Xb (λn hn=>(h n hn).1.1)];simp only[PK (λn hn=>(h n hn).1.2),PK (λn hn=>(h n hn).2)]
 | slc sz x lo hi mx=>
  simp only[POp.slots,Ih,gD]at h;simp only[VJ,WW];rw[Xb (λn hn=>(h n hn).1.1.1)];simp only[PK (λn hn=>(h n hn).1.1.2),PK (λn hn=>(h n hn).1.2)];cases mx with
  | none=>rfl
  | some m=>
   have : ∀ k,bnd (Y3 env d v) k (some m)=bnd env k (some m):=λk=>PK (λn hn=>(h n hn).2)
   simp only[this]
 | call f xs=>simp only[POp.slots,Ih,gD]at h;simp only[VJ];rw[Xb (λn hn=>(h n hn).1),b1o (λn hn=>(h n hn).2)]
 | pick a b c=>simp only[POp.slots,Ih,gD]at h;simp only[VJ,WW];rw[Xb (λn hn=>(h n hn).1.1),Xb (x:=b) (λn hn=>(h n hn).1.2),Xb (x:=c) (λn hn=>(h n hn).2)]
 | mapupd st a b c=>simp only[POp.slots,Ih,gD]at h;simp only[VJ,WW];rw[Xb (λn hn=>(h n hn).1.1),Xb (x:=b) (λn hn=>(h n hn).1.2),Xb (x:=c) (λn hn=>(h n hn).2)]
 | alloc z=>rfl
 | mkmap=>rfl
 | store n a b=>simp only[POp.slots,Ih,gD]at h;simp only[VJ,WW];rw[Xb (x:=a) (λn hn=>(h n hn).1),Xb (x:=b) (λn hn=>(h n hn).2)]
 | bin kd op a b=>simp only[POp.slots,Ih,gD]at h;simp only[VJ,WW];rw[Xb (x:=a) (λn hn=>(h n hn).1),Xb (x:=b) (λn hn=>(h n hn).2)]
 | mm mx a b=>simp only[POp.slots,Ih,gD]at h;simp only[VJ,WW];rw[Xb (x:=a) (λn hn=>(h n hn).1),Xb (x:=b) (λn hn=>(h n hn).2)]
 | mksl ty sz by_ z a b=>simp only[POp.slots,Ih,gD]at h;simp only[VJ,WW];rw[Xb (x:=a) (λn hn=>(h n hn).1),Xb (x:=b) (λn hn=>(h n hn).2)]
 | iaddr sz a b=>simp only[POp.slots,Ih,gD]at h;simp only[VJ,WW];rw[Xb (x:=a) (λn hn=>(h n hn).1),Xb (x:=b) (λn hn=>(h n hn).2)]
 | index a b=>simp only[POp.slots,Ih,gD]at h;simp only[VJ,WW];rw[Xb (x:=a) (λn hn=>(h n hn).1),Xb (x:=b) (λn hn=>(h n hn).2)]
 | indexA n sz a b=>simp only[POp.slots,Ih,gD]at h;simp only[VJ,WW];rw[Xb (x:=a) (λn hn=>(h n hn).1),Xb (x:=b) (λn hn=>(h n hn).2)]
 | apps ty sz by_ a b=>simp only[POp.slots,Ih,gD]at h;simp only[VJ,WW];rw[Xb (x:=a) (λn hn=>(h n hn).1),Xb (x:=b) (λn hn=>(h n hn).2)]
 | append ty sz by_ a b=>simp only[POp.slots,Ih,gD]at h;simp only[VJ,WW];rw[Xb (x:=a) (λn hn=>(h n hn).1),Xb (x:=b) (λn hn=>(h n hn).2)]
 | _=>simp only[POp.slots]at h;simp only[VJ,WW];rw[Xb h]
section
abbrev FP:=Nat×List Nat×List Nat
def runF(T:ZH)(a:Nat):List (Nat×PI)->St->Option (St×List FP)
 | [],st=>some (st,[])
 | (i,p)::r,st=>(Vw T a p st).bind λ(st',R,W)=>(runF T a r st').map λ(st'',tr)=>(st'',(i,R,W)::tr)
def NB(T:ZH)(a:Nat)(p:PI)(st:St):Option St:=
 match WF st.env p.gd with
 | none=>none
 | some false=>some ⟨Y3 st.env p.dst .undef,st.heap⟩
 | some true=>((VJ T (a+p.L) st.env p.op).run st.heap).map λ(v,σ)=>⟨Y3 st.env p.dst v,σ⟩
def DD(T:ZH)(a:Nat):List PI->St->Option St
 | [],st=>some st
 | p::r,st=>(NB T a p st).bind (DD T a r)
def Ri{T:ZH}{a:Nat}{p:PI}{st st':St}{R W:List Nat}(h:Vw T a p st=some (st',R,W)):NB T a p st=some st':=by
 unfold Vw at h;unfold NB;split at h
 ·cases h
 ·rename_i b;simp only[Im,Il]at h;simp[b,h.1]
 ·rename_i b;rw[Cm]at h;obtain⟨⟨v,σ,R1,W1⟩,h1,h2⟩:=h;simp only[Il]at h2;simp[b,HM.run_of_runF _ h1,h2.1]
def fpOK(x y:FP):Bool:=a5x x.2.2 y.2.1&&a5x x.2.2 y.2.2&&a5x x.2.1 y.2.2
def apartP(p q:PI):Bool:=(match p.dst with|some d=> !q.looks.contains d&&q.dst != some d|none=>true)&&(match q.dst with|some d=> !p.looks.contains d|none=>true)
def c3q{p q:PI}(h:apartP p q):(∀ d,p.dst=some d->d ∉ q.looks)∧(∀ d,p.dst=some d->q.dst≠some d)∧(∀ d,q.dst=some d->d ∉ p.looks):=by
 refine⟨λd hd=> ?_,λd hd=> ?_,λd hd=> ?_⟩ <;> simp[apartP,hd]at h
 ·exact h.1.1
 ·exact h.1.2
 ·exact h.2
def c2s{env:List AV}{d:Option Nat}{v:AV}{g:Option (Nat×Bool)}(h : ∀ n,d=some n-> ∀ s b,g=some (s,b)->n≠s):WF (Y3 env d v) g=WF env g:=by
 cases g with
 | none=>rfl
 | some g=>
  obtain⟨s,b⟩:=g;cases d with
  | none=>rfl
  | some d=>have:=h d rfl s b rfl;simp[WF,Y3,dU this]
def g2i{env:List AV}{d e:Option Nat}{u v:AV}(h : ∀ n,d=some n->e≠some n):Y3 (Y3 env d u) e v=Y3 (Y3 env e v) d u:=by
 cases d with
 | none=>rfl
 | some d=>
  cases e with
  | none=>rfl
  | some e=>
   have:d≠e:=λx=>h d rfl (by rw[x])
   simp only[Y3];exact List.set_comm u v this
def Ot{p:PI}{n s:Nat}{b:Bool}(h:n ∉ p.looks)(a:p.gd=some (s,b)):n≠s:=by intro e;subst e;apply h;simp[PI.looks,a]
def c4j{p:PI}{n:Nat}(h:n ∉ p.looks):n ∉ p.op.slots:=by intro e;exact h (by simp[PI.looks,e])
def j6w{T:ZH}{g:Nat}{p q:PI}{st k j:St}{B z C r:List Nat}(i:Vw T g p st=some (k,B,z))(a:Vw T g q k=some (j,C,r))(ha:apartP p q)
  (J:a5x z C) (N:a5x z r) (K:a5x B r) : ∃ st',Vw T g q st=some (st',C,r)∧Vw T g p st'=some (j,B,z):=by
 obtain⟨F,M,D⟩:=c3q ha
 have E : ∀ v,WF (Y3 st.env p.dst v) q.gd=WF st.env q.gd:=λv=>c2s (λn hn s b A=>Ot (F n hn) A)
 have y : ∀ v,WF (Y3 st.env q.dst v) p.gd=WF st.env p.gd:=λv=>c2s (λn hn s b A=>Ot (D n hn) A)
 have I : ∀ v L,VJ T L (Y3 st.env p.dst v) q.op=VJ T L st.env q.op:=λv L=>d7b (λn hn=>c4j (F n hn))
 have H : ∀ v L,VJ T L (Y3 st.env q.dst v) p.op=VJ T L st.env p.op:=λv L=>d7b (λn hn=>c4j (D n hn))
 have l : ∀ u v,Y3 (Y3 st.env q.dst v) p.dst u=Y3 (Y3 st.env p.dst u) q.dst v:=λu v=>(g2i (λn hn=>M n hn)).symm
 unfold Vw at i;split at i
 ·cases i
 ·rename_i h;simp only[Im,Il]at i;obtain⟨rfl,rfl,rfl⟩:=i;unfold Vw at a;simp only[E]at a;split at a
  ·cases a
  ·rename_i e;simp only[Im,Il]at a;obtain⟨rfl,rfl,rfl⟩:=a;exact⟨⟨Y3 st.env q.dst .undef,st.heap⟩,by simp[Vw,e],by simp[Vw,y,h,l]⟩
  ·rename_i e;rw[Cm]at a;obtain⟨⟨v,σ,R,W⟩,h1,h2⟩:=a;simp only[Il]at h2;obtain⟨rfl,rfl,rfl⟩:=h2;rw[I]at h1;exact⟨⟨Y3 st.env q.dst v,σ⟩,by simp[Vw,e,h1],by simp[Vw,y,h,l]⟩
 ·rename_i h;rw[Cm]at i;obtain⟨⟨u,σ1,R,W⟩,h1,h2⟩:=i;simp only[Il]at h2;obtain⟨rfl,rfl,rfl⟩:=h2;unfold Vw at a;simp only[E]at a;split at a
  ·cases a
  ·rename_i e;simp only[Im,Il]at a;obtain⟨rfl,rfl,rfl⟩:=a;exact⟨⟨Y3 st.env q.dst .undef,st.heap⟩,by simp[Vw,e],by simp[Vw,y,h,H,h1,l]⟩
  ·rename_i e;rw[Cm]at a;obtain⟨⟨v,σ2,R',W'⟩,k1,k2⟩:=a;simp only[Il]at k2;obtain⟨rfl,rfl,rfl⟩:=k2;rw[I]at k1;obtain⟨τ,t1,t2⟩:=HM.comm h1 k1 J N K;exact⟨⟨Y3 st.env q.dst v,τ⟩,by simp[Vw,e,t1],by simp[Vw,y,h,H,t2,l]⟩
def h7x{T:ZH}{e i:Nat}{p:PI}{B:List (Nat×PI)}{dep:Nat->Nat->Bool}: ∀ (A:List (Nat×PI)) {st k:St} {s:List FP},runF T e (A++(i,p)::B) st=some (k,s) ->
  (∀ q∈A,dep q.1 i=false∧apartP q.2 p)->s.Pairwise (λx y=>dep x.1 y.1=true∨fpOK x y) ->
  ∃ b R W l,Vw T e p st=some (b,R,W)∧runF T e (A++B) b=some (k,l)∧l.Sublist s∧(i,R,W)∈s:=by
 intro A
 induction A with
 | nil=>intro st k s h _ _;simp only[List.nil_append,runF,Ib,Cm]at h;obtain⟨⟨b,R,W⟩,h1,⟨C,u⟩,h2,h3⟩:=h;simp only[Il]at h3;obtain⟨rfl,rfl⟩:=h3;exact⟨b,R,W,u,h1,h2,dG _ _,by simp⟩
 | cons a A ih=>intro st k s h E r;obtain⟨j,q⟩:=a;simp only[List.cons_append,runF,Ib,Cm]at h;obtain⟨⟨b,R1,W1⟩,h1,⟨C,u⟩,h2,h3⟩:=h;simp only[Il]at h3;obtain⟨rfl,rfl⟩:=h3;rw[bT]at r;obtain⟨st3,R,W,l,k1,J,k3,F⟩:=ih h2 (λz H=>E z (by simp[H])) r.2;have D:=E (j,q) (by simp);have g:=(r.1 (i,R,W) F).resolve_left (by simp only at D ⊢;simp[D.1]);simp only[fpOK,Ie]at g;obtain⟨st',K,I⟩:=j6w h1 k1 D.2 g.1.1 g.1.2 g.2;refine⟨st',R,W,(j,R1,W1)::l,K,?_,List.Sublist.cons_cons _ k3,by simp[F]⟩;simp[runF,I,J]
def QC(P:Program)(ops:Array Oper)(L:Nat)(o:Oper):Option PI:=
 match o.guard with
 | none=>(Gt P o.op).map λp=>⟨o.dst,p,L,none⟩
 | some (j,b)=>((ops[j]?).bind (·.dst)).bind λs=>(Gt P o.op).map λp=>⟨o.dst,p,L,some (s,b)⟩
section
variable {P:Program} {c:Ctx} {T:ZH}
def Ct{μ:Mu}{Φ:Yk}{a:Act}{env:List AV}{d:Option Nat}{u:Value}{v:AV}(h:Wy μ Φ a.tmps env)(k:R μ Φ u v):Wy μ Φ (a.put d u).tmps (Y3 env d v):=by
 cases d with
 | none=>exact h
 | some d=>
  refine⟨by have:=h.1;simpa [Act.put,Y3]using this,?_⟩;intro j x y g b;simp only[Act.put,au]at g;simp only[Y3]at b;by_cases hjd:d=j
  ·subst hjd;have i:d<env.length:=by have:=(Ic.1 b).1;simpa using this
   have e:d<a.tmps.size:=by have:=h.1;simp at this;omega
   rw[ah,fw rfl,fw i]at b;rw[aV e]at g;cases g;cases b;exact k
  ·rw[dU hjd]at b;rw[aH hjd]at g;exact h.2 j x y (by simpa using g) b
def Uq(a:Act)(d:Option Nat)(v:Value):(a.put d v).defers=a.defers:=by cases d <;> rfl
def EC{μ:Mu}{Φ:Yk}{ops:Array Oper}{o:Oper}{L:Nat}{p:PI}{a:Act}{env:List AV}{b:Bool}(g:QC P ops L o=some p)(r:Wy μ Φ a.tmps env)(e:WF env p.gd=some b):dh o (yielded ops a.tmps)=b:=by
 unfold QC at g;split at g
 ·rename_i k;rw[Cm]at g;obtain⟨q,y,rfl⟩:=g;simp[WF]at e;simp[dh,k,e]
 ·rename_i j bb k;simp only[Ib,Cm]at g;obtain⟨s,⟨o',i,hs⟩,q,y,rfl⟩:=g;simp only[WF]at e;simp only[dh,k,yielded,i,Option.bind_some,hs];split at e
  ·rename_i v l;cases e;obtain⟨u,hu,h⟩:=r.at_ l;have h:=Y6 h;cases h;have:a.tmps[s]? = some (.bool v):=by simpa using hu
   simp[this]
  ·rename_i l;cases e;obtain⟨u,hu,h⟩:=r.at_ l;cases h;have:a.tmps[s]? = some aQ:=by simpa using hu
   rw[this];simp[aQ]
  ·cases e
def b9r(B:Xa P T){ops:Array Oper}{Q:Exit->Act->World->Prop}{i L k:Nat}{o:Oper}{p:PI}{K:Act->World->Prop}{st st':St}{a:Act}{w:World}(ho:ops[i]? = some o)(j:QC P ops L o=some p)
  (hr:UK c st a w) (hs:NB T k p st=some st') (z : ∀ a' w',UK c st' a' w'->K a' w'):wpOp P ops Q i K a w:=by
 obtain⟨μ,Φ,hg,he,hd⟩:=hr;have r : ∃ q,Gt P o.op=some q∧p.op=q∧p.dst=o.dst:=by
  unfold QC at j;split at j
  ·rw[Cm]at j;obtain⟨q,l,rfl⟩:=j;exact⟨q,l,rfl,rfl⟩
  ·simp only[Ib,Cm]at j;obtain⟨s,_,q,l,rfl⟩:=j;exact⟨q,l,rfl,rfl⟩
 obtain⟨q,l,C,A⟩:=r;unfold wpOp;simp only[ho];unfold NB at hs;split at hs
 ·cases hs
 ·rename_i y;cases hs;rw[EC j he y];simp only[IL,gp];refine z _ _ ⟨μ,Φ,hg,?_,by rw[Uq];exact hd⟩;rw[<- A];exact Ct he .undef
 ·rename_i y;rw[Cm]at hs;obtain⟨⟨v,σ⟩,h1,rfl⟩:=hs;rw[EC j he y];simp only[gq];left;rw[C]at h1;have b:=e2h B l hg he h1;have fin : ∀ u w',Yz c μ Φ σ v u w'->K (a.put o.dst u) w':=by rintro u w' ⟨μ',Φ',k1,k2,k3,k4⟩;refine z _ _ ⟨μ',Φ',k3,?_,by rw[Uq];exact hd⟩;rw[<- A];exact Ct (he.mono k1 k2) k4
  unfold Oper.wp;unfold QZ at b;cases g:(execOp a.eval o).run P w with
  | halt h w'=>rw[g]at b;exact b.elim
  | ok n w'=>
   rw[g]at b;cases n <;> simp only at b
   ·exact fin _ _ b
   ·exact fin _ _ b
   ·refine Calls.mono b ?_;rintro e w'' ⟨u,rfl,hu⟩;exact fin _ _ hu
   all_goals exact b.elim
def e5y(k:Xa P T){ops:Array Oper}{Q:Exit->Act->World->Prop}{b:Nat}{e:St}(u : ∀ a w,UK c e a w->Q .normal a w): ∀ (l:List (Nat×PI)) (st:St) (a:Act) (w:World),
  (∀ q∈l,∃ o L,ops[q.1]? = some o∧QC P ops L o=some q.2)->UK c st a w->DD T b (l.map (·.2)) st=some e->wpOps P ops Q (l.map (·.1)) a w:=by
 intro l
 induction l with
 | nil=>intro st a w _ hr h;simp[DD]at h;subst h;exact u a w hr
 | cons q l ih=>intro st a w j hr h;simp only[IJ,DD,Ib]at h;obtain⟨i,h1,h2⟩:=h;obtain⟨o,L,ho,s⟩:=j q (by simp);rw[IJ,wpOps_cons];exact b9r k ho s hr h1 (λa' w' g=>ih i a' w' (λz r=>j z (by simp[r])) g h2)
end
end
section
def a4a{T:ZH}{a:Nat}: ∀ {l:List (Nat×PI)} {st st':St} {b:List FP},runF T a l st=some (st',b)->DD T a (l.map (·.2)) st=some st':=by
 intro l
 induction l with
 | nil=>intro st st' b h;simp[runF]at h;simp[DD,h.1]
 | cons q l ih=>intro st st' b h;obtain⟨i,p⟩:=q;simp only[runF,Ib,Cm]at h;obtain⟨⟨st1,R,W⟩,h1,⟨st2,tr2⟩,h2,h3⟩:=h;simp only[Il]at h3;obtain⟨rfl,rfl⟩:=h3;simp[DD,Ri h1,ih h2]
structure Edges (ops:Array Oper) (dep:Nat->Nat->Bool):Prop where
 fwd : ∀ i o,ops[i]? = some o-> ∀ e∈o.after,bC .any e->e.on<i
 clo : ∀ i o d,ops[i]? = some o->dep d i-> ∃ e∈o.after,bC .any e∧(d=e.on∨dep d e.on)
section
variable {P:Program} {c:Ctx} {T:ZH}
def e7c(hT:Xa P T){ops:Array Oper}{dep:Nat->Nat->Bool}(hE:Edges ops dep){Q:Exit->Act->World->Prop}{base:Nat}{stF:St}(hQ : ∀ a w,UK c stF a w->Q .normal a w): ∀ (fuel:Nat) (b:Array Bool) (rest:List (Nat×PI)) (st:St) (a:Act) (w:World) (tr:List FP),
  fuel=rest.length->b.size=ops.size->(∀ i,i<ops.size->(b[i]? = some false ↔ i∈rest.map (·.1)))->(∀ q∈rest,q.1<ops.size∧ ∃ o L,ops[q.1]? = some o∧QC P ops L o=some q.2) ->
  (rest.map (·.1)).Pairwise (· < ·)->rest.Pairwise (λx y=>dep x.1 y.1=true∨apartP x.2 y.2)->(∀ d i,i<ops.size->dep d i->i ∉ rest.map (·.1)->d ∉ rest.map (·.1)) ->
  UK c st a w->runF T base rest st=some (stF,tr)->tr.Pairwise (λx y=>dep x.1 y.1=true∨fpOK x y)->wpAny P .any ops Q fuel b a w:=by
 intro fuel
 induction fuel with
 | zero=>
  intro b rest st a w tr hf hl hm hi l S U hr D Y;have:rest=[]:=aM hf.symm;subst this;simp[runF]at D;obtain⟨rfl,_⟩:=D;refine⟨?_,hQ a w hr⟩;unfold bz;rw[List.filter_eq_nil_iff];intro i r;simp only[fO]at r
  have:=hm i r;simp only[fT,List.not_mem_nil,iff_false]at this;have C:i<b.size:=by omega
  have e:b[i]? = some b[i]:=Ii C;rw[e]at this;have ht:b[i]:=by
   cases hb:b[i]with
   | true=>rfl
   | false=>rw[hb]at this;exact absurd rfl this
  simp[Iq,e,ht]
 | succ fuel ih=>
  intro b rest st a w tr hf hl hm hi l S U hr D Y;have hmem : ∀ i,i<ops.size->b.getD i true=false->i∈rest.map (·.1):=by
   intro i K hg;refine(hm i K).1 ?_;have C:i<b.size:=by omega
   have e:b[i]? = some b[i]:=Ii C;simp[Iq,e]at hg;rw[e,hg]
  have V : ∀ i,b.getD i false->i<ops.size∧i ∉ rest.map (·.1):=by
   intro i hg;have C:i<b.size:=by
    rcases d9 i b.size with h|h
    ·exact h
    ·simp[Iq,cz h]at hg
   have e:b[i]? = some b[i]:=Ii C;simp[Iq,e]at hg;refine⟨by omega,λH=> ?_⟩
   have:=(hm i (by omega)).2 H;rw[e,hg]at this;cases this
  refine⟨?_,?_⟩
  ·intro Z;exfalso;cases rest with
   | nil=>simp at hf
   | cons q rest=>
    obtain⟨h1,o,L,ho,_⟩:=hi q (by simp);have H:q.1∈bz .any ops b:=by
     unfold bz;rw[bD];refine⟨by simpa using h1,?_⟩;have e1:b[q.1]? = some false:=(hm q.1 h1).2 (by simp);simp only[ho,aX,fG,Ie];refine⟨by simp[Iq,e1],?_⟩;rw[eX];intro k hk;cases hb:bC .any o.after[k]with
     | false=>simp
     | true=>
      have hon:=hE.fwd q.1 o ho o.after[k] (Array.getElem_mem hk) hb;have C:o.after[k].on<ops.size:=by omega
      have J:o.after[k].on ∉ (q::rest).map (·.1):=by
       intro X;rw[IJ,bT]at l;rcases IY.1 X with h|h
       ·have h:o.after[k].on=q.1:=h;omega
       ·have:q.1<o.after[k].on:=l.1 _ h;omega
      have hlt':o.after[k].on<b.size:=by omega
      have e2:b[o.after[k].on]? = some b[o.after[k].on]:=Ii hlt';have e3:b[o.after[k].on]:=by
       cases hb2:b[o.after[k].on]with
       | true=>rfl
       | false=>exact absurd ((hm _ C).1 (by rw[e2,hb2])) J
      simp[Iq,e2,e3]
    rw[Z]at H;cases H
  ·intro i r;unfold bz at r;rw[bD]at r;obtain⟨r,O⟩:=r;simp only[fO]at r;simp only[Ie,eU]at O;obtain⟨hl0,hready⟩:=O;have H:=hmem i r hl0;obtain⟨q,hq,hqi⟩:=IU.1 H;obtain⟨A,B,hAB⟩:=List.append_of_mem hq;obtain⟨j,p⟩:=q;simp only at hqi;subst hqi;subst hAB;obtain⟨_,o,L,ho,hp⟩:=hi (j,p) hq;simp only at ho hp;simp only[ho,aX,fG]at hready;rw[eX]at hready;have z : ∀ e∈o.after,bC .any e->b.getD e.on false:=by
    intro e he hb;obtain⟨k,hk,rfl⟩:=Array.getElem_of_mem he
    have:=hready k hk;simpa [hb]using this
   have hA : ∀ q∈A,dep q.1 j=false∧apartP q.2 p:=by
    intro q hqA;have hd:dep q.1 j=false:=by
     cases E:dep q.1 j with
     | false=>rfl
     | true=>
      exfalso;obtain⟨e,he,hb,g⟩:=hE.clo j o q.1 ho E;obtain⟨h1,h2⟩:=V _ (z e he hb);have M:q.1∈(A++(j,p)::B).map (·.1):=IU.2 ⟨q,by simp[hqA],rfl⟩;rcases g with g|g
      ·rw[g]at M;exact h2 M
      ·exact U q.1 e.on h1 g h2 M
    refine⟨hd,?_⟩;rw[dV]at S
    have:=S.2.2 q hqA (j,p) (by simp);rcases this with h|h
    ·simp only at h;rw[hd]at h;cases h
    ·exact h
   obtain⟨st1,R,W,tr',k1,k2,k3,k4⟩:=h7x A D hA Y;refine b9r hT ho hp hr (Ri k1) ?_;intro a' w' hr';have I:(A++B).Sublist (A++(j,p)::B):=List.Sublist.append (List.Sublist.refl _) (dG _ _);have N:((A++B).map (·.1)).Sublist ((A++(j,p)::B).map (·.1)):=I.map _;have hjn:j ∉ (A++B).map (·.1):=by
    rw[aK,IJ,dV]at l;obtain⟨s1,s2,s3⟩:=l;rw[bT]at s2;intro hj;rw[aK,Ih]at hj;rcases hj with hj|hj
    ·have:=s3 j hj j (by simp);omega
    ·have:=s2.1 j hj;omega
   have hmm : ∀ F,F≠j->(F∈(A++B).map (·.1) ↔ F∈(A++(j,p)::B).map (·.1)):=by
    intro F u;rw[aK,aK,IJ,Ih,Ih,IY];constructor
    ·rintro(h|h)
     ·exact .inl h
     ·exact .inr (.inr h)
    ·rintro(h|h|h)
     ·exact .inl h
     ·exact absurd h u
     ·exact .inr h
   refine ih (b.setIfInBounds j true) (A++B) st1 a' w' tr' (by simp at hf ⊢;omega) (by simpa using hl) ?_ (λq hq=>hi q (I.subset hq)) (l.sublist N) (S.sublist I) ?_ hr' k2 (Y.sublist k3)
   ·intro F K;by_cases u:F=j
    ·subst u;rw[aV (by omega)];simp only[Im,Bool.true_eq_false,false_iff];exact hjn
    ·rw[aH (af u),hm F K,hmm F u]
   ·intro d F K E J hdin;have s:=N.subset hdin;by_cases u:F=j
    ·subst u;obtain⟨e,he,hb,g⟩:=hE.clo F o d ho E;obtain⟨h1,h2⟩:=V _ (z e he hb);rcases g with g|g
     ·rw[g]at s;exact h2 s
     ·exact U d e.on h1 g h2 s
    ·exact U d F K E (λh=>J ((hmm F u).2 h)) s
end
def POp.news:POp->Nat
 | .box .. | .alloc .. | .bslice .. | .mkmap | .mksl .. | .append .. | .apps .. =>1
 | .call .. =>2
 | _=>0
def WS(P:Program)(ops:Array Oper):Nat->List Oper->Option (List PI)
 | _,[]=>some []
 | L,o::r=>(QC P ops L o).bind λp=>(WS P ops (L+p.op.news) r).map (p:: ·)
def a2o{P:Program}{ops:Array Oper}: ∀ {os:List Oper} {L:Nat} {ps:List PI},WS P ops L os=some ps->ps.length=os.length∧ ∀ (j:Nat) o p,os[j]? = some o->ps[j]? = some p-> ∃ g,QC P ops g o=some p:=by
 intro os
 induction os with
 | nil=>intro L ps h;simp[WS]at h;subst h;simp
 | cons o os ih=>
  intro L ps h;simp only[WS,Ib,Cm]at h;obtain⟨p,e,ps',hps,rfl⟩:=h;obtain⟨h1,h2⟩:=ih hps;refine⟨by simp[h1],?_⟩;intro j o' i a b;cases j with
  | zero=>simp at a b;subst a b;exact⟨L,e⟩
  | succ j=>simp at a b;exact h2 j o' i a b
def ons(o:Oper):List Nat:=(o.after.toList.filter λe=>bC .any e).map (·.on)
def b3c:List (List Nat)->List Oper->List (List Nat)
 | acc,[]=>acc
 | acc,o::r=>b3c (acc++[((ons o)++(ons o).flatMap λi=>acc.getD i []).eraseDups]) r
def depB(deps:List (List Nat))(i j:Nat):Bool:=(deps.getD j []).contains i
def AR(ops:List Oper)(deps:List (List Nat)):Bool:=
 deps.length==ops.length &&
 ops.zipIdx.all λ(o,i)=>(ons o).all (λk=>k<i)&&(deps.getD i []).all λd=>(ons o).any λk=>k==d||depB deps d k
def a8m{ops:Array Oper}{deps:List (List Nat)}(h:AR ops.toList deps):Edges ops (depB deps):=by
 simp only[AR,Ie,aR,gm]at h;obtain⟨hlen,h⟩:=h;have get : ∀ i o,ops[i]? = some o->(o,i)∈ops.toList.zipIdx:=by intro i o ho;rw[bK];simpa using ho
 refine⟨λi o ho e a hb=> ?_,λi o d ho hd=> ?_⟩
 ·have:=(h _ (get i o ho)).1 e.on (IU.2 ⟨e,bD.2 ⟨by simpa using a,hb⟩,rfl⟩);simpa using this
 ·have hd':d∈deps.getD i []:=by simpa [depB]using hd
  have:=(h _ (get i o ho)).2 d hd';rw[List.any_eq_true]at this;obtain⟨k,g,b⟩:=this;obtain⟨e,a,rfl⟩:=IU.1 g;rw[bD]at a;refine⟨e,by simpa using a.1,a.2,?_⟩;simp only[bA,gm]at b;exact b.imp (λh=>h.symm) id
def a3w{α:Type}(r:α->α->Bool):List α->Bool
 | []=>true
 | x::xs=>xs.all (r x)&&a3w r xs
def Tg{α:Type}{r:α->α->Bool}: ∀ {l:List α},a3w r l->l.Pairwise (λx y=>r x y=true):=by
 intro l
 induction l with
 | nil=>intro _;exact .nil
 | cons x xs ih=>intro h;simp only[a3w,Ie,aR]at h;exact .cons (λy a=>h.1 y a) (ih h.2)
def CZ(ps:List PI):List (Nat×PI):=ps.zipIdx.map λq=>(q.2,q.1)
def Fu(deps:List (List Nat))(ps:List PI):Bool:=a3w (λ(x y:Nat×PI)=>depB deps x.1 y.1||apartP x.2 y.2) (CZ ps)
def b1k(deps:List (List Nat))(a:List FP):Bool:=a3w (λ(x y:FP)=>depB deps x.1 y.1||fpOK x y) a
def news(ps:List PI):Nat:=(ps.map (·.op.news)).foldl (· + ·) 0
def grow(st:St)(n:Nat):St:=⟨st.env,st.heap++IB n .fresh⟩
def K8(T:ZH)(ps:List PI)(deps:Option (List (List Nat)))(st:St):Option St:=
 match deps with
 | none=>DD T st.heap.length ps (grow st (news ps))
 | some d=>(runF T st.heap.length (CZ ps) (grow st (news ps))).bind λ(st',tr)=>if b1k d tr then some st' else none
def Good.grow{c:Ctx}{μ:Mu}{Φ:Yk}{σ:ZC}{w:World}(h:Good c μ Φ σ w)(n:Nat):Good c μ Φ (σ++IB n .fresh) w:=by
 have a : ∀ (l:Nat) (o:AObj),(σ++IB n Slot.fresh)[l]? = some (Slot.obj o)->σ[l]? = some (Slot.obj o):=by
  intro l o ho;rw[az]at ho;split at ho
  ·exact ho
  ·have:=Iz ho
   have:=aZ this;cases this
 refine⟨h.phi,λl o ho=>h.obj l o (a l o ho),λl l' o o' e h1 h2=>h.apart l l' o o' e (a l o h1) (a l' o' h2),?_,λl o ho=>h.own l o (a l o ho),h.os,h.tape,h.output,h.size,h.frame,h.Φle,h.μle,h.dom,h.laid⟩;intro l m b;by_cases hl:l<σ.length
 ·rw[IQ hl]at b;exact h.fresh l m b
 ·exact h.fresh l m (.inl (aN (by omega)))
def UK.grow{c:Ctx}{st:St}{a:Act}{w:World}(h:UK c st a w)(n:Nat):UK c (Pl.grow st n) a w:=by obtain⟨μ,Φ,hg,he,hd⟩:=h;exact⟨μ,Φ,hg.grow n,he,hd⟩
def UV(ps:List PI):(CZ ps).map (·.1)=bX ps.length:=by unfold CZ;rw[fe];have:((λ(x:Nat×PI)=>x.1) ∘ λ(q:PI×Nat)=>(q.2,q.1))=Prod.snd:=rfl;rw[this,List.zipIdx_map_snd,dQ]
def Af(ps:List PI):(CZ ps).map (·.2)=ps:=by unfold CZ;rw[fe];have:((λ(x:Nat×PI)=>x.2) ∘ λ(q:PI×Nat)=>(q.2,q.1))=Prod.fst:=rfl;rw[this,List.zipIdx_map_fst]
def c4y{ps:List PI}{q:Nat×PI}(h:q∈CZ ps):ps[q.1]? = some q.2:=by unfold CZ at h;obtain⟨z,a,rfl⟩:=IU.1 h;rw[bK]at a;exact a
def i0s{P:Program}{c:Ctx}{T:ZH}(A:Xa P T)(r:P.follows .mixedOrders){id:Nat}{ops:Array Oper}{draw:Bool}{ps:List PI}{deps:Option (List (List Nat))}(hps:WS P ops 0 ops.toList=some ps)
  (hd:draw-> ∃ d,deps=some d∧AR ops.toList d∧Fu d ps) (hd':draw=false->deps=none) {Q:Exit->Act->World->Prop} {st st':St} {a:Act} {w:World} (hr:UK c st a w) (b:K8 T ps deps st=some st')
  (B : ∀ a w,UK c st' a w->Q .normal a w):(Code.region id ops draw).wp P Q a w:=by
 obtain⟨e,y⟩:=a2o hps;have g : ∀ q∈CZ ps,q.1<ops.size∧ ∃ o L,ops[q.1]? = some o∧QC P ops L o=some q.2:=by
  intro q z;have k:=c4y z;have hlt:=(Ic.1 k).1;have j:q.1<ops.size:=by simp at e;omega
  obtain⟨L,E⟩:=y q.1 ops[q.1] q.2 (by simp[j]) k;exact⟨j,ops[q.1],L,Ii j,E⟩
 cases draw with
 | false=>
  rw[hd' rfl]at b;refine wp_region ?_
  have:=e5y A (ops:=ops) (Q:=Q) B (CZ ps) (Pl.grow st (news ps)) a w (λq z=>(g q z).2) (hr.grow _) (by rw[Af];exact b);rw[UV,e]at this;simpa using this
 | true=>
  obtain⟨d,rfl,F,ha⟩:=hd rfl;simp only[K8,Ib]at b;obtain⟨⟨st1,C⟩,b,hif⟩:=b;simp only at hif;split at hif
  ·rename_i s;cases hif;refine wp_region_any r ?_;have u:UK c (Pl.grow st (news ps)) a {w with drawn:=w.drawn+1}:=by obtain⟨μ,Φ,hg,he',hd2⟩:=hr.grow (news ps);exact⟨μ,Φ,hg.drew,he',hd2⟩
   have D:ops.size=(CZ ps).length:=by have:=congrArg ed (UV ps);simp at this e;omega
   refine e7c A (a8m F) B ops.size (Array.replicate ops.size false) (CZ ps) (Pl.grow st (news ps)) a _ C D (by simp) ?_ g ?_ ?_ ?_ u b ?_
   ·intro i hi;rw[UV];have:i<ps.length:=by simp at e;omega
    simp[hi,this]
   ·rw[UV];exact List.pairwise_lt_range
   ·exact(Tg ha).imp (λh=>by simpa using h)
   ·intro d' i hi _ l;exfalso;apply l;rw[UV];simp at e ⊢;omega
   ·exact(Tg s).imp (λh=>by simpa using h)
  ·cases hif
end
end Go.Pl
