/-
  Lemmas for the law PrinterParens, for every input.
-/
import Derived.Test.YtbpdlcdciffpjaaGreatDoorChecked
import Derived.Test.YtbpdlcdciffpjaaGreatDoorKQ1
import Derived.KernelRfl
import Derived.Sort.OwnSorted
import Derived.OrdersIn
import Derived.TacticsIn
import Derived.RangeFuncNested
import Derived.RangeFuncWrites
import Derived.RangeFuncLeaves
import Derived.RangeFuncBound
import Derived.RangeFuncRecord
import Derived.Maps.RangeRun
import Derived.Laws.IdiomRangeMap
import Derived.MapKept
import Derived.Lib.ConvBytes
import Derived.Laws.IdiomCopy
import Derived.Shelf.LaysM
import Derived.Shelf.Strconv.Itoa1
import Derived.Shelf.Strconv.Itoa2
import Derived.Lib.Walk
import Derived.Lib.ItoaWalk
import Derived.Lib.ItoaMem
import Derived.Lib.AppendIntMem
import Derived.Lib.BufferKept
import Derived.Lib.OwnKind
import Derived.Lib.Slices
import Derived.Lib.Hide
import Derived.OwnWalk
import Derived.WalkKit
import Derived.BigCall
import Derived.BigGuard
import Derived.CellFam
import Derived.Sort.KeysCollected
import Derived.Sort.LoopGhostIn
import Derived.OrdersHeld
import Derived.Deep.LoopGhost
open Array renaming getElem?_eq_some_iff->Ii,getElem?_eq_getElem->Ij,getD_eq_getD_getElem?->Iu,replicate->IR,toList_replicate->IV,size_replicate->IY,toList_append->IZ,getElem?_toList->ah,all_eq_true->bN,getD->dN
open Bool renaming and_eq_true->Ih,false_eq_true->aK,not_eq_true'->bK,or_eq_true->bn
open Function renaming comp_def->aN
open Go renaming wpIn_mono->IA
open Go.Builtin renaming append_->aZ
open Go.DataW renaming insert->aU,nil->ae,map->dU
open Go.Ending renaming returned->I7
open Go.Exit renaming inBlock->IM
open Go.Fence renaming wide->I8
open Go.Lib renaming decDigits->Il,nDigits->IL,byteCells->IQ,decDigits_length->aC,bytesWorld->aH,zeros24->aJ,byteCells_length->bA,pow10Tab->dF,itoa->dG,TabIs->dR
open Go.Lit renaming string->aD
open Go.Pl.HM renaming run->Iq,runF->IB,run_of_runF->I1,run_bind->aI
open Go.Region renaming ready->aS,wanted->cz,binds->dE
open Go.Result renaming andThen_ok->I4
open Go.Sem renaming run_bind->I6,run_pure->aR
open Go.Value renaming int->aa
open Go.World renaming putObj_heap_other->Iz,alloc_eq->ai,alloc_heap_new->bB,drew_eq->bD,freeze->bJ,alloc->bU,drew->bv,cell?->dK
open List renaming getElem?_eq_getElem->Ie,getElem?_eq_some_iff->Ig,getElem?_eq_none_iff->Ik,getElem?_map->Im,replicate->Ip,range->Iw,getElem?_set_ne->Iy,length_map->IE,map_cons->IG,getElem?_set_self->IJ,take_append_drop->IW,mem_of_getElem?->IX,ext_getElem?->I5,mem_map->I9,map_append->aB,eq_nil_of_length_eq_zero->aF,getElem_of_mem->aG,getElem?_append_right->aL,getElem?_set->aM,getElem?_append_left->aO,pairwise_iff_getElem->aP,eq_of_mem_replicate->aQ,append_nil->aV,nil_append->aW,mem_append->aX,nodup_cons->aY,length_mergeSort->aj,drop_zero->ak,pairwise_append->ax,mem_cons->bC,getElem?_range->bE,getD->bG,map_map->bH,pairwise_cons->bI,flatMap_cons->bM,length->bO,getElem_mem->bV,all_eq_true->bW,getElem_map->bZ,take_length->bf,mem_filter->bq,mem_range->cB,all_cons->cO,map->dC,map_nil->dD
open Nat renaming le_refl->II,le_trans->IK,lt_of_lt_of_le->IU,zero_add->aT,add_assoc->cZ,lt_or_ge->dA
open Option renaming map_eq_some_iff->Cm,bind_eq_some_iff->Ib,map_some->Ir,bind_some->IP,getD_some->bX
open Option.some renaming injEq->Ic
open Prod.mk renaming injEq->Ia
set_option linter.unusedVariables false
set_option linter.unusedSimpArgs false
set_option linter.defProp false
namespace Go.Pl
open Go.RowKit
inductive IC where
 | skip
 | reg (ps:List PI) (deps:Option (List (List Nat)))
 | seq (a b:IC)
 | cond (c:IOp) (a b:IC)
 | block (id:Nat) (b:IC)
 | loop (keep:List Nat) (b:IC)
 | exit (id:Nat)
 | ret
 | ext (n:Nat) (sl:List Nat)
def Yl(d:Nat)(o:POp)(k:Nat):PI:=⟨some d,o,k,none⟩
def o''(o:POp)(k:Nat):PI:=⟨none,o,k,none⟩
def p''(d:Nat)(o:POp)(k g:Nat):PI:=⟨some d,o,k,some (g,true)⟩
def r''(d:Nat)(o:POp)(k g:Nat):PI:=⟨some d,o,k,some (g,false)⟩
def Qm(n:Nat):POp:=.mv (.t n)
def Uy(n:Int):IOp:=.c (.int .i64 n)
def c''(f:Nat)(l:List IOp):POp:=.call (.c (.fn f)) l
def f''(b:Bool):POp:=.mv (.c (.bool b))
def Pp(o:BinOp)(x y:IOp):POp:=.bin .num o x y
def l''(l:List Sh)(x:IOp):POp:=.load false l x
def Q0(l:List PI)(a:IC):IC:=.seq (.reg l none) a
inductive XE where
 | normal|exit (id:Nat)|ret
 deriving DecidableEq
def XE.ex:XE->Exit
 | .normal=>.normal
 | .exit id=>.exit id
 | .ret=>.ret
def Dh:Nat->List Nat->List Nat->ZC->List Nat
 | 0,_,acc,_=>acc
 | _+1,[],acc,_=>acc
 | n+1,l::ls,acc,σ=>
  if acc.contains l then Dh n ls acc σ
  else match σ[l]? with
   | some (.obj o)=>Dh n (ls++o.refs) (acc++[l]) σ
   | _=>Dh n ls acc σ
def a2i:Nat->List Nat->List Nat->ZC->List Nat
 | 0,_,acc,_=>acc
 | _+1,[],acc,_=>acc
 | n+1,l::ls,acc,σ=>
  if acc.contains l then a2i n ls acc σ
  else match σ[l]? with
   | some (.obj o)=>a2i n (ls++o.refs) (acc++[l]) σ
   | some .dead=>a2i n ls (acc++[l]) σ
   | _=>a2i n ls acc σ
def Eg(keep:List Nat):Nat->List AV->List AV
 | _,[]=>[]
 | i,v::vs=>(if keep.contains i then v else .junk)::Eg keep (i+1) vs
def a0x:Slot->Option AObj
 | .obj o=>some o
 | _=>none
def Qz(ρ:Nat->Option Nat):Slot->Option Slot
 | .obj o=>(o.ren ρ).map .obj
 | .dead=>some .dead
 | .fresh=>none
def CL(k:Nat)(ls:List Nat)(env:List AV)(σ:ZC):Option St:=
 if (ls.take k==Iw k&&a3z ls) then
  (Vj (λl=>(σ[l]?).bind (Qz (fwd ls))) ls).bind λos=>(Fp (fwd ls) env).map λa=>⟨a,os⟩
 else none
def HZ(k:Nat)(keep:List Nat)(st:St):Option St:=
 let env:=Eg keep 0 st.env
 CL k (a2i 256 (Iw k++Bj env) [] st.heap) env st.heap
def O4:Nat->(St->Option (XE×St))->St->Option (XE×St)
 | 0,_,_=>none
 | n+1,f,st=>(f st).bind λ(x,st')=>match x with
  | .normal=>O4 n f st'
  | x=>some (x,st')
def Vs(T:ZH)(k n:Nat):IC->St->Option (XE×St)
 | .skip,st=>some (.normal,st)
 | .reg ps d,st=>(K8 T ps d st).map λst'=>(.normal,st')
 | .seq a b,st=>(Vs T k n a st).bind λ(x,st')=>match x with
  | .normal=>Vs T k n b st'
  | x=>some (x,st')
 | .cond c a b,st=>match ev st.env c with
  | .pv (.bool true)=>Vs T k n a st
  | .pv (.bool false)=>Vs T k n b st
  | _=>none
 | .block id b,st=>(Vs T k n b st).map λ(x,st')=>(if x = .exit id then .normal else x,st')
 | .loop keep b,st=>O4 n (λst=>(HZ k keep st).bind λst=>Vs T k n b st) st
 | .exit id,st=>some (.exit id,st)
 | .ret,st=>some (.ret,st)
 | .ext _ _,_=>none
inductive Tr (P:Program):Code->IC->Prop
 | skip:Tr P .skip .skip
 | label (l:Nat):Tr P (.label l) .skip
 | reg (id:Nat) (ops:Array Oper) (draw:Bool) (ps:List PI) (deps:Option (List (List Nat))) (hps:WS P ops 0 ops.toList=some ps)
   (hd:draw-> ∃ d,deps=some d∧AR ops.toList d∧Fu d ps) (hd':draw=false->deps=none):Tr P (.region id ops draw) (.reg ps deps)
 | seq {a b:Code} {x y:IC} (h:Tr P a x) (k:Tr P b y):Tr P (.seq a b) (.seq x y)
 | cond {c:Operand} {d:IOp} {a b:Code} {x y:IC} (hc:Y4 c=some d) (h:Tr P a x) (k:Tr P b y):Tr P (.cond c a b) (.cond d x y)
 | block {id:Nat} {a:Code} {x:IC} (h:Tr P a x):Tr P (.block id a) (.block id x)
 | loop {keep:List Nat} {a:Code} {x:IC} (h:Tr P a x):Tr P (.loop a) (.loop keep x)
 | exit (id:Nat):Tr P (.exit id) (.exit id)
 | ret:Tr P .ret .ret
def UE(P:Program):Code->Option IC
 | .skip | .label _=>some .skip
 | .region _ ops draw=>(WS P ops 0 ops.toList).bind λps=>
  if draw then
   if AR ops.toList (b3c [] ops.toList)&&Fu (b3c [] ops.toList) ps then some (.reg ps (some (b3c [] ops.toList)))else none
  else some (.reg ps none)
 | .seq a b=>(UE P a).bind λx=>(UE P b).map (.seq x)
 | .cond c a b=>(Y4 c).bind λd=>(UE P a).bind λx=>(UE P b).map (.cond d x)
 | .block id a=>(UE P a).map (.block id)
 | .loop a=>(UE P a).map (.loop [])
 | .exit id=>some (.exit id)
 | .ret=>some .ret
 | _=>none
def PD{P:Program}: ∀ {c:Code} {x:IC},UE P c=some x->Tr P c x:=by
 intro c
 induction c with
 | skip=>intro x h;simp[UE]at h;subst h;exact .skip
 | label l=>intro x h;simp[UE]at h;subst h;exact .label l
 | region id ops draw=>
  intro x h;simp only[UE,Ib]at h;obtain⟨ps,hps,h⟩:=h;cases draw with
  | false=>simp at h;subst h;exact .reg id ops false ps none hps (λh=>by cases h) (λ_=>rfl)
  | true=>
   simp only[gq]at h;split at h
   ·rename_i hb;simp only[Ih]at hb;cases h;exact .reg id ops true ps _ hps (λ_=>⟨_,rfl,hb.1,hb.2⟩) (λh=>by cases h)
   ·cases h
 | seq a b iha ihb=>intro x h;simp only[UE,Ib,Cm]at h;obtain⟨y,e,z,g,rfl⟩:=h;exact .seq (iha e) (ihb g)
 | cond c a b iha ihb=>intro x h;simp only[UE,Ib,Cm]at h;obtain⟨d,hd,y,e,z,g,rfl⟩:=h;exact .cond hd (iha e) (ihb g)
 | block id a ih=>intro x h;simp only[UE,Cm]at h;obtain⟨y,e,rfl⟩:=h;exact .block (ih e)
 | loop a ih=>intro x h;simp only[UE,Cm]at h;obtain⟨y,e,rfl⟩:=h;exact .loop (ih e)
 | exit id=>intro x h;simp[UE]at h;subst h;exact .exit id
 | ret=>intro x h;simp[UE]at h;subst h;exact .ret
 | _=>intro x h;simp[UE]at h
def uni(xs ys:List Nat):List Nat:=xs++ys.filter λy=> !xs.contains y
def h8l:List PI->List Nat->List Nat
 | [],live=>live
 | p::r,live=>
  let l:=h8l r live
  uni p.looks.eraseDups (match p.dst with|some d=>l.filter (· != d)|none=>l)
def DX(ex:List (Nat×List Nat))(out:List Nat):IC->List Nat->IC×List Nat
 | .skip,l=>(.skip,l)
 | .reg ps d,l=>(.reg ps d,h8l ps l)
 | .seq a b,l=>let (b',lb):=DX ex out b l;let (a',la):=DX ex out a lb;(.seq a' b',la)
 | .cond c a b,l=>let (a',la):=DX ex out a l;let (b',lb):=DX ex out b l;(.cond c a' b',uni c.slot (uni la lb))
 | .block id a,l=>let (a',la):=DX ((id,l)::ex) out a l;(.block id a',la)
 | .loop _ a,_=>
  let e:=(DX ex out a []).2
  let g:=(DX ex out a e).2
  let (a',l3):=DX ex out a g
  (.loop l3 a',l3)
 | .exit id,_=>(.exit id,((ex.find? (·.1==id)).map (·.2)).getD [])
 | .ret,_=>(.ret,out)
 | .ext n sl,l=>(.ext n (uni sl l),uni sl l)
def c5b{P:Program}: ∀ {c:Code} {x:IC},Tr P c x-> ∀ (ex:List (Nat×List Nat)) (out l:List Nat),Tr P c (DX ex out x l).1:=by
 intro c x h
 induction h with
 | skip=>intro ex out l;exact .skip
 | label n=>intro ex out l;exact .label n
 | reg id ops draw ps deps hps hd hd'=>intro ex out l;exact .reg id ops draw ps deps hps hd hd'
 | seq h k ih1 ih2=>intro ex out l;exact .seq (ih1 _ _ _) (ih2 _ _ _)
 | cond hc h k ih1 ih2=>intro ex out l;exact .cond hc (ih1 _ _ _) (ih2 _ _ _)
 | block h ih=>intro ex out l;exact .block (ih _ _ _)
 | loop h ih=>intro ex out l;exact .loop (ih _ _ _)
 | exit id=>intro ex out l;exact .exit id
 | ret=>intro ex out l;exact .ret
def Qb{c:Ctx}{μ:Mu}{Φ:Yk}{k:Nat}{ls:List Nat}{env:List AV}{σ:ZC}{w:World}{st':St}{tmps:Array Value}(hk : ∀ i n,k<=i->c.μ0 i n=none)(a:Good c μ Φ σ w)(he:Wy μ Φ tmps env)
  (h:CL k ls env σ=some st'):Good c (μ.ren ls) Φ st'.heap w∧Wy (μ.ren ls) Φ tmps st'.env:=by
 unfold CL at h;split at h
 ·rename_i hc;simp only[Ih,gm]at hc;obtain⟨L,I⟩:=hc;simp only[Ib,Cm]at h;obtain⟨os,O,env',D,rfl⟩:=h;obtain⟨h1,h2⟩:=VO O;have A : ∀ l i,fwd ls l=some i-> ∀ n z,μ l n=some z->μ.ren ls i n=some z:=by intro l i hi n z y;simp[Mu.ren,Ls hi,y]
  have B : ∀ (i:Nat) (E:Slot),os[i]? = some E-> ∃ (l:Nat) (s:Slot),ls[i]? = some l∧σ[l]? = some s∧Qz (fwd ls) s=some E:=by
   intro i E ho;have hi:i<ls.length:=by have:=(Ig.1 ho).1;omega
   have:=h2 i ls[i] E (Ie hi) ho;simp only[Ib]at this;obtain⟨s,hs,P⟩:=this;exact⟨ls[i],s,Ie hi,hs,P⟩
  have g : ∀ (i:Nat) (o':AObj),os[i]? = some (Slot.obj o')-> ∃ (l:Nat) (o:AObj),ls[i]? = some l∧σ[l]? = some (Slot.obj o)∧o.ren (fwd ls)=some o':=by
   intro i o' ho;obtain⟨l,s,U,S,u⟩:=B i _ ho;cases s with
   | fresh=>cases u
   | dead=>simp[Qz]at u
   | obj o=>simp only[Qz,Cm]at u;obtain⟨q,Z,e⟩:=u;cases e;exact⟨l,o,U,S,Z⟩
  have r : ∀ (i l:Nat),ls[i]? = some l-> ∀ n,μ.ren ls i n=μ l n:=λi l h n=>by simp[Mu.ren,h]
  refine⟨⟨a.phi,?_,?_,?_,?_,a.os,a.tape,a.output,a.size,a.frame,a.Φle,?_,a.dom,a.laid⟩,c8f A he D⟩
  ·intro i o' ho;obtain⟨l,o,N,F,b⟩:=g i o' ho;exact(WV A (r i l N) (a.obj l o F) b).1
  ·intro i j o1 o2 M k1 k2;obtain⟨H,X,Q,W,r1⟩:=g i o1 k1;obtain⟨K,Y,V,T,r2⟩:=g j o2 k2;rw[(WV A (r i H Q) (a.obj H X W) r1).2,(WV A (r j K V) (a.obj K Y T) r2).2];refine a.apart H K X Y ?_ W T;rintro rfl;exact M (e8f I i j H Q V)
  ·intro i n J;have:os[i]? = none:=by
    rcases J with h|h
    ·exact h
    ·obtain⟨l,s,U,S,u⟩:=B i _ h;cases s with
     | fresh=>cases u
     | dead=>simp[Qz]at u
     | obj o=>simp only[Qz,Cm]at u;obtain⟨q,Z,e⟩:=u;cases e
   have hi:ls[i]? = none:=by rw[Ik]at this ⊢;omega
   simp[Mu.ren,hi]
  ·intro i o' ho;obtain⟨l,o,N,F,b⟩:=g i o' ho;rw[(WV A (r i l N) (a.obj l o F) b).2];exact a.own l o F
  ·intro i n z y;have C:i<k:=by
    rcases dA i k with h|h
    ·exact h
    ·rw[hk i n h]at y;cases y
   have:ls[i]? = some i:=by have h3:=congrArg (λ(l:List Nat)=>l[i]?) L;simp only[List.getElem?_take,fw C]at h3;rw[h3];simp[C]
   simp[Mu.ren,this,a.μle i n z y]
 ·cases h
def RB{μ:Mu}{Φ:Yk}{keep:List Nat}: ∀ {env:List AV} {i:Nat} {vs:List Value},RL μ Φ vs env->RL μ Φ vs (Eg keep i env):=by
 intro env
 induction env with
 | nil=>intro i vs h;exact h
 | cons x env ih=>
  intro i vs h;obtain⟨v,vs',rfl,h1,h2⟩:=h.uncons;simp only[Eg];refine RL.cons ?_ (ih h2);split
  ·exact h1
  ·exact .junk v
def e0g{c:Ctx}{k:Nat}{keep:List Nat}{st st':St}{a:Act}{w:World}(b : ∀ i n,k<=i->c.μ0 i n=none)(h:UK c st a w)(g:HZ k keep st=some st'):UK c st' a w:=by obtain⟨μ,Φ,h1,h2,h3⟩:=h;obtain⟨k1,e⟩:=Qb b h1 (RB h2) g;exact⟨_,Φ,k1,e,h3⟩
def h7a{P:Program}{c:Ctx}{g:Code}{f:St->Option (XE×St)}{x:XE}{st':St}(q : ∀ st j y a w,f st=some (y,j)->UK c st a w->g.wp P (λe a' w'=>e=y.ex∧UK c j a' w') a w)
  (n:Nat) (st:St) (a:Act) (w:World) (h:O4 n f st=some (x,st')) (hr:UK c st a w):(Code.loop g).wp P (λe a' w'=>e=x.ex∧UK c st' a' w') a w:=by
 intro b k cs;have u : ∀ n st a w,O4 n f st=some (x,st')->UK c st a w-> ∃ e a' w',(e=x.ex∧UK c st' a' w')∧Arrives P (lone (b.at a (.code g:: .inLoop g::k)) cs w) b k cs e a' w':=by
  intro n
  induction n with
  | zero=>intro st a w h;simp[O4]at h
  | succ n ih=>
   intro st a w h hr;simp only[O4,Ib]at h;obtain⟨⟨y,j⟩,h1,h2⟩:=h;obtain⟨e,a1,w1,⟨z,r⟩,i⟩:=q st j y a w h1 hr b (.inLoop g::k) cs;subst z;cases y with
   | normal=>obtain⟨A,B,C,s,l⟩:=ih j a1 w1 h2 r;exact⟨A,B,C,s,.of_steps (Steps.trans i (.one step_inLoop)) l⟩
   | exit id=>simp only[Ic,Ia]at h2;obtain⟨rfl,rfl⟩:=h2;exact⟨_,a1,w1,⟨rfl,r⟩,.pass (x:=.inLoop g) rfl (λ_ _=>.inl (by simp[XE.ex])) i⟩
   | ret=>simp only[Ic,Ia]at h2;obtain⟨rfl,rfl⟩:=h2;exact⟨_,a1,w1,⟨rfl,r⟩,.pass (x:=.inLoop g) rfl (λ_ _=>.inl (by simp[XE.ex])) i⟩
 obtain⟨e,a',w',D,i⟩:=u n st a w h hr;exact⟨e,a',w',D,.of_steps (.one step_loop) i⟩
def b7b{P:Program}{c:Ctx}{T:ZH}(z:Xa P T)(r:P.follows .mixedOrders){k n:Nat}(A : ∀ i m,k<=i->c.μ0 i m=none): ∀ {cd:Code} {ic:IC},Tr P cd ic-> ∀ {st st':St} {x:XE} {a:Act} {w:World},Vs T k n ic st=some (x,st')->UK c st a w ->
  cd.wp P (λe a' w'=>e=x.ex∧UK c st' a' w') a w:=by
 intro cd ic h
 induction h with
 | skip=>intro st st' x a w h hr;simp only[Vs,Ic,Ia]at h;obtain⟨rfl,rfl⟩:=h;exact wp_skip ⟨rfl,hr⟩
 | label l=>intro st st' x a w h hr;simp only[Vs,Ic,Ia]at h;obtain⟨rfl,rfl⟩:=h;exact wp_label ⟨rfl,hr⟩
 | reg id ops draw ps deps hps hd hd'=>intro st st' x a w h hr;simp only[Vs,Cm]at h;obtain⟨j,h1,h2⟩:=h;simp only[Ia]at h2;obtain⟨rfl,rfl⟩:=h2;exact i0s z r hps hd hd' hr h1 (λa w hr=>⟨rfl,hr⟩)
 | seq h k' ih1 ih2=>
  intro st st' x a w h hr;simp only[Vs,Ib]at h;obtain⟨⟨y,j⟩,h1,h2⟩:=h;refine wp_seq (wp_mono (ih1 h1 hr) ?_);rintro e E C ⟨rfl,b⟩;cases y with
  | normal=>exact ih2 h2 b
  | exit id=>simp only[Ic,Ia]at h2;obtain⟨rfl,rfl⟩:=h2;exact⟨rfl,b⟩
  | ret=>simp only[Ic,Ia]at h2;obtain⟨rfl,rfl⟩:=h2;exact⟨rfl,b⟩
 | cond hc h k' ih1 ih2=>
  intro st st' x a w h hr;simp only[Vs]at h;have g:=Yn hr.choose_spec.choose_spec.2.1 hc;split at h
  ·rename_i hb;rw[hb]at g;have s:=Y6 g;generalize u:a.eval _=q at s;cases s;exact wp_cond_true u (ih1 h hr)
  ·rename_i hb;rw[hb]at g;have s:=Y6 g;generalize u:a.eval _=q at s;cases s;exact wp_cond_false u (ih2 h hr)
  ·cases h
 | @block id a' x' h ih=>
  intro st st' x a w h hr;simp only[Vs,Cm]at h;obtain⟨⟨y,j⟩,h1,h2⟩:=h;simp only[Ia]at h2;obtain⟨rfl,rfl⟩:=h2;refine wp_block (wp_mono (ih h1 hr) ?_);rintro e E C ⟨rfl,b⟩;cases y with
  | normal=>exact⟨by simp[XE.ex],b⟩
  | exit id'=>
   by_cases e:id'=id
   ·subst e;simp[XE.ex,IM];exact b
   ·have : ¬ XE.exit id'=XE.exit id:=λh=>e (by cases h;rfl)
    simp only[this,gp,XE.ex,IM,e];exact⟨trivial,b⟩
  | ret=>exact⟨by simp[XE.ex],b⟩
 | loop h ih=>intro st st' x a w h hr;simp only[Vs]at h;refine h7a (λst j y a w h1 b=> ?_) n st a w h hr;simp only[Ib]at h1;obtain⟨st2,D,B⟩:=h1;exact ih B (e0g A b D)
 | exit id=>intro st st' x a w h hr;simp only[Vs,Ic,Ia]at h;obtain⟨rfl,rfl⟩:=h;exact wp_exit ⟨rfl,hr⟩
 | ret=>intro st st' x a w h hr;simp only[Vs,Ic,Ia]at h;obtain⟨rfl,rfl⟩:=h;exact wp_ret ⟨rfl,hr⟩
inductive IRes where
 | tmp (t:Nat)
 | cell (ag:Bool) (n:Nat) (t:Nat)
def WR(P:Program):ResultVar->Option IRes
 | .tmp t=>some (.tmp t)
 | .cell a t=>if (P.underlying t).isSome then(P.info? t).map λi=>.cell (WG P t) i.size a else none
def E9(st:St):IRes->Option AV
 | .tmp t=>some (ev st.env (.t t))
 | .cell ag n t=>match ev st.env (.t t)with
  | .ptr l o=>match st.heap[l]? with
   | some (.obj (.box cs))=>Ni ag n cs o
   | _=>none
  | _=>none
def OJ(qs:List PV):PV:=match qs with|[q]=>q|qs=>.tup qs
def fin(st:St)(rs:List IRes):Option PV:=(Vj (E9 st) rs).bind λvs=>((Jg vs).run st.heap).bind λ(qs,_)=>some (OJ qs)
def d7e(T:ZH)(n:Nat)(ic:IC)(a:Nat)(rs:List IRes)(ps:List PV):Option PV:=
 (Vs T 0 n ic ⟨ps.map .pv++Ip (a - ps.length) .undef,[]⟩).bind λ(x,st)=>match x with
  | .exit _=>none
  | _=>fin st rs
def Cg{Φ:Yk}{w:World}(a:GlobOK Φ)(h:UL Φ w):Good (Y7 (λ_ _=>none) Φ [] w) (λ_ _=>none) Φ [] w:=⟨h,λl o h=>by simp at h,λl l' o o' _ h=>by simp at h,λ_ _ _=>rfl,λl o h=>by simp at h,rfl,rfl,rfl,II _,λ_ _ _=>rfl,Yk.le.refl _,Mu.le.refl _,λb cs h=>.inl h,a⟩
def Vy{μ:Mu}{Φ:Yk}(n:Nat):RL μ Φ (Ip n Go.undef) (Ip n .undef):=
 ⟨by simp,λj v x a b=>by
  have h1:=aQ (IX a);have h2:=aQ (IX b);subst h1 h2
  exact .undef⟩
def h7c{P:Program}{c:Ctx}{μ:Mu}{Φ:Yk}{st:St}{a:Act}{w:World}{j:ResultVar}{r:IRes}{x:AV}(u:Good c μ Φ st.heap w)(s:Wy μ Φ a.tmps st.env)(g:WR P j=some r)(hr:E9 st r=some x):
  ∃ v,(match j with | .tmp t=>(pure (a.tmps.getD t undef):Sem Value) | .cell b t=>do loadVar t (<- asAddr (a.tmps.getD b undef))).run P w = .ok v w∧R μ Φ v x:=by
 cases j with
 | tmp t=>simp[WR]at g;subst g;simp only[E9,Ic]at hr;subst hr;exact⟨_,rfl,Yn s (x:=.tmp t) rfl⟩
 | cell b t=>
  simp only[WR]at g;split at g
  ·rename_i hu;rw[Cm]at g;obtain⟨i,hi,rfl⟩:=g;simp only[E9]at hr;have h:=Yn s (x:=.tmp b) rfl;split at hr
   ·rename_i l o D;rw[D]at h;split at hr
    ·rename_i cs k;have e:R μ Φ (a.tmps.getD b undef) (.ptr l o):=h;generalize A:a.tmps.getD b undef=q at e;cases e with
     | ptr _ _ B C S hm=>obtain⟨us,T,h1,h2,h3,y⟩:=a8k u k hm;obtain⟨v,k1,z⟩:=d7d (P:=P) hu hi y h2 h3 hr;refine⟨v,?_,z⟩;simp only[I6,A,asAddr,aR,I4];simpa using k1
    ·cases hr
   ·cases hr
  ·cases g
def Ga{P:Program}{c:Ctx}{μ:Mu}{Φ:Yk}{st:St}{a:Act}{w:World}{fn:Func}{rs:List IRes}{vs:List AV}(E:Good c μ Φ st.heap w)(C:Wy μ Φ a.tmps st.env)(A:Vj (WR P) fn.results.toList=some rs)
  (k:Vj (E9 st) rs=some vs) : ∃ z:List Value,(results fn a.tmps).run P w = .ok (if h:z.toArray.size=1 then z.toArray[0]else .tuple z.toArray) w∧RL μ Φ z vs:=by
 obtain⟨h1,h2⟩:=VO A;obtain⟨k1,H⟩:=VO k;have i : ∀ j (g:j<fn.results.size),∃ v,(match fn.results[j]with | .tmp t=>(pure (a.tmps.getD t undef):Sem Value) | .cell b t=>do loadVar t (<- asAddr (a.tmps.getD b undef))).run P w = .ok v w∧ ∀ x,vs[j]? = some x->R μ Φ v x:=by
  intro j g;have s:j<rs.length:=by simp at h1;omega
  have q:j<vs.length:=by omega
  obtain⟨v,F,B⟩:=h7c E C (h2 j fn.results[j] rs[j] (by simp[g]) (Ie s)) (H j rs[j] vs[j] (Ie s) (Ie q));refine⟨v,F,λx l=> ?_⟩;rw[Ie q]at l;cases l;exact B
 refine⟨(Iw fn.results.size).map λj=>if g:j<fn.results.size then(i j g).choose else undef,?_,?_,?_⟩
 ·have hm:=b9h (P:=P) (w:=w) (f:=λD=>(match D with | .tmp t=>(pure (a.tmps.getD t undef):Sem Value) | .cell b t=>do loadVar t (<- asAddr (a.tmps.getD b undef)))) (xs:=fn.results)
   (ys:=(Iw fn.results.size).map λj=>if g:j<fn.results.size then(i j g).choose else undef) (by simp) (by
    intro j x y l u;have g:j<fn.results.size:=(Ii.1 l).1;rw[Im,bE g]at u;simp only[Ir,Ic]at u;rw[gU g]at u;subst u;have e:fn.results[j]=x:=(Ii.1 l).2;subst e
    exact(i j g).choose_spec.1)
  unfold results;rw[I6];exact congrArg (λ(r:Result (Array Value))=>r.andThen λvs w'=>(pure (if h:vs.size=1 then vs[0]else .tuple vs):Sem Value).run P w') hm
 ·simp at h1 ⊢;omega
 ·intro j v x k l;have g:j<fn.results.size:=by have:=(Ig.1 k).1;simpa using this
  rw[Im,bE g]at k;simp only[Ir,Ic]at k;rw[gU g]at k;subst k;exact(i j g).choose_spec.2 x l
def g8d{P:Program}{T:ZH}{f:Nat}{fn:Func}{cd:Code}{ic:IC}{rs:List IRes}{pre:List PV->Bool}{val:List PV->PV}(K:Xa P T)(A:P.follows .mixedOrders)(M:P.funcs[f]? = some fn)(hb:fn.body=some cd)(D:Tr P cd ic)
  (C:Vj (WR P) fn.results.toList=some rs) (h : ∀ ps,pre ps-> ∃ n,d7e T n ic fn.ntmps rs ps=some (val ps)):W9 P f pre val:=by
 intro ps N Φ w vs Q U B;obtain⟨n,g⟩:=h ps N;generalize val ps=r at g ⊢;unfold d7e at g;rw[Ib]at g;obtain⟨⟨x,st⟩,hc,a⟩:=g;refine calls_of_wp M hb ?_;have S:=Cg Q U;have y:vs.size=ps.length:=by have:=B.1;simpa using this
 have s:UK (Y7 (λ_ _=>none) Φ [] w) ⟨ps.map .pv++Ip (fn.ntmps - ps.length) .undef,[]⟩ {tmps:=vs++IR (fn.ntmps - vs.size) undef,defers:=[]} w:=by refine⟨_,Φ,S,?_,rfl⟩;show RL _ _ _ _;rw[IZ,IV,y];exact B.toRL.append (Vy _)
 refine wp_mono (b7b K A (k:=0) (λ_ _ _=>rfl) D hc s) ?_;rintro e a' w' ⟨rfl,μ,Φ',z,E,hd'⟩;have done:fin st rs=some r->a'.defers=[]∧ ∃ v,(results fn a'.tmps).run P w' = .ok v w'∧ ∃ v' i,I7 v = .returned v'∧Yk.le Φ i∧UL i w'∧RP i v' r∧Below w.heap.size w w'∧ ∀ b cs,i b=some cs->Φ b=some cs∨w.heap.size<=b:=by
  intro a;refine⟨hd',?_⟩;unfold fin at a;simp only[Ib,Ic]at a;obtain⟨xs,hxs,⟨qs,σ2⟩,hfr,hq⟩:=a;obtain⟨J,F,H⟩:=Ga z E C hxs;obtain⟨Φ2,f1,f2,f3⟩:=Kr xs hfr z H;refine⟨_,F,_,Φ2,rfl,f2.Φle,f2.phi,?_,⟨f2.os,f2.tape,f2.output,f2.size,λk L=>f2.frame k L (by rintro⟨l,o,h,_⟩;simp at h)⟩,?_⟩
  ·rw[<- hq]
   match J,qs,f3 with
   | [],[],_=>exact .tup _ _ rfl (λj v x h=>by simp at h)
   | [u],[q],f3=>exact f3.2 0 u q rfl rfl
   | O::u2::J,q1::q2::qs,f3=>
    have e : ¬ ((O::u2::J).toArray.size=1):=by simp
    rw[gV e];exact .tup _ _ (by have:=f3.1;simpa using this) (λj v x V W=>f3.2 j v x (by simpa using V) W)
   | [],_::_,f3=>have:=f3.1;simp at this
   | _::_,[],f3=>have:=f3.1;simp at this
   | [_],_::_::_,f3=>have:=f3.1;simp at this
   | _::_::_,[_],f3=>have:=f3.1;simp at this
  ·intro b cs I;rcases f2.dom b cs I with h|h|h
   ·exact .inl h
   ·exact .inr h
   ·obtain⟨l,o,h,_⟩:=h;simp at h
 cases x with
 | normal=>exact done a
 | ret=>exact done a
 | exit id=>simp at a
section
abbrev Cs:=List (Bool×Bool)
def Gb:Cs->Prop
 | []=>True
 | (b,d)::r=>b=d∧Gb r
def Js: ∀ {a b:Cs},Gb (a++b)->Gb a∧Gb b:=by
 intro a
 induction a with
 | nil=>intro b h;exact⟨trivial,h⟩
 | cons x a ih=>intro b h;obtain⟨y,z⟩:=x;exact⟨⟨h.1,(ih h.2).1⟩,(ih h.2).2⟩
def HM.sr{α:Type}:HM α->ZC->List Bool->Option (α×ZC×List Nat×List Nat×List Bool×Cs)
 | .ret a,σ,ds=>some (a,σ,[],[],ds,[])
 | .fail,_,_=>none
 | .get l k,σ,ds=>match σ[l]? with
  | some (.obj o)=>((k o).sr σ ds).map λ(a,σ',R,W,r)=>(a,σ',l::R,W,r)
  | _=>none
 | .put l o k,σ,ds=>match σ[l]? with
  | some (.obj _)=>(k.sr (σ.set l (.obj o)) ds).map λ(a,σ',R,W,r)=>(a,σ',R,l::W,r)
  | _=>none
 | .new l o k,σ,ds=>match σ[l]? with
  | some .fresh=>(k.sr (σ.set l (.obj o)) ds).map λ(a,σ',R,W,r)=>(a,σ',R,l::W,r)
  | _=>none
 | .ask b k,σ,ds=>match ds with
  | []=>none
  | d::ds=>((k d).sr σ ds).map λ(a,σ',R,W,ds',cs)=>(a,σ',R,W,ds',(b,d)::cs)
 | .req b k,σ,ds=>(k.sr σ ds).map λ(a,σ',R,W,ds',cs)=>(a,σ',R,W,ds',(b,true)::cs)
def HM.sr_ok{α:Type}(m:HM α): ∀ {σ:ZC} {ds:List Bool} {a:α} {j:ZC} {R W:List Nat} {g:List Bool} {cs:Cs},m.sr σ ds=some (a,j,R,W,g,cs)->Gb cs->m.runF σ=some (a,j,R,W):=by
 induction m with
 | ret a=>intro σ ds b j R W g cs h _;simp only[HM.sr,Ic,Ia]at h;obtain⟨rfl,rfl,rfl,rfl,_,_⟩:=h;rfl
 | fail=>intro σ ds b j R W g cs h _;simp[HM.sr]at h
 | get l k ih=>
  intro σ ds b j R W g cs h hc;simp only[HM.sr]at h;split at h
  ·rename_i o ho;rw[Cm]at h;obtain⟨⟨r,σ1,R1,W1,q,i⟩,h1,h2⟩:=h;simp only[Ia]at h2;obtain⟨rfl,rfl,rfl,rfl,rfl,rfl⟩:=h2;simp[IB,ho,ih o h1 hc]
  ·cases h
 | put l o k ih=>
  intro σ ds b j R W g cs h hc;simp only[HM.sr]at h;split at h
  ·rename_i o' ho;rw[Cm]at h;obtain⟨⟨r,σ1,R1,W1,q,i⟩,h1,h2⟩:=h;simp only[Ia]at h2;obtain⟨rfl,rfl,rfl,rfl,rfl,rfl⟩:=h2;simp[IB,ho,ih h1 hc]
  ·cases h
 | new l o k ih=>
  intro σ ds b j R W g cs h hc;simp only[HM.sr]at h;split at h
  ·rename_i ho;rw[Cm]at h;obtain⟨⟨r,σ1,R1,W1,q,i⟩,h1,h2⟩:=h;simp only[Ia]at h2;obtain⟨rfl,rfl,rfl,rfl,rfl,rfl⟩:=h2;simp[IB,ho,ih h1 hc]
  ·cases h
 | ask b k ih=>
  intro σ ds x j R W g cs h hc;cases ds with
  | nil=>simp[HM.sr]at h
  | cons d ds=>simp only[HM.sr]at h;rw[Cm]at h;obtain⟨⟨r,σ1,R1,W1,q,i⟩,h1,h2⟩:=h;simp only[Ia]at h2;obtain⟨rfl,rfl,rfl,rfl,rfl,rfl⟩:=h2;obtain⟨e,hc⟩:=hc;show(k _).runF σ=_;rw[e];exact ih d h1 hc
 | req b k ih=>intro σ ds x j R W g cs h hc;simp only[HM.sr]at h;rw[Cm]at h;obtain⟨⟨r,σ1,R1,W1,q,i⟩,h1,h2⟩:=h;simp only[Ia]at h2;obtain⟨rfl,rfl,rfl,rfl,rfl,rfl⟩:=h2;obtain⟨e,hc⟩:=hc;show(match b with|true=>k.runF σ|false=>none)=_;rw[e];exact ih h1 hc
def g3j(env:List AV)(g:Option (Nat×Bool))(ds:List Bool):Option (Bool×List AV×List Bool×Cs):=
 match g with
 | none=>some (true,env,ds,[])
 | some (s,b)=>match env[s]? with
  | some (.pv (.bool v))=>match ds with
   | []=>none
   | d::ds=>some (d==b,env.set s (.pv (.bool d)),ds,[(v,d)])
  | some .undef=>some (false,env,ds,[])
  | _=>none
def c1k{env a:List AV}{g:Option (Nat×Bool)}{ds l:List Bool}{r:Bool}{cs:Cs}(h:g3j env g ds=some (r,a,l,cs))(hc:Gb cs):WF env g=some r∧a=env:=by
 unfold g3j at h;split at h
 ·simp only[Ic,Ia]at h;obtain⟨rfl,rfl,_,_⟩:=h;exact⟨rfl,rfl⟩
 ·rename_i s b;split at h
  ·rename_i v i;split at h
   ·cases h
   ·rename_i d ds;simp only[Ic,Ia]at h;obtain⟨rfl,rfl,rfl,rfl⟩:=h;obtain⟨rfl,_⟩:=hc;refine⟨by simp[WF,i],?_⟩;apply I5;intro j;rw[aM];split
    ·rename_i e;subst e
     have:=(Ig.1 i).1;rw[fw this,i]
    ·rfl
  ·rename_i i;simp only[Ic,Ia]at h;obtain⟨rfl,rfl,rfl,rfl⟩:=h;exact⟨by simp[WF,i],rfl⟩
  ·cases h
def g3y(T:ZH)(a:Nat)(p:PI)(st:St)(ds:List Bool):Option (St×List Nat×List Nat×List Bool×Cs):=
 match g3j st.env p.gd ds with
 | none=>none
 | some (false,env,ds,c)=>some (⟨Y3 env p.dst .undef,st.heap⟩,[],[],ds,c)
 | some (true,env,ds,c)=>((VJ T (a+p.L) env p.op).sr st.heap ds).map λ(v,σ,R,W,ds,cs)=>(⟨Y3 env p.dst v,σ⟩,R,W,ds,c++cs)
def g5s{T:ZH}{a:Nat}{p:PI}{st st':St}{ds b:List Bool}{R W:List Nat}{cs:Cs}(h:g3y T a p st ds=some (st',R,W,b,cs))(hc:Gb cs):Vw T a p st=some (st',R,W):=by
 unfold g3y at h;split at h
 ·cases h
 ·rename_i env j c i;simp only[Ic,Ia]at h;obtain⟨rfl,rfl,rfl,rfl,rfl⟩:=h;obtain⟨h1,rfl⟩:=c1k i hc;simp[Vw,h1]
 ·rename_i env j c i;rw[Cm]at h;obtain⟨⟨v,σ,R1,W1,ds2,cs1⟩,h1,h2⟩:=h;simp only[Ia]at h2;obtain⟨rfl,rfl,rfl,rfl,rfl⟩:=h2;obtain⟨e,g⟩:=Js hc;obtain⟨k1,rfl⟩:=c1k i e;simp[Vw,k1,HM.sr_ok _ h1 g]
def g3h(T:ZH)(a:Nat):List (Nat×PI)->St->List Bool->Option (St×List FP×List Bool×Cs)
 | [],st,ds=>some (st,[],ds,[])
 | (i,p)::r,st,ds=>match g3y T a p st ds with
  | none=>none
  | some (st',R,W,ds',c)=>(g3h T a r st' ds').map λ(st'',tr,ds'',cs)=>(st'',(i,R,W)::tr,ds'',c++cs)
def d9l{T:ZH}{a:Nat}: ∀ {l:List (Nat×PI)} {st st':St} {ds b:List Bool} {e:List FP} {cs:Cs},g3h T a l st ds=some (st',e,b,cs)->Gb cs->runF T a l st=some (st',e):=by
 intro l
 induction l with
 | nil=>intro st st' ds b e cs h _;simp only[g3h,Ic,Ia]at h;obtain⟨rfl,rfl,_,_⟩:=h;rfl
 | cons q l ih=>
  intro st st' ds b e cs h hc;obtain⟨i,p⟩:=q;simp only[g3h]at h;split at h
  ·cases h
  ·rename_i st1 R W ds1 c h1;rw[Cm]at h;obtain⟨⟨st2,tr2,ds2,cs2⟩,h2,h3⟩:=h;simp only[Ia]at h3;obtain⟨rfl,rfl,rfl,rfl⟩:=h3;obtain⟨g,j⟩:=Js hc;simp[runF,g5s h1 g,ih h2 j]
def EA(T:ZH)(ps:List PI)(deps:Option (List (List Nat)))(st:St)(ds:List Bool):Option (St×List Bool×Cs):=
 match g3h T st.heap.length (CZ ps) (grow st (news ps)) ds with
 | none=>none
 | some (st',tr,ds',cs)=>match deps with
  | none=>some (st',ds',cs)
  | some d=>match b1k d tr with
   | true=>some (st',ds',cs)
   | false=>none
def a2m{T:ZH}{ps:List PI}{deps:Option (List (List Nat))}{st st':St}{ds a:List Bool}{cs:Cs}(h:EA T ps deps st ds=some (st',a,cs))(hc:Gb cs):K8 T ps deps st=some st':=by
 unfold EA at h;split at h
 ·cases h
 ·rename_i st1 tr ds1 cs1 h1;split at h
  ·simp only[Ic,Ia]at h;obtain⟨rfl,rfl,rfl⟩:=h
   have:=a4a (d9l h1 hc);rw[Af]at this;exact this
  ·rename_i d;split at h
   ·rename_i b;simp only[Ic,Ia]at h;obtain⟨rfl,rfl,rfl⟩:=h;simp[K8,d9l h1 hc,b]
   ·cases h
def OQ(env:List AV)(c:IOp)(d:Bool):List AV:=
 match c with
 | .t s=>env.set s (.pv (.bool d))
 | .c _=>env
def UY{env:List AV}{c:IOp}{d:Bool}(h:ev env c = .pv (.bool d)):OQ env c d=env:=by
 cases c with
 | c p=>rfl
 | t s=>
  apply I5;intro j;simp only[OQ];rw[aM];split
  ·rename_i e;subst e;by_cases hs:s<env.length
   ·rw[fw hs,Ie hs];simp[ev,bG,Ie hs]at h;rw[h]
   ·rw[fo hs,List.getElem?_eq_none (by omega)]
  ·rfl
def csr(T:ZH):IC->St->List Bool->Option (XE×St×List Bool×Cs)
 | .skip,st,ds=>some (.normal,st,ds,[])
 | .reg ps d,st,ds=>(EA T ps d st ds).map λ(st',ds',cs)=>(.normal,st',ds',cs)
 | .seq a b,st,ds=>match csr T a st ds with
  | none=>none
  | some (.normal,st',ds',cs)=>(csr T b st' ds').map λ(x,st'',ds'',cs')=>(x,st'',ds'',cs++cs')
  | some (x,st',ds',cs)=>some (x,st',ds',cs)
 | .cond c a b,st,ds=>match ev st.env c with
  | .pv (.bool v)=>match ds with
   | []=>none
   | true::ds=>(csr T a ⟨OQ st.env c true,st.heap⟩ ds).map λ(x,st',ds',cs)=>(x,st',ds',(v,true)::cs)
   | false::ds=>(csr T b ⟨OQ st.env c false,st.heap⟩ ds).map λ(x,st',ds',cs)=>(x,st',ds',(v,false)::cs)
  | _=>none
 | .block id b,st,ds=>(csr T b st ds).map λ(x,st',r)=>(match x with | .exit i=>(match i==id with|true=>.normal|false=>.exit i)|x=>x,st',r)
 | .loop _ _,_,_=>none
 | .exit id,st,ds=>some (.exit id,st,ds,[])
 | .ret,st,ds=>some (.ret,st,ds,[])
 | .ext _ _,_,_=>none
def j5w{T:ZH}{k n:Nat}: ∀ {ic:IC} {st st':St} {ds g:List Bool} {x:XE} {cs:Cs},csr T ic st ds=some (x,st',g,cs)->Gb cs->Vs T k n ic st=some (x,st'):=by
 intro ic
 induction ic with
 | skip=>intro st st' ds g x cs h _;simp only[csr,Ic,Ia]at h;obtain⟨rfl,rfl,_,_⟩:=h;rfl
 | reg ps d=>intro st st' ds g x cs h hc;simp only[csr,Cm]at h;obtain⟨⟨st1,l,j⟩,h1,h2⟩:=h;simp only[Ia]at h2;obtain⟨rfl,rfl,rfl,rfl⟩:=h2;simp[Vs,a2m h1 hc]
 | seq a b iha ihb=>
  intro st st' ds g x cs h hc;simp only[csr]at h;split at h
  ·cases h
  ·rename_i st1 l j h1;rw[Cm]at h;obtain⟨⟨y,st2,q,r⟩,h2,h3⟩:=h;simp only[Ia]at h3;obtain⟨rfl,rfl,rfl,rfl⟩:=h3;obtain⟨u,A⟩:=Js hc;simp[Vs,iha h1 u,ihb h2 A]
  ·rename_i y st1 l j z h1;simp only[Ic,Ia]at h;obtain⟨rfl,rfl,rfl,rfl⟩:=h;simp only[Vs,iha h1 hc,IP]
   all_goals
    cases y with
    | normal=>exact absurd rfl (z _ _ _)
    | _=>rfl
 | cond c a b iha ihb=>
  intro st st' ds g x cs h hc;simp only[csr]at h;split at h
  ·rename_i v s;split at h
   ·cases h
   ·rw[Cm]at h;obtain⟨⟨y,st2,q,r⟩,h2,h3⟩:=h;simp only[Ia]at h3;obtain⟨rfl,rfl,rfl,rfl⟩:=h3;obtain⟨rfl,hc⟩:=hc;rw[UY s]at h2;simp[Vs,s,iha h2 hc]
   ·rw[Cm]at h;obtain⟨⟨y,st2,q,r⟩,h2,h3⟩:=h;simp only[Ia]at h3;obtain⟨rfl,rfl,rfl,rfl⟩:=h3;obtain⟨rfl,hc⟩:=hc;rw[UY s]at h2;simp[Vs,s,ihb h2 hc]
  ·cases h
 | block id b ih=>
  intro st st' ds g x cs h hc;simp only[csr,Cm]at h;obtain⟨⟨y,st1,l,j⟩,h1,h2⟩:=h;simp only[Ia]at h2;obtain⟨rfl,rfl,rfl,rfl⟩:=h2;simp only[Vs,ih h1 hc,Ir];cases y with
  | exit i=>
   by_cases e:i=id
   ·subst e;simp
   ·have C:(i==id)=false:=by simpa using e
    have B : ¬ XE.exit i=XE.exit id:=λh=>e (by cases h;rfl)
    simp[C,B]
  | _=>simp
 | ext n sl=>intro st st' ds g x cs h _;simp[csr]at h
 | loop keep b ih=>intro st st' ds g x cs h _;simp[csr]at h
 | exit id=>intro st st' ds g x cs h _;simp only[csr,Ic,Ia]at h;obtain⟨rfl,rfl,_,_⟩:=h;rfl
 | ret=>intro st st' ds g x cs h _;simp only[csr,Ic,Ia]at h;obtain⟨rfl,rfl,_,_⟩:=h;rfl
def a9k{f g:St->Option (XE×St)}(a : ∀ st r,f st=some r->g st=some r): ∀ (n:Nat) {m:Nat} {st:St} {r:XE×St},n<=m->O4 n f st=some r->O4 m g st=some r:=by
 intro n
 induction n with
 | zero=>intro m st r _ h;simp[O4]at h
 | succ n ih=>
  intro m st r hm h;cases m with
  | zero=>omega
  | succ m=>
   simp only[O4,Ib]at h ⊢;obtain⟨⟨y,st1⟩,h1,h2⟩:=h;refine⟨(y,st1),a _ _ h1,?_⟩;cases y with
   | normal=>exact ih (by omega) h2
   | _=>exact h2
def DF{T:ZH}{k n m:Nat}(e:n<=m): ∀ {ic:IC} {st:St} {r:XE×St},Vs T k n ic st=some r->Vs T k m ic st=some r:=by
 intro ic
 induction ic with
 | seq a b iha ihb=>
  intro st r h;simp only[Vs,Ib]at h ⊢;obtain⟨⟨y,st1⟩,h1,h2⟩:=h;refine⟨(y,st1),iha h1,?_⟩;cases y with
  | normal=>exact ihb h2
  | _=>exact h2
 | cond c a b iha ihb=>
  intro st r h;simp only[Vs]at h ⊢;generalize ev st.env c=v at h ⊢;split at h
  ·exact iha h
  ·exact ihb h
  ·cases h
 | block id b ih=>intro st r h;simp only[Vs,Cm]at h ⊢;obtain⟨y,h1,h2⟩:=h;exact⟨y,ih h1,h2⟩
 | loop keep b ih=>intro st r h;simp only[Vs]at h ⊢;refine a9k (λst r h=> ?_) n e h;simp only[Ib]at h ⊢;obtain⟨st1,h1,h2⟩:=h;exact⟨st1,h1,ih h2⟩
 | _=>intro st r h;exact h
def UG(T:ZH)(k:Nat)(ic:IC)(st:St)(x:XE)(st':St):Prop:= ∃ n,Vs T k n ic st=some (x,st')
section
variable {T:ZH} {k:Nat} {st st1 st2 st':St} {x:XE}
def UG.seq{a b:IC}(h1:UG T k a st .normal st1)(h2:UG T k b st1 x st'):UG T k (.seq a b) st x st':=by obtain⟨n,h1⟩:=h1;obtain⟨m,h2⟩:=h2;refine⟨max n m,?_⟩;simp[Vs,DF (Nat.le_max_left n m) h1,DF (Nat.le_max_right n m) h2]
def UG.seqx{a b:IC}(h1:UG T k a st x st1)(e:x ≠ .normal):UG T k (.seq a b) st x st1:=by
 obtain⟨n,h1⟩:=h1;refine⟨n,?_⟩;simp only[Vs,h1,IP]
 all_goals
  cases x with
  | normal=>exact absurd rfl e
  | _=>rfl
def UG.block{id:Nat}{b:IC}(h:UG T k b st x st1):UG T k (.block id b) st (if x = .exit id then .normal else x) st1:=by obtain⟨n,h⟩:=h;exact⟨n,by simp[Vs,h]⟩
def UG.cond{c:IOp}{a b:IC}{d:Bool}(hc:ev st.env c = .pv (.bool d))(h:UG T k (bif d then a else b) st x st1):UG T k (.cond c a b) st x st1:=by obtain⟨n,h⟩:=h;refine⟨n,?_⟩;cases d <;> simp only[Vs,hc] <;> exact h
def UG.round{keep:List Nat}{b:IC}(e:HZ k keep st=some st1)(h1:UG T k b st1 .normal st2)(h2:UG T k (.loop keep b) st2 x st'):UG T k (.loop keep b) st x st':=by obtain⟨n,h1⟩:=h1;obtain⟨m,h2⟩:=h2;refine⟨max n m+1,?_⟩;simp only[Vs]at h2 ⊢;simp only[O4,e,IP,DF (T:=T) (k:=k) (m:=max n m+1) (by omega) h1];refine a9k (λst r h=> ?_) m (by omega) h2;simp only[Ib]at h ⊢;obtain⟨a,h3,g⟩:=h;exact⟨a,h3,DF (by omega) g⟩
def UG.last{keep:List Nat}{b:IC}(e:HZ k keep st=some st1)(h1:UG T k b st1 x st')(a:x ≠ .normal):UG T k (.loop keep b) st x st':=by
 obtain⟨n,h1⟩:=h1;refine⟨n+1,?_⟩;simp only[Vs,O4,e,IP,DF (T:=T) (k:=k) (m:=n+1) (by omega) h1]
 all_goals
  cases x with
  | normal=>exact absurd rfl a
  | _=>rfl
end
def j6j(st:St)(rs:List IRes):Option (PV×Cs):=(Vj (E9 st) rs).bind λvs=>((Jg vs).sr st.heap []).map λ(qs,_,_,_,_,cs)=>(OJ qs,cs)
def Z7(a:Nat)(ps:List PV):St:=⟨ps.map .pv++Ip (a - ps.length) .undef,[]⟩
end
def OD(k:Nat)(ls:List Nat)(env:List AV)(σ:ZC):Option (List AV×List AObj):=
 match ls.take k==Iw k&&a3z ls with
 | true=>(Vj (λl=>(σ[l]?).bind λs=>(a0x s).bind λo=>o.ren (fwd ls)) ls).bind λos=>(Fp (fwd ls) env).map λa=>(a,os)
 | false=>none
def c4k{ρ:Nat->Option Nat}{σ:ZC}: ∀ {ls:List Nat} {os:List AObj},Vj (λl=>(σ[l]?).bind λs=>(a0x s).bind λo=>o.ren ρ) ls=some os->Vj (λl=>(σ[l]?).bind (Qz ρ)) ls=some (os.map .obj)
 | [],os,h=>by simp[Vj]at h;subst h;rfl
 | l::ls,os,h=>by
  simp only[Vj,Ib,Cm]at h;obtain⟨o,⟨s,h1,o1,h2,h3⟩,os',h4,rfl⟩:=h;cases s with
  | fresh=>simp[a0x]at h2
  | dead=>simp[a0x]at h2
  | obj ob=>simp only[a0x,Ic]at h2;subst h2;simp[Vj,h1,Qz,h3,c4k h4]
def Mf{k:Nat}{ls:List Nat}{env a:List AV}{σ:ZC}{os:List AObj}(h:OD k ls env σ=some (a,os)):CL k ls env σ=some ⟨a,os.map .obj⟩∧k<=os.length:=by
 unfold OD at h;split at h
 ·rename_i hc;simp only[Ib,Cm]at h;obtain⟨os',b,env2,g,e⟩:=h;cases e;refine⟨?_,?_⟩
  ·unfold CL;rw[fw hc];have:Vj (λl=>(σ[l]?).bind (Qz (fwd ls))) ls=some (os.map .obj):=c4k b;rw[this];simp[g]
  ·rw[<- (VO b).1];simp only[Ih,gm]at hc
   have:=congrArg bO hc.1;simp at this;omega
 ·cases h
def h9j(vs:List AV):AV:=match vs with|[v]=>v|vs=>.tup vs
def finO(k:Nat)(st:St)(rs:List IRes):Option (AV×List AObj×List AObj):=(Vj (E9 st) rs).bind λvs=>(OD k (Dh 256 (Iw k++Bj vs) [] st.heap) vs st.heap).map λ(vs',os)=>(h9j vs',os.take k,os.drop k)
def a4b(T:ZH)(n:Nat)(ic:IC)(a:Nat)(rs:List IRes)(args:List AV)(os:List AObj):Option (AV×List AObj×List AObj):=
 (Vs T os.length n ic ⟨args++Ip (a - args.length) .undef,XC os⟩).bind λ(x,st)=>match x with
  | .exit _=>none
  | _=>finO os.length st rs
def i7r{P:Program}{T:ZH}{f:Nat}{fn:Func}{cd:Code}{ic:IC}{rs:List IRes}{pre:List AV->List AObj->Bool}{val:List AV->List AObj->AV×List AObj×List AObj}(V:Xa P T)(A:P.follows .mixedOrders)(X:P.funcs[f]? = some fn)(hb:fn.body=some cd)(J:Tr P cd ic)
  (I:Vj (WR P) fn.results.toList=some rs) (h : ∀ args os,pre args os-> ∃ n,a4b T n ic fn.ntmps rs args os=some (val args os)):YP P f pre val:=by
 intro args os x L ext z C;obtain⟨n,g⟩:=h args os z;rw[C]at g;unfold a4b at g;rw[Ib]at g;obtain⟨⟨y,st⟩,hc,a⟩:=g;have k:finO os.length st rs=some (x,L,ext)∧ ∀ i,y ≠ .exit i:=by
  cases y with
  | normal=>exact⟨a,λi h=>by cases h⟩
  | ret=>exact⟨a,λi h=>by cases h⟩
  | exit id=>simp at a
 clear a;obtain⟨a,W⟩:=k;unfold finO at a;simp only[Ib,Cm]at a;obtain⟨xs,hxs,⟨ys,F⟩,hpk,e⟩:=a;simp only[Ia]at e;obtain⟨rfl,rfl,rfl⟩:=e;obtain⟨K,hlen2⟩:=Mf hpk;refine⟨by simp;omega,?_⟩;intro μ Φ w vs U B;refine calls_of_wp X hb ?_;have D:vs.size=args.length:=by have:=B.1;simpa using this
 have l:UK (Y7 μ Φ (XC os) w) ⟨args++Ip (fn.ntmps - args.length) .undef,XC os⟩ {tmps:=vs++IR (fn.ntmps - vs.size) undef,defers:=[]} w:=by refine⟨μ,Φ,U,?_,rfl⟩;show RL _ _ _ _;rw[IZ,IV,D];exact B.append (Vy _)
 have S : ∀ i m,os.length<=i->(Y7 μ Φ (XC os) w).μ0 i m=none:=by intro i m hi;refine U.fresh i m (.inl ?_);rw[Ik];simp[XC];exact hi
 refine wp_mono (b7b V A S J hc l) ?_;rintro e a' w' ⟨rfl,μ',Φ',r,N,hd'⟩;have done:a'.defers=[]∧ ∃ v,(results fn a'.tmps).run P w' = .ok v w'∧ ∃ v' E s,I7 v = .returned v'∧Good (Y7 μ Φ (XC os) w) E s (XC (F.take os.length++F.drop os.length)) w'∧R E s v' (h9j ys):=by
  refine⟨hd',?_⟩;obtain⟨H,O,Q⟩:=Ga r N I hxs;have M:Wy μ' Φ' H.toArray xs:=by simpa [Wy]using Q
  obtain⟨k1,b⟩:=Qb S r M K;refine⟨_,O,_,μ'.ren (Dh 256 (Iw os.length++Bj xs) [] st.heap),Φ',rfl,?_,?_⟩
  ·rw[IW];exact k1
  ·replace b:RL (μ'.ren (Dh 256 (Iw os.length++Bj xs) [] st.heap)) Φ' H ys:=by simpa [Wy]using b
   match H,ys,b with
   | [],[],_=>exact .tup _ _ rfl (λj v x h=>by simp at h)
   | [u],[q],b=>exact b.2 0 u q rfl rfl
   | Y::u2::H,q1::q2::qs,b=>
    have e : ¬ ((Y::u2::H).toArray.size=1):=by simp
    rw[gV e];exact .tup _ _ (by have:=b.1;simpa using this) (λj v x Z hx=>b.2 j v x (by simpa using Z) hx)
   | [],_::_,b=>have:=b.1;simp at this
   | _::_,[],b=>have:=b.1;simp at this
   | [_],_::_::_,b=>have:=b.1;simp at this
   | _::_::_,[_],b=>have:=b.1;simp at this
 cases y with
 | normal=>exact done
 | ret=>exact done
 | exit id=>exact absurd rfl (W id)
def Yr(a:Nat)(args:List AV)(os:List AObj):St:=⟨args++Ip (a - args.length) .undef,XC os⟩
def e8a{T:ZH}{ic:IC}{a:Nat}{rs:List IRes}{args:List AV}{os:List AObj}{r:AV×List AObj×List AObj}{x:XE}{st:St}(h:UG T os.length ic (Yr a args os) x st)(e:(match x with | .exit _=>false|_=>true)=true)(b:finO os.length st rs=some r):
  ∃ n,a4b T n ic a rs args os=some r:=by
 obtain⟨n,h⟩:=h;refine⟨n,?_⟩;unfold a4b;rw[show(⟨args++Ip (a - args.length) .undef,XC os⟩:St)=Yr a args os from rfl,h];cases x with
 | exit id=>simp at e
 | _=>simpa using b
section
inductive Fr where
 | seq (b:IC)|blk (id:Nat)|lp (keep:List Nat) (b:IC)
def Wh(T:ZH)(k:Nat):List Fr->XE->St->XE->St->Prop
 | [],x,st,x',st'=>x=x'∧st=st'
 | .seq b::K,.normal,st,x',st'=> ∃ y a,UG T k b st y a∧Wh T k K y a x' st'
 | .seq _::K,x,st,x',st'=>Wh T k K x st x' st'
 | .blk id::K,x,st,x',st'=>Wh T k K (if x = .exit id then .normal else x) st x' st'
 | .lp keep b::K,.normal,st,x',st'=> ∃ y a,UG T k (.loop keep b) st y a∧Wh T k K y a x' st'
 | .lp _ _::K,x,st,x',st'=>Wh T k K x st x' st'
def j6f(T:ZH)(k:Nat)(ic:IC)(K:List Fr)(st:St)(b:XE)(st':St):Prop:= ∃ y a,UG T k ic st y a∧Wh T k K y a b st'
def Zh(T:ZH)(k:Nat)(F:St->Prop)(ic:IC)(K:List Fr)(st:St):Prop:= ∃ x st',j6f T k ic K st x st'∧(match x with | .exit _=>false|_=>true)=true∧F st'
inductive Gone where
 | head (keep:List Nat) (b:IC) (K:List Fr) (st:St)
 | done (st:St)
def go(T:ZH):Nat->IC ⊕ XE->List Fr->St->List Bool->Option (Gone×List Bool×Cs)
 | 0,_,_,_,_=>none
 | n+1,.inl ic,K,st,ds=>match ic with
  | .skip=>go T n (.inr .normal) K st ds
  | .reg ps d=>match EA T ps d st ds with
   | none=>none
   | some (st',ds',cs)=>(go T n (.inr .normal) K st' ds').map λ(g,ds'',cs')=>(g,ds'',cs++cs')
  | .seq a b=>go T n (.inl a) (.seq b::K) st ds
  | .cond c a b=>match ev st.env c with
   | .pv (.bool v)=>match ds with
    | []=>none
    | true::ds=>(go T n (.inl a) K ⟨OQ st.env c true,st.heap⟩ ds).map λ(g,ds',cs)=>(g,ds',(v,true)::cs)
    | false::ds=>(go T n (.inl b) K ⟨OQ st.env c false,st.heap⟩ ds).map λ(g,ds',cs)=>(g,ds',(v,false)::cs)
   | _=>none
  | .block id b=>go T n (.inl b) (.blk id::K) st ds
  | .loop keep b=>some (.head keep b K st,ds,[])
  | .exit id=>go T n (.inr (.exit id)) K st ds
  | .ret=>go T n (.inr .ret) K st ds
  | .ext _ _=>none
 | n+1,.inr x,K,st,ds=>match K,x with
  | [],.exit _=>none
  | [],_=>some (.done st,ds,[])
  | .seq b::K,.normal=>go T n (.inl b) K st ds
  | .lp keep b::K,.normal=>some (.head keep b K st,ds,[])
  | .blk id::K,.exit i=>match i==id with
   | true=>go T n (.inr .normal) K st ds
   | false=>go T n (.inr (.exit i)) K st ds
  | _::K,x=>go T n (.inr x) K st ds
def Gone.Good(T:ZH)(k:Nat)(F:St->Prop):Gone->Prop
 | .head keep b K st=>Zh T k F (.loop keep b) K st
 | .done st=>F st
def Od(T:ZH)(k:Nat)(F:St->Prop):IC ⊕ XE->List Fr->St->Prop
 | .inl ic,K,st=>Zh T k F ic K st
 | .inr x,K,st=> ∃ a st',Wh T k K x st a st'∧(match a with | .exit _=>false|_=>true)=true∧F st'
section
variable {T:ZH} {k:Nat} {F:St->Prop}
def Zh.ofX{ic:IC}{K:List Fr}{st a:St}{x:XE}(h:UG T k ic st x a)(b:Od T k F (.inr x) K a):Zh T k F ic K st:=by obtain⟨e,st',h1,h2,h3⟩:=b;exact⟨e,st',⟨x,a,h,h1⟩,h2,h3⟩
def j4g: ∀ (n:Nat) {f:IC ⊕ XE} {K:List Fr} {st:St} {ds s:List Bool} {g:Gone} {cs:Cs},go T n f K st ds=some (g,s,cs)->Gb cs->g.Good T k F->Od T k F f K st:=by
 intro n
 induction n with
 | zero=>intro f K st ds s g cs h;simp[go]at h
 | succ n ih=>
  intro f K st ds s g cs h hc q;cases f with
  | inl ic=>
   cases ic with
   | ext i sl=>simp[go]at h
   | skip=>exact Zh.ofX ⟨0,rfl⟩ (ih h hc q)
   | reg ps d=>
    simp only[go]at h;split at h
    ·cases h
    ·rename_i l ds1 cs1 h1;rw[Cm]at h;obtain⟨⟨E,u,z⟩,h2,h3⟩:=h;simp only[Ia]at h3;obtain⟨rfl,rfl,rfl⟩:=h3;obtain⟨B,D⟩:=Js hc;exact Zh.ofX (x:=.normal) ⟨0,by simp[Vs,a2m h1 B]⟩ (ih h2 D q)
   | seq a b=>
    obtain⟨j,st',⟨y,l,h1,h2⟩,h3,r⟩:=ih h hc q;refine⟨j,st',?_,h3,r⟩;cases y with
    | normal=>obtain⟨J,C,I,H⟩:=h2;exact⟨J,C,h1.seq I,H⟩
    | exit i=>exact⟨_,l,h1.seqx (by simp),h2⟩
    | ret=>exact⟨_,l,h1.seqx (by simp),h2⟩
   | cond c a b=>
    simp only[go]at h;split at h
    ·rename_i v A;split at h
     ·cases h
     ·rw[Cm]at h;obtain⟨⟨E,u,z⟩,h2,h3⟩:=h;simp only[Ia]at h3;obtain⟨rfl,rfl,rfl⟩:=h3;obtain⟨rfl,hc⟩:=hc;rw[UY A]at h2;obtain⟨j,st',⟨y,l,h1,h2⟩,h3,r⟩:=ih h2 hc q;exact⟨j,st',⟨y,l,UG.cond A h1,h2⟩,h3,r⟩
     ·rw[Cm]at h;obtain⟨⟨E,u,z⟩,h2,h3⟩:=h;simp only[Ia]at h3;obtain⟨rfl,rfl,rfl⟩:=h3;obtain⟨rfl,hc⟩:=hc;rw[UY A]at h2;obtain⟨j,st',⟨y,l,h1,h2⟩,h3,r⟩:=ih h2 hc q;exact⟨j,st',⟨y,l,UG.cond A h1,h2⟩,h3,r⟩
    ·cases h
   | block id b=>obtain⟨j,st',⟨y,l,h1,h2⟩,h3,r⟩:=ih h hc q;exact⟨j,st',⟨_,l,h1.block,h2⟩,h3,r⟩
   | loop keep b=>simp only[go,Ic,Ia]at h;obtain⟨rfl,_,_⟩:=h;exact q
   | exit id=>exact Zh.ofX ⟨0,rfl⟩ (ih h hc q)
   | ret=>exact Zh.ofX ⟨0,rfl⟩ (ih h hc q)
  | inr x=>
   cases K with
   | nil=>
    cases x with
    | exit i=>simp[go]at h
    | normal=>simp only[go,Ic,Ia]at h;obtain⟨rfl,_,_⟩:=h;exact⟨_,_,⟨rfl,rfl⟩,rfl,q⟩
    | ret=>simp only[go,Ic,Ia]at h;obtain⟨rfl,_,_⟩:=h;exact⟨_,_,⟨rfl,rfl⟩,rfl,q⟩
   | cons fr K=>
    cases fr with
    | seq b=>
     cases x with
     | normal=>obtain⟨j,st',⟨y,l,h1,h2⟩,h3,r⟩:=ih (f:=.inl b) h hc q;exact⟨j,st',⟨y,l,h1,h2⟩,h3,r⟩
     | exit i=> 
      obtain⟨j,st',h1,h2⟩:=ih (f:=.inr _) (K:=K) (by simpa only[go]using h) hc q;exact⟨j,st',by simpa [Wh]using h1,h2⟩
     | ret=> 
      obtain⟨j,st',h1,h2⟩:=ih (f:=.inr _) (K:=K) (by simpa only[go]using h) hc q;exact⟨j,st',by simpa [Wh]using h1,h2⟩
    | lp keep b=>
     cases x with
     | normal=>simp only[go,Ic,Ia]at h;obtain⟨rfl,_,_⟩:=h;obtain⟨j,st',⟨y,l,h1,h2⟩,h3,r⟩:=q;exact⟨j,st',⟨y,l,h1,h2⟩,h3,r⟩
     | exit i=> 
      obtain⟨j,st',h1,h2⟩:=ih (f:=.inr _) (K:=K) (by simpa only[go]using h) hc q;exact⟨j,st',by simpa [Wh]using h1,h2⟩
     | ret=> 
      obtain⟨j,st',h1,h2⟩:=ih (f:=.inr _) (K:=K) (by simpa only[go]using h) hc q;exact⟨j,st',by simpa [Wh]using h1,h2⟩
    | blk id=>
     cases x with
     | normal=> 
      obtain⟨j,st',h1,h2⟩:=ih (f:=.inr _) (K:=K) (by simpa only[go]using h) hc q;exact⟨j,st',by simpa [Wh]using h1,h2⟩
     | ret=> 
      obtain⟨j,st',h1,h2⟩:=ih (f:=.inr _) (K:=K) (by simpa only[go]using h) hc q;exact⟨j,st',by simpa [Wh]using h1,h2⟩
     | exit i=>
      simp only[go]at h;split at h
      ·rename_i e;have e:i=id:=by simpa using e
       subst e;obtain⟨j,st',h1,h2⟩:=ih (f:=.inr _) h hc q;exact⟨j,st',by simpa [Wh]using h1,h2⟩
      ·rename_i e;have e : ¬ i=id:=by simpa using e
       obtain⟨j,st',h1,h2⟩:=ih (f:=.inr _) h hc q;exact⟨j,st',by simpa [Wh,e]using h1,h2⟩
def Zh.loop{keep:List Nat}{b:IC}{K:List Fr}{st S:St}(e:HZ k keep st=some S)(h:Zh T k F b (.lp keep b::K) S):Zh T k F (.loop keep b) K st:=by
 obtain⟨l,st',⟨y,a,h1,h2⟩,h3,q⟩:=h;refine⟨l,st',?_,h3,q⟩;cases y with
 | normal=>obtain⟨s,g,r,j⟩:=h2;exact⟨s,g,UG.round e h1 r,j⟩
 | exit i=>exact⟨_,a,UG.last e h1 (by simp),h2⟩
 | ret=>exact⟨_,a,UG.last e h1 (by simp),h2⟩
def goG(T:ZH)(k n:Nat)(ic:IC)(K:List Fr)(st:St)(ds:List Bool):Option ((IC×List Fr)×St×Cs):=
 match go T n (.inl ic) K st ds with
 | some (.head keep b K' st',[],cs)=>(HZ k keep st').map λS=>((b,.lp keep b::K'),S,cs)
 | _=>none
def Zh.step{n:Nat}{a:IC×List Fr}{ic:IC}{K:List Fr}{st S:St}{ds:List Bool}{cs:Cs}(h:goG T k n ic K st ds=some (a,S,cs))(hc:Gb cs)(hn:Zh T k F a.1 a.2 S):Zh T k F ic K st:=by
 unfold goG at h;split at h
 ·rename_i keep b K' st' cs' e;rw[Cm]at h;obtain⟨S',h1,h2⟩:=h;simp only[Ia]at h2;obtain⟨rfl,rfl,rfl⟩:=h2;exact j4g n e hc (hn.loop h1)
 ·cases h
def goF(T:ZH)(n:Nat)(ic:IC)(K:List Fr)(st:St)(rs:List IRes)(ds:List Bool):Option (PV×Cs):=
 match go T n (.inl ic) K st ds with
 | some (.done st',[],cs)=>(j6j st' rs).map λ(r,cs')=>(r,cs++cs')
 | _=>none
def c8v{ic:IC}{a:Nat}{rs:List IRes}{ps:List PV}{r:PV}(h:Zh T 0 (λst=>fin st rs=some r) ic [] (Z7 a ps)): ∃ n,d7e T n ic a rs ps=some r:=by
 obtain⟨x,st,⟨y,st1,⟨n,h1⟩,h2⟩,h3,h4⟩:=h;obtain⟨rfl,rfl⟩:=h2;refine⟨n,?_⟩;unfold d7e;rw[show(⟨ps.map .pv++Ip (a - ps.length) .undef,[]⟩:St)=Z7 a ps from rfl,h1];cases y with
 | exit id=>simp at h3
 | _=>simpa using h4
def c0g{ic:IC}{a:Nat}{rs:List IRes}{args:List AV}{os:List AObj}{r:AV×List AObj×List AObj}(h:Zh T os.length (λst=>finO os.length st rs=some r) ic [] (Yr a args os)): ∃ n,a4b T n ic a rs args os=some r:=by
 obtain⟨x,st,⟨y,st1,h1,h2⟩,h3,h4⟩:=h;obtain⟨rfl,rfl⟩:=h2;refine e8a h1 ?_ h4;cases y with
 | exit id=>simp at h3
 | _=>rfl
end
def CQ:IC->List Fr->List (IC×List Fr)
 | .seq a b,K=>CQ a (.seq b::K)++CQ b K
 | .cond _ a b,K=>CQ a K++CQ b K
 | .block id b,K=>CQ b (.blk id::K)
 | .loop keep b,K=>(b,.lp keep b::K)::CQ b (.lp keep b::K)
 | _,_=>[]
def hd(ic:IC)(j:Nat):IC×List Fr:=(CQ ic []).getD j (.skip,[])
def X5:Nat->Nat->List (Nat×AV)->List AV
 | 0,_,_=>[]
 | n+1,i,l=>((l.find? (·.1==i)).map (·.2)).getD .junk::X5 n (i+1) l
def At(T:ZH)(k:Nat)(F:St->Prop)(ic:IC)(j n:Nat)(l:List (Nat×AV))(σ:ZC):Prop:=Zh T k F (hd ic j).1 (hd ic j).2 ⟨X5 n 0 l,σ⟩
end
def d8i:ResultVar->Nat
 | .tmp t=>t
 | .cell a _=>a
def a4i(P:Program)(f:Func):Option IC:=(f.body.bind (UE P)).map λx=>(DX [] (f.results.toList.map d8i) x []).1
def b3g{P:Program}{f:Func}{ic:IC}(h:a4i P f=some ic): ∃ cd,f.body=some cd∧Tr P cd ic:=by unfold a4i at h;rw[Cm]at h;obtain⟨x,h1,rfl⟩:=h;rw[Ib]at h1;obtain⟨cd,h2,h3⟩:=h1;exact⟨cd,h2,c5b (PD h3) _ _ _⟩
def SS{P:Program}{T:ZH}{f:Nat}{fn:Func}{ic:IC}{rs:List IRes}{pre:List PV->Bool}{val:List PV->PV}(j:Xa P T)(a:P.follows .mixedOrders)(l:P.funcs[f]? = some fn)(e:a4i P fn=some ic)
  (b:Vj (WR P) fn.results.toList=some rs) {i:Nat} (g:fn.ntmps=i) (h : ∀ ps,pre ps->Zh T 0 (λst=>fin st rs=some (val ps)) ic [] (Z7 i ps)):W9 P f pre val:=by
 obtain⟨cd,h1,h2⟩:=b3g e;subst g;exact g8d j a l h1 h2 b λps k=>c8v (h ps k)
def i5a{P:Program}{T:ZH}{f:Nat}{fn:Func}{ic:IC}{rs:List IRes}{pre:List AV->List AObj->Bool}{val:List AV->List AObj->AV×List AObj×List AObj}(j:Xa P T)(a:P.follows .mixedOrders)(l:P.funcs[f]? = some fn)(e:a4i P fn=some ic)
  (b:Vj (WR P) fn.results.toList=some rs) {i:Nat} (g:fn.ntmps=i) (h : ∀ args os,pre args os->Zh T os.length (λst=>finO os.length st rs=some (val args os)) ic [] (Yr i args os)):YP P f pre val:=by
 obtain⟨cd,h1,h2⟩:=b3g e;subst g;exact i7r j a l h1 h2 b λargs os k=>c0g (h args os k)
def YT(l:List (Nat×Den)):ZH:=λf=>(l.find? (λp=>p.1==f)).map (·.2)
structure EntOK (P:Program) (f:Nat) (D:Den):Prop where
 fn : ∃ fn,P.funcs[f]? = some fn∧fn.body.isSome∧(fn.name == "runtime.NumGoroutine")=false
 den:e1j P f D
def Zd{P:Program}:Xa P (YT []):=λf D h=>by simp[YT]at h
def f4s{P:Program}{f:Nat}{D:Den}{l:List (Nat×Den)}(h:EntOK P f D)(k:Xa P (YT l)):Xa P (YT ((f,D)::l)):=by
 intro g E a;simp only[YT,List.find?_cons]at a;split at a
 ·rename_i e;simp only[Ir,Ic]at a;have e:f=g:=by simpa using e
  subst e a;exact⟨h.fn,h.den⟩
 ·exact k g E a
def ent{P:Program}{f:Nat}{D:Den}{fn:Func}(hf:P.funcs[f]? = some fn)(hb:(fn.body.isSome&& !(fn.name == "runtime.NumGoroutine"))=true)(h:e1j P f D):EntOK P f D:=by simp only[Ih,bK]at hb;exact⟨⟨fn,hf,hb.1,hb.2⟩,h⟩
def Xf{n:Int}(h1 : -9223372036854775808<=n)(h2:n<=9223372036854775807):IntKind.i64.wrap n=n:=by unfold IntKind.wrap;simp[IntKind.bits,IntKind.signed];split <;> omega
def nums(ns:List Int):List PV:=ns.map (.int .i64)
@[simp] theorem OG (ns : List Int) : (nums ns).length = ns.length := by simp [nums]
@[simp] theorem j1g : nums [] = [] := rfl
@[simp] theorem Wu (ns : List Int) : (nums ns).map PV.asInt = ns := by
 induction ns with
 | nil=>rfl
 | cons n ns ih=>exact congrArg (n:: ·) ih
def PV.isNum:PV->Bool
 | .int .i64 _=>true
 | _=>false
@[simp] theorem g5t (ns : List Int) : (nums ns).all PV.isNum = true := by
 induction ns with
 | nil=>rfl
 | cons n ns ih=>exact ih
def a0h(ns:List Int)(v:Int):((nums ns).any λx=>x.asInt==v)=ns.any (· == v):=by simp[nums,List.any_map,aN,PV.asInt]
def Eu{xs:List PV}(h:xs.all PV.isNum): ∃ ns,xs=nums ns:=by
 induction xs with
 | nil=>exact⟨[],rfl⟩
 | cons x xs ih=>
  simp only[cO,Ih]at h;obtain⟨ns,rfl⟩:=ih h.2;cases x with
  | int k n=>cases k <;> first|exact⟨n::ns,rfl⟩|simp[PV.isNum]at h
  | _=>simp[PV.isNum]at h
def h0u{ns:List Int}{k:Nat}(h:k<ns.length):(nums ns).getD k default = .int .i64 ns[k]:=by simp[nums,bG,h]
def Ad{ns:List Int}{k:Nat}(h:k<ns.length):(nums ns).getD (k:Int).toNat default = .int .i64 ns[k]:=by rw[Int.toNat_natCast];exact h0u h
def next{k:Nat}(h:k<9223372036854775807):IntKind.i64.wrap ((k:Int)+1)=((k+1:Nat):Int):=by rw[Xf (by omega) (by omega)];omega
inductive Sub:PV->PV->Prop
 | refl (p:PV):Sub p p
 | nil (sz sz':Nat) (t t':Bool) (h:t'->t):Sub (.sl sz t []) (.sl sz' t' [])
 | cap (sz:Nat) (xs:List PV):Sub (.sl sz true xs) (.sl sz false xs)
 | agg (xs ys:List PV) (hn:xs.length=ys.length) (h : ∀ (j:Nat) x y,xs[j]? = some x->ys[j]? = some y->Sub x y):Sub (.agg xs) (.agg ys)
 | tup (xs ys:List PV) (hn:xs.length=ys.length) (h : ∀ (j:Nat) x y,xs[j]? = some x->ys[j]? = some y->Sub x y):Sub (.tup xs) (.tup ys)
def RP.sub{Φ:Yk}{p q:PV}(h:Sub p q): ∀ {v:Value},RP Φ v p->RP Φ v q:=by
 induction h with
 | refl p=>intro v h;exact h
 | nil sz sz' t t' h=>
  intro v k;cases k with
  | sl0 a c _ _ ht=>exact .sl0 a c sz' t' λe=>ht (h e)
  | sl b off cs c _ _ _ u hb hc ht hs hu hr=>exact .sl0 _ c sz' t' λe=>ht (h e)
 | cap sz xs=>
  intro v k;cases k with
  | sl0 a c _ _ ht=>exact .sl0 a c sz false λe=>by cases e
  | sl b off cs c _ _ _ u hb hc ht hs hu hr=>exact .sl b off cs c sz false xs u hb hc (λe=>by cases e) hs hu hr
 | agg xs ys hn h ih=>
  intro v k;cases k with
  | agg cs _ hn' ho hr=>
   refine .agg cs ys (hn'.trans hn) ho λj v y l i=> ?_
   have g:j<xs.length:=by rw[hn];exact(Ig.1 i).1
   exact ih j _ _ (Ie g) i (hr j v _ l (Ie g))
 | tup xs ys hn h ih=>
  intro v k;cases k with
  | tup cs _ hn' hr=>
   refine .tup cs ys (hn'.trans hn) λj v y l i=> ?_
   have g:j<xs.length:=by rw[hn];exact(Ig.1 i).1
   exact ih j _ _ (Ie g) i (hr j v _ l (Ie g))
def Sub.sl(sz:Nat)(t:Bool)(xs:List PV):Sub (.sl sz t xs) (.sl sz false xs):=by cases t;exact .refl _;exact .cap _ _
def Sub.sl0(sz sz':Nat)(t:Bool):Sub (.sl sz t []) (.sl sz' false []):=.nil _ _ _ _ λe=>by cases e
def W9.sub{P:Program}{f:Nat}{pre a:List PV->Bool}{val b:List PV->PV}(h:W9 P f pre val)(k : ∀ ps,a ps->pre ps)(l : ∀ ps,a ps->Sub (val ps) (b ps)):W9 P f a b:=by intro ps hps Φ w vs g h1 h2;refine(h ps (k ps hps) Φ w vs g h1 h2).mono ?_;rintro e w' ⟨v,Φ',rfl,r,j,i,q⟩;exact⟨v,Φ',rfl,r,j,i.sub (l ps hps),q⟩
def YP.congr{P:Program}{f:Nat}{pre b:List AV->List AObj->Bool}{val e:List AV->List AObj->AV×List AObj×List AObj}(h1:YP P f pre val)(j : ∀ a o,b a o->pre a o)(h : ∀ a o,b a o->val a o=e a o):YP P f b e:=λargs os x g ext k i=>h1 args os x g ext (j _ _ k) ((h _ _ k).trans i)
def h9o:AV->Bool
 | .ptr _ _=>true
 | .fn _ (_::_) _=>true
 | .fn _ _ (_::_)=>true
 | _=>false
def Oj:List Nat->HM Unit
 | []=>.ret ()
 | l::ls=>.get l fun
  | .box xs=>match xs.any h9o with
   | true=>Oj ls
   | false=>(Jg xs).bind λps=>.put l (.box (ps.map .pv)) (Oj ls)
  | _=>Oj ls
def Good.rebox{c:Ctx}{μ:Mu}{Φ:Yk}{σ:ZC}{w:World}{l:Nat}{xs ys:List AV}(h:Good c μ Φ σ w)(ho:σ[l]? = some (.obj (.box xs)))(y : ∀ (B C S T:Nat) (cs:Array Value),μ l 0=some (B,C,S)->w.heap[B]? = some (.cells cs T (0,0))->RL μ Φ cs.toList xs->RL μ Φ cs.toList ys):Good c μ Φ (σ.set l (.obj (.box ys))) w:=by
 have j:l<σ.length:=(Ig.1 ho).1;have b : ∀ l' o',(σ.set l (.obj (.box ys)))[l']? = some (.obj o')-> ∃ o,σ[l']? = some (.obj o)∧blk μ l' o=blk μ l' o':=by
  intro l' o' a;by_cases e:l=l'
  ·subst e;rw[IJ j]at a;cases a;exact⟨_,ho,rfl⟩
  ·rw[Iy e]at a;exact⟨_,a,rfl⟩
 refine⟨h.phi,?_,?_,?_,?_,h.os,h.tape,h.output,h.size,h.frame,h.Φle,h.μle,h.dom,h.laid⟩
 ·intro l' o' a;by_cases e:l=l'
  ·subst e;rw[IJ j]at a;cases a;obtain⟨B,C,S,T,cs,k1,q,k3,u,z⟩:=h.obj _ _ ho;exact⟨B,C,S,T,cs,k1,q,y B C S T cs k1 q k3,u,z⟩
  ·rw[Iy e]at a;exact h.obj _ _ a
 ·intro l1 l2 o1 o2 i h1 h2;obtain⟨A,k,g⟩:=b _ _ h1;obtain⟨p2,s,r⟩:=b _ _ h2;rw[<- g,<- r];exact h.apart _ _ _ _ i k s
 ·intro l' n a;refine h.fresh l' n ?_;by_cases e:l=l'
  ·subst e;rw[IJ j]at a;rcases a with a|a <;> cases a
  ·rwa [Iy e]at a
 ·intro l' o' a;obtain⟨A,k,g⟩:=b _ _ a;rw[<- g];exact h.own _ _ k
def b0h: ∀ (xs:List AV) {σ g:ZC} {ps:List PV} {l:Nat} {ys:List AV},(Jg xs).run σ=some (ps,g)->σ[l]? = some (.obj (.box ys))->g[l]? = some (.obj (.box ys)):=by
 have q : ∀ (x:AV) {σ g:ZC} {p:PV} {l:Nat} {ys:List AV},(frz x).run σ=some (p,g)->σ[l]? = some (.obj (.box ys))->g[l]? = some (.obj (.box ys)):=by
  refine λx=>AV.rec (motive_1:=λx=> ∀ {σ g:ZC} {p:PV} {l:Nat} {ys:List AV},(frz x).run σ=some (p,g)->σ[l]? = some (.obj (.box ys))->g[l]? = some (.obj (.box ys)))
   (motive_2:=λxs=> ∀ {σ g:ZC} {ps:List PV} {l:Nat} {ys:List AV},(Jg xs).run σ=some (ps,g)->σ[l]? = some (.obj (.box ys))->g[l]? = some (.obj (.box ys))) ?_ ?_ ?_ ?_ ?_ ?_ ?_ ?_ ?_ ?_ ?_ ?_ ?_ x
  ·intro p σ g i l ys h ho;simp only[frz,Iq,Ic,Ia]at h;obtain⟨_,rfl⟩:=h;exact ho
  ·intro σ g i l ys h ho;simp[frz,Iq]at h
  ·intro σ g i l ys h ho;simp[frz,Iq]at h
  ·intro xs j σ g i l ys h ho;simp only[frz,aI,Ib,Iq,Ic,Ia]at h;obtain⟨⟨ps,σ1⟩,h1,_,rfl⟩:=h;exact j h1 ho
  ·intro xs j σ g i l ys h ho;simp only[frz,aI,Ib,Iq,Ic,Ia]at h;obtain⟨⟨ps,σ1⟩,h1,_,rfl⟩:=h;exact j h1 ho
  ·intro a b σ g i l ys h ho;simp[frz,Iq]at h
  ·intro r n lo hi σ g i l ys h ho;simp only[frz,Iq]at h;split at h
   ·rename_i o k;cases o with
    | box=>simp[Iq]at h
    | map=>simp[Iq]at h
    | row fz ty sz xs=>
     simp only[Iq]at h;split at h
     ·rw[k]at h;simp only[Iq,Ic,Ia]at h;obtain⟨_,rfl⟩:=h;by_cases e:r=l
      ·subst e;rw[k]at ho;cases ho
      ·rw[Iy e];exact ho
     ·cases h
   ·cases h
  ·intro a b c d σ g i l ys h ho;simp[frz,Iq]at h
  ·intro a σ g i l ys h ho;simp[frz,Iq]at h
  ·intro f fst cap h1 h2 σ g i l ys h ho;cases fst with
   | nil=>cases cap with
    | nil=>simp only[frz,Iq,Ic,Ia]at h;obtain⟨_,rfl⟩:=h;exact ho
    | cons=>simp[frz,Iq]at h
   | cons=>simp[frz,Iq]at h
  ·intro a σ g i l ys h ho;simp[frz,Iq]at h
  ·intro σ g i l ys h ho;simp only[Jg,Iq,Ic,Ia]at h;obtain⟨_,rfl⟩:=h;exact ho
  ·intro x xs s u σ g i l ys h ho;simp only[Jg,aI,Ib,Iq,Ic,Ia]at h;obtain⟨⟨p,σ1⟩,h1,⟨ps,σ2⟩,h2,_,rfl⟩:=h;exact u h2 (s h1 ho)
 intro xs
 induction xs with
 | nil=>intro σ g ps l ys h ho;simp only[Jg,Iq,Ic,Ia]at h;obtain⟨_,rfl⟩:=h;exact ho
 | cons x xs j=>intro σ g ps l ys h ho;simp only[Jg,aI,Ib,Iq,Ic,Ia]at h;obtain⟨⟨p,σ1⟩,h1,⟨qs,σ2⟩,h2,_,rfl⟩:=h;exact j h2 (q x h1 ho)
def g2l{c:Ctx}{μ:Mu}{w:World}: ∀ (ls:List Nat) {Φ:Yk} {σ e:ZC},(Oj ls).run σ=some ((),e)->Good c μ Φ σ w-> ∃ Φ',Φ.le Φ'∧Good c μ Φ' e w:=by
 intro ls
 induction ls with
 | nil=>intro Φ σ e h hg;simp only[Oj,Iq,Ic,Ia,gJ]at h;subst h;exact⟨Φ,Yk.le.refl _,hg⟩
 | cons l ls ih=>
  intro Φ σ e h hg;simp only[Oj,Iq]at h;split at h
  ·rename_i o ho;cases o with
   | row=>exact ih h hg
   | map=>exact ih h hg
   | box xs=>
    cases hb:xs.any h9o with
    | true=>simp only[hb]at h;exact ih h hg
    | false=>
    simp only[hb,aI,Ib]at h;obtain⟨⟨ps,σ1⟩,h1,h2⟩:=h;simp only[Iq,b0h xs h1 ho]at h2;obtain⟨B,C,S,T,cs,k1,r,k3,k4,k5⟩:=hg.obj _ _ ho;obtain⟨Φ1,hle,hg1,hR⟩:=Kr xs h1 hg k3;have g:Good c μ Φ1 (σ1.set l (.obj (.box (ps.map .pv)))) w:=by
     refine hg1.rebox (b0h xs h1 ho) λB' C' S' T' cs' b a _=> ?_
     rw[k1]at b;cases b;rw[r]at a;cases a
     exact⟨by simpa using hR.1,λj v x k i=>by
      rw[Im]at i;obtain⟨p,q,rfl⟩:=Cm.1 i
      exact .pv _ _ (hR.2 j v p k q)⟩
    obtain⟨Φ2,hle2,hg3⟩:=ih h2 g;exact⟨Φ2,hle.trans hle2,hg3⟩
  ·cases h
def c9l(k:Nat)(st:St)(rs:List IRes):Option (AV×List AObj×List AObj):=(Vj (E9 st) rs).bind λvs=>((Jg vs).run st.heap).bind λ(qs,σ1)=>((Oj (Iw k)).run σ1).bind λ(_,σ)=>(OD k (Dh 256 (Iw k) [] σ) [] σ).map λ(_,os)=>(.pv (OJ qs),os.take k,os.drop k)
def h5x{P:Program}{T:ZH}{f:Nat}{fn:Func}{cd:Code}{ic:IC}{rs:List IRes}{pre:List AV->List AObj->Bool}{val:List AV->List AObj->AV×List AObj×List AObj}(S:Xa P T)(z:P.follows .mixedOrders)(U:P.funcs[f]? = some fn)(hb:fn.body=some cd)(H:Tr P cd ic)
  (F:Vj (WR P) fn.results.toList=some rs) (h : ∀ args os,pre args os-> ∃ x st,UG T os.length ic (Yr fn.ntmps args os) x st∧(match x with | .exit _=>false|_=>true)=true∧ ∃ p E b ext,c9l os.length st rs=some (.pv p,b,ext)∧Sub p E∧val args os=(.pv E,b,ext)):YP P f pre val:=by
 intro args os x b ext s B;obtain⟨y,st,⟨n,hc⟩,hy,p,E,os1,ext1,hfin,hsub,hval'⟩:=h args os s;rw[B]at hval';simp only[Ia]at hval';obtain⟨rfl,rfl,rfl⟩:=hval';unfold c9l at hfin;simp only[Ib,Cm]at hfin;obtain⟨xs,hxs,⟨qs,σ0⟩,hfz,⟨u0,σ1⟩,hfb,⟨ys,D⟩,hpk,e⟩:=hfin;simp only[Ia,AV.pv.injEq]at e;obtain⟨rfl,rfl,rfl⟩:=e;obtain⟨I,hlen2⟩:=Mf hpk;refine⟨by simp;omega,?_⟩;intro μ Φ w vs Q A;refine calls_of_wp U hb ?_;have k:vs.size=args.length:=by have:=A.1;simpa using this
 have g:UK (Y7 μ Φ (XC os) w) ⟨args++Ip (fn.ntmps - args.length) .undef,XC os⟩ {tmps:=vs++IR (fn.ntmps - vs.size) undef,defers:=[]} w:=by refine⟨μ,Φ,Q,?_,rfl⟩;show RL _ _ _ _;rw[IZ,IV,k];exact A.append (Vy _)
 have O : ∀ i m,os.length<=i->(Y7 μ Φ (XC os) w).μ0 i m=none:=by intro i m hi;refine Q.fresh i m (.inl ?_);rw[Ik];simp[XC];exact hi
 refine wp_mono (b7b S z O H hc g) ?_;rintro e a' w' ⟨rfl,μ',Φ',l,K,hd'⟩;have done:a'.defers=[]∧ ∃ v,(results fn a'.tmps).run P w' = .ok v w'∧ ∃ v' C r,I7 v = .returned v'∧Good (Y7 μ Φ (XC os) w) C r (XC (D.take os.length++D.drop os.length)) w'∧R C r v' (.pv E):=by
  refine⟨hd',?_⟩;obtain⟨N,L,M⟩:=Ga l K F hxs;obtain⟨Φ0,hle0,hg0,hR0⟩:=Kr xs hfz l M;obtain⟨Φ1,hle1,hg1⟩:=g2l _ hfb hg0;have a:=hR0.mono hle1;have J:Wy μ' Φ1 (#[]:Array Value) ([]:List AV):=⟨rfl,λj v x h=>by simp at h⟩
  obtain⟨k1,k2⟩:=Qb O hg1 J I;refine⟨_,L,_,μ'.ren (Dh 256 (Iw os.length) [] σ1),Φ1,rfl,?_,?_⟩
  ·rw[IW];exact k1
  ·refine .pv _ _ (RP.sub hsub ?_)
   match N,qs,a with
   | [],[],_=>exact .tup _ _ rfl (λj v x h=>by simp at h)
   | [u],[q],a=>exact a.2 0 u q rfl rfl
   | V::u2::N,q1::q2::qs,a=>
    have e : ¬ ((V::u2::N).toArray.size=1):=by simp
    rw[gV e];exact .tup _ _ (by have:=a.1;simpa using this) (λj v x W X=>a.2 j v x (by simpa using W) X)
   | [],_::_,a=>have:=a.1;simp at this
   | _::_,[],a=>have:=a.1;simp at this
   | [_],_::_::_,a=>have:=a.1;simp at this
   | _::_::_,[_],a=>have:=a.1;simp at this
 cases y with
 | normal=>exact done
 | ret=>exact done
 | exit id=>cases hy
def h5q{P:Program}{T:ZH}{f:Nat}{fn:Func}{ic:IC}{rs:List IRes}{pre:List AV->List AObj->Bool}{val:List AV->List AObj->AV×List AObj×List AObj}(l:Xa P T)(b:P.follows .mixedOrders)(A:P.funcs[f]? = some fn)(i:a4i P fn=some ic)
  (g:Vj (WR P) fn.results.toList=some rs) {k:Nat} (j:fn.ntmps=k) (h : ∀ args os,pre args os-> ∃ p e a ext,Zh T os.length (λst=>c9l os.length st rs=some (.pv p,a,ext)) ic [] (Yr k args os)∧Sub p e∧val args os=(.pv e,a,ext)):YP P f pre val:=by
 obtain⟨cd,h1,h2⟩:=b3g i;subst j;refine h5x l b A h1 h2 g λargs os u=> ?_
 obtain⟨p,e,a,ext,⟨x,st,⟨y,st1,r,s⟩,q,B⟩,hs,z⟩:=h args os u;obtain⟨rfl,rfl⟩:=s;exact⟨_,_,r,q,p,e,a,ext,B,hs,z⟩
inductive Mk where
 | nil|lit (m:Mk)|ask (a b:Mk)|req (m:Mk)|ans (d:Bool) (m:Mk)
def HM.w{α:Type}:HM α->ZC->List Nat->List Nat->Mk->(α->ZC->List Nat->List Nat->Mk->Prop)->Prop
 | .ret a,σ,R,W,m,k=>k a σ R W m
 | .fail,_,_,_,_,_=>False
 | .get l f,σ,R,W,m,k=>match σ[l]? with|some (.obj o)=>(f o).w σ (R++[l]) W m k|_=>False
 | .put l o f,σ,R,W,m,k=>match σ[l]? with|some (.obj _)=>f.w (σ.set l (.obj o)) R (W++[l]) m k|_=>False
 | .new l o f,σ,R,W,m,k=>match σ[l]? with|some .fresh=>f.w (σ.set l (.obj o)) R (W++[l]) m k|_=>False
 | .ask b f,σ,R,W,m,k=>match m with
  | .ask m1 m2=>if b=true then(f true).w σ R W m1 k else(f false).w σ R W m2 k
  | .lit m=>match b with|true=>(f true).w σ R W m k|false=>(f false).w σ R W m k
  | .ans d m=>b=d∧(f d).w σ R W m k
  | _=>False
 | .req b f,σ,R,W,m,k=>match m with
  | .req m=>b=true∧f.w σ R W m k
  | .lit m=>match b with|true=>f.w σ R W m k|false=>False
  | _=>False
def HM.w_ok{α:Type}(h:HM α): ∀ {σ:ZC} {R W:List Nat} {m:Mk} {k:α->ZC->List Nat->List Nat->Mk->Prop},h.w σ R W m k-> ∃ a e R' W' g,h.runF σ=some (a,e,R',W')∧k a e (R++R') (W++W') g:=by
 induction h with
 | ret a=>intro σ R W m k h;exact⟨a,σ,[],[],m,rfl,by simp only[aV];exact h⟩
 | fail=>intro σ R W m k h;exact h.elim
 | get l f ih=>
  intro σ R W m k h;simp only[HM.w]at h;split at h
  ·rename_i o ho;obtain⟨a,e,R',W',g,h1,h2⟩:=ih o h;exact⟨a,e,l::R',W',g,by simp[IB,ho,h1],by simpa using h2⟩
  ·exact h.elim
 | put l o f ih=>
  intro σ R W m k h;simp only[HM.w]at h;split at h
  ·rename_i o' ho;obtain⟨a,e,R',W',g,h1,h2⟩:=ih h;exact⟨a,e,R',l::W',g,by simp[IB,ho,h1],by simpa using h2⟩
  ·exact h.elim
 | new l o f ih=>
  intro σ R W m k h;simp only[HM.w]at h;split at h
  ·rename_i ho;obtain⟨a,e,R',W',g,h1,h2⟩:=ih h;exact⟨a,e,R',l::W',g,by simp[IB,ho,h1],by simpa using h2⟩
  ·exact h.elim
 | ask b f ih=>
  intro σ R W m k h;cases m with
  | ask m1 m2=>
   simp only[HM.w]at h;cases b with
   | true=>rw[fw rfl]at h;obtain⟨a,e,R',W',g,h1,h2⟩:=ih true h;exact⟨a,e,R',W',g,by simpa [IB]using h1,h2⟩
   | false=>rw[fo (by simp)]at h;obtain⟨a,e,R',W',g,h1,h2⟩:=ih false h;exact⟨a,e,R',W',g,by simpa [IB]using h1,h2⟩
  | lit m=>
   cases b with
   | true=>obtain⟨a,e,R',W',g,h1,h2⟩:=ih true h;exact⟨a,e,R',W',g,by simpa [IB]using h1,h2⟩
   | false=>obtain⟨a,e,R',W',g,h1,h2⟩:=ih false h;exact⟨a,e,R',W',g,by simpa [IB]using h1,h2⟩
  | ans d m=>obtain⟨rfl,h⟩:=h;obtain⟨a,e,R',W',g,h1,h2⟩:=ih _ h;exact⟨a,e,R',W',g,by simpa [IB]using h1,h2⟩
  | nil=>exact h.elim
  | req m=>exact h.elim
 | req b f ih=>
  intro σ R W m k h;cases m with
  | req m=>obtain⟨rfl,h⟩:=h;obtain⟨a,e,R',W',g,h1,h2⟩:=ih h;exact⟨a,e,R',W',g,by simpa [IB]using h1,h2⟩
  | lit m=>
   cases b with
   | true=>obtain⟨a,e,R',W',g,h1,h2⟩:=ih h;exact⟨a,e,R',W',g,by simpa [IB]using h1,h2⟩
   | false=>exact h.elim
  | nil=>exact h.elim
  | ask m1 m2=>exact h.elim
  | ans d m=>exact h.elim
def f3c(T:ZH)(a:Nat)(p:PI)(st:St)(m:Mk)(k:St->List Nat->List Nat->Mk->Prop):Prop:=
 match p.gd with
 | none=>(VJ T (a+p.L) st.env p.op).w st.heap [] [] m λv σ R W m=>k ⟨Y3 st.env p.dst v,σ⟩ R W m
 | some (s,b)=>match st.env[s]? with
  | some (.pv (.bool v))=>match m with
   | .ask m1 m2=>if v=true
    then(match true==b with
     | true=>(VJ T (a+p.L) (st.env.set s (.pv (.bool true))) p.op).w st.heap [] [] m1 λv σ R W m=>k ⟨Y3 (st.env.set s (.pv (.bool true))) p.dst v,σ⟩ R W m
     | false=>k ⟨Y3 (st.env.set s (.pv (.bool true))) p.dst .undef,st.heap⟩ [] [] m1)
    else(match false==b with
     | true=>(VJ T (a+p.L) (st.env.set s (.pv (.bool false))) p.op).w st.heap [] [] m2 λv σ R W m=>k ⟨Y3 (st.env.set s (.pv (.bool false))) p.dst v,σ⟩ R W m
     | false=>k ⟨Y3 (st.env.set s (.pv (.bool false))) p.dst .undef,st.heap⟩ [] [] m2)
   | .lit m=>match v==b with
    | true=>(VJ T (a+p.L) st.env p.op).w st.heap [] [] m λv σ R W m=>k ⟨Y3 st.env p.dst v,σ⟩ R W m
    | false=>k ⟨Y3 st.env p.dst .undef,st.heap⟩ [] [] m
   | .ans d m=>v=d∧(match d==b with
     | true=>(VJ T (a+p.L) (st.env.set s (.pv (.bool d))) p.op).w st.heap [] [] m λv σ R W m=>k ⟨Y3 (st.env.set s (.pv (.bool d))) p.dst v,σ⟩ R W m
     | false=>k ⟨Y3 (st.env.set s (.pv (.bool d))) p.dst .undef,st.heap⟩ [] [] m)
   | _=>False
  | some .undef=>k ⟨Y3 st.env p.dst .undef,st.heap⟩ [] [] m
  | _=>False
def SI{env:List AV}{s:Nat}{v:AV}(h:env[s]? = some v):env.set s v=env:=by
 apply I5;intro j;rw[aM];split
 ·rename_i e;subst e;rw[fw (Ig.1 h).1,h]
 ·rfl
def f2n{T:ZH}{l:Nat}{p:PI}{st:St}{m:Mk}{k:St->List Nat->List Nat->Mk->Prop}(h:f3c T l p st m k): ∃ st' R W i,Vw T l p st=some (st',R,W)∧k st' R W i:=by
 unfold f3c at h;unfold Vw;split at h
 ·rename_i j;obtain⟨a,σ',R',W',i,h1,h2⟩:=HM.w_ok _ h;exact⟨⟨Y3 st.env p.dst a,σ'⟩,R',W',i,by simp[WF,j,h1],by simpa using h2⟩
 ·rename_i s b j;split at h
  ·rename_i v g;split at h
   ·rename_i m1 m2;cases v with
    | true=>
     rw[fw rfl,SI g]at h;split at h
     ·rename_i e;obtain⟨a,σ',R',W',i,h1,h2⟩:=HM.w_ok _ h;exact⟨⟨Y3 st.env p.dst a,σ'⟩,R',W',i,by simp[WF,j,g,e,h1],by simpa using h2⟩
     ·rename_i e;exact⟨⟨Y3 st.env p.dst .undef,st.heap⟩,[],[],_,by simp[WF,j,g,e],h⟩
    | false=>
     rw[fo (by simp),SI g]at h;split at h
     ·rename_i e;obtain⟨a,σ',R',W',i,h1,h2⟩:=HM.w_ok _ h;exact⟨⟨Y3 st.env p.dst a,σ'⟩,R',W',i,by simp[WF,j,g,e,h1],by simpa using h2⟩
     ·rename_i e;exact⟨⟨Y3 st.env p.dst .undef,st.heap⟩,[],[],_,by simp[WF,j,g,e],h⟩
   ·split at h
    ·rename_i e;obtain⟨a,σ',R',W',i,h1,h2⟩:=HM.w_ok _ h;exact⟨⟨Y3 st.env p.dst a,σ'⟩,R',W',i,by simp only[WF,j,g,e];simp[h1],by simpa using h2⟩
    ·rename_i e;exact⟨⟨Y3 st.env p.dst .undef,st.heap⟩,[],[],_,by simp only[WF,j,g,e],h⟩
   ·obtain⟨rfl,h⟩:=h;rw[SI g]at h;split at h
    ·rename_i e;obtain⟨a,σ',R',W',i,h1,h2⟩:=HM.w_ok _ h;exact⟨⟨Y3 st.env p.dst a,σ'⟩,R',W',i,by simp only[WF,j,g,e];simp[h1],by simpa using h2⟩
    ·rename_i e;exact⟨⟨Y3 st.env p.dst .undef,st.heap⟩,[],[],_,by simp only[WF,j,g,e],h⟩
   ·exact h.elim
  ·rename_i g;exact⟨⟨Y3 st.env p.dst .undef,st.heap⟩,[],[],m,by simp[WF,j,g],h⟩
  ·exact h.elim
def h6o(T:ZH)(a:Nat):List (Nat×PI)->St->List FP->Mk->(St->List FP->Mk->Prop)->Prop
 | [],st,tr,m,k=>k st tr m
 | (i,p)::r,st,tr,m,k=>f3c T a p st m λst R W m=>h6o T a r st (tr++[(i,R,W)]) m k
def g8q{T:ZH}{a:Nat}: ∀ {l:List (Nat×PI)} {st:St} {e:List FP} {m:Mk} {k:St->List FP->Mk->Prop},h6o T a l st e m k-> ∃ st' b s,runF T a l st=some (st',b)∧k st' (e++b) s:=by
 intro l
 induction l with
 | nil=>intro st e m k h;exact⟨st,[],m,rfl,by simpa [h6o]using h⟩
 | cons q l ih=>intro st e m k h;obtain⟨i,p⟩:=q;obtain⟨st1,R,W,m1,h1,h2⟩:=f2n h;obtain⟨j,g,r,h3,u⟩:=ih h2;exact⟨j,(i,R,W)::g,r,by simp[runF,h1,h3],by simpa using u⟩
def j2a(T:ZH)(ps:List PI)(deps:Option (List (List Nat)))(st:St)(m:Mk)(k:St->Mk->Prop):Prop:=
 h6o T st.heap.length (CZ ps) (grow st (news ps)) [] m λst a m=>match deps with
  | none=>k st m
  | some d=>match b1k d a with|true=>k st m|false=>False
def g6z{T:ZH}{ps:List PI}{deps:Option (List (List Nat))}{st:St}{m:Mk}{k:St->Mk->Prop}(h:j2a T ps deps st m k): ∃ st' e,K8 T ps deps st=some st'∧k st' e:=by
 obtain⟨a,tr,b,h1,h2⟩:=g8q h;rw[aW]at h2;split at h2
 ·have:=a4a h1;rw[Af]at this;exact⟨a,b,this,h2⟩
 ·rename_i d;split at h2
  ·rename_i ht;exact⟨a,b,by simp[K8,h1,ht],h2⟩
  ·exact h2.elim
def goW(T:ZH):Nat->IC ⊕ XE->List Fr->St->Mk->(Gone->Mk->Prop)->Prop
 | 0,_,_,_,_,_=>False
 | n+1,.inl ic,K,st,m,k=>match ic with
  | .skip=>goW T n (.inr .normal) K st m k
  | .reg ps d=>j2a T ps d st m λst m=>goW T n (.inr .normal) K st m k
  | .seq a b=>goW T n (.inl a) (.seq b::K) st m k
  | .cond c a b=>match ev st.env c with
   | .pv (.bool v)=>match m with
    | .ask m1 m2=>if v=true then goW T n (.inl a) K ⟨OQ st.env c true,st.heap⟩ m1 k else goW T n (.inl b) K ⟨OQ st.env c false,st.heap⟩ m2 k
    | .lit m=>match v with
     | true=>goW T n (.inl a) K st m k
     | false=>goW T n (.inl b) K st m k
    | .ans d m=>v=d∧(match d with
     | true=>goW T n (.inl a) K ⟨OQ st.env c true,st.heap⟩ m k
     | false=>goW T n (.inl b) K ⟨OQ st.env c false,st.heap⟩ m k)
    | _=>False
   | _=>False
  | .block id b=>goW T n (.inl b) (.blk id::K) st m k
  | .loop keep b=>k (.head keep b K st) m
  | .exit id=>goW T n (.inr (.exit id)) K st m k
  | .ret=>goW T n (.inr .ret) K st m k
  | .ext _ _=>False
 | n+1,.inr x,K,st,m,k=>match K,x with
  | [],.exit _=>False
  | [],_=>k (.done st) m
  | .seq b::K,.normal=>goW T n (.inl b) K st m k
  | .lp keep b::K,.normal=>k (.head keep b K st) m
  | .blk id::K,.exit i=>match i==id with
   | true=>goW T n (.inr .normal) K st m k
   | false=>goW T n (.inr (.exit i)) K st m k
  | _::K,x=>goW T n (.inr x) K st m k
def i9f{T:ZH}{s:Nat}{F:St->Prop}{P:Gone->Mk->Prop}(r : ∀ g m,P g m->g.Good T s F): ∀ (n:Nat) {f:IC ⊕ XE} {K:List Fr} {st:St} {m:Mk},goW T n f K st m P->Od T s F f K st:=by
 intro n
 induction n with
 | zero=>intro f K st m h;exact h.elim
 | succ n ih=>
  intro f K st m h;cases f with
  | inl ic=>
   cases ic with
   | skip=>exact Zh.ofX ⟨0,rfl⟩ (ih h)
   | reg ps d=>obtain⟨k,B,h1,h2⟩:=g6z h;exact Zh.ofX (x:=.normal) ⟨0,by simp[Vs,h1]⟩ (ih h2)
   | seq a b=>
    obtain⟨j,st',⟨y,k,h1,h2⟩,h3,q⟩:=ih (f:=.inl a) h;refine⟨j,st',?_,h3,q⟩;cases y with
    | normal=>obtain⟨D,u,C,z⟩:=h2;exact⟨D,u,h1.seq C,z⟩
    | exit i=>exact⟨_,k,h1.seqx (by simp),h2⟩
    | ret=>exact⟨_,k,h1.seqx (by simp),h2⟩
   | cond c a b=>
    have fin : ∀ v,ev st.env c = .pv (.bool v)->Od T s F (.inl (if v then a else b)) K st->Od T s F (.inl (.cond c a b)) K st:=by intro v l A;obtain⟨j,st',⟨y,k,h1,h2⟩,h3,q⟩:=A;refine⟨j,st',⟨y,k,UG.cond l ?_,h2⟩,h3,q⟩;cases v <;> exact h1
    simp only[goW]at h;split at h
    ·rename_i v l;cases m with
     | ask B m2=>
      refine fin v l ?_;cases v with
      | true=>rw[fw rfl];simp only[gq]at h;rw[UY l]at h;exact ih (f:=.inl a) h
      | false=>rw[fo (by simp)];simp only[aK,gp]at h;rw[UY l]at h;exact ih (f:=.inl b) h
     | lit m=>
      refine fin v l ?_;cases v with
      | true=>exact ih (f:=.inl a) h
      | false=>exact ih (f:=.inl b) h
     | ans d m=>
      obtain⟨rfl,h⟩:=h;refine fin v l ?_;cases v with
      | true=>rw[UY l]at h;exact ih (f:=.inl a) h
      | false=>rw[UY l]at h;exact ih (f:=.inl b) h
     | nil=>exact h.elim
     | req m=>exact h.elim
    ·exact h.elim
   | block id b=>obtain⟨j,st',⟨y,k,h1,h2⟩,h3,q⟩:=ih (f:=.inl b) h;exact⟨j,st',⟨_,k,h1.block,h2⟩,h3,q⟩
   | loop keep b=>exact r _ _ h
   | exit id=>exact Zh.ofX ⟨0,rfl⟩ (ih h)
   | ret=>exact Zh.ofX ⟨0,rfl⟩ (ih h)
   | ext n sl=>exact h.elim
  | inr x=>
   cases K with
   | nil=>
    cases x with
    | exit i=>exact h.elim
    | normal=>exact⟨_,_,⟨rfl,rfl⟩,rfl,r _ _ h⟩
    | ret=>exact⟨_,_,⟨rfl,rfl⟩,rfl,r _ _ h⟩
   | cons fr K=>
    cases fr with
    | seq b=>
     cases x with
     | normal=>obtain⟨j,st',⟨y,k,h1,h2⟩,h3,q⟩:=ih (f:=.inl b) h;exact⟨j,st',⟨y,k,h1,h2⟩,h3,q⟩
     | exit i=>obtain⟨j,st',h1,h2⟩:=ih (f:=.inr (.exit i)) (K:=K) h;exact⟨j,st',by simpa [Wh]using h1,h2⟩
     | ret=>obtain⟨j,st',h1,h2⟩:=ih (f:=.inr .ret) (K:=K) h;exact⟨j,st',by simpa [Wh]using h1,h2⟩
    | lp keep b=>
     cases x with
     | normal=>obtain⟨j,st',⟨y,k,h1,h2⟩,h3,q⟩:=r _ _ h;exact⟨j,st',⟨y,k,h1,h2⟩,h3,q⟩
     | exit i=>obtain⟨j,st',h1,h2⟩:=ih (f:=.inr (.exit i)) (K:=K) h;exact⟨j,st',by simpa [Wh]using h1,h2⟩
     | ret=>obtain⟨j,st',h1,h2⟩:=ih (f:=.inr .ret) (K:=K) h;exact⟨j,st',by simpa [Wh]using h1,h2⟩
    | blk id=>
     cases x with
     | normal=>obtain⟨j,st',h1,h2⟩:=ih (f:=.inr .normal) (K:=K) h;exact⟨j,st',by simpa [Wh]using h1,h2⟩
     | ret=>obtain⟨j,st',h1,h2⟩:=ih (f:=.inr .ret) (K:=K) h;exact⟨j,st',by simpa [Wh]using h1,h2⟩
     | exit i=>
      simp only[goW]at h;split at h
      ·rename_i e;have e:i=id:=by simpa using e
       subst e;obtain⟨j,st',h1,h2⟩:=ih (f:=.inr .normal) (K:=K) h;exact⟨j,st',by simpa [Wh]using h1,h2⟩
      ·rename_i e;have e : ¬ i=id:=by simpa using e
       obtain⟨j,st',h1,h2⟩:=ih (f:=.inr (.exit i)) (K:=K) h;exact⟨j,st',by simpa [Wh,e]using h1,h2⟩
def i7s(st:St)(rs:List IRes)(m:Mk)(r:PV):Prop:=match Vj (E9 st) rs with
 | some vs=>(Jg vs).w st.heap [] [] m λqs _ _ _ _=>OJ qs=r
 | none=>False
def g6l{st:St}{rs:List IRes}{m:Mk}{r:PV}(h:i7s st rs m r):fin st rs=some r:=by
 unfold i7s at h;split at h
 ·rename_i vs b;obtain⟨a,σ',R',W',m',h1,h2⟩:=HM.w_ok _ h;simp[fin,b,I1 _ h1,h2]
 ·exact h.elim
def f2g(T:ZH)(k:Nat)(F:St->Prop)(e:St->Mk->Prop)(g:Gone)(m:Mk):Prop:=match g with
 | .head keep b K st=>match HZ k keep st with
  | some S=>Zh T k F b (.lp keep b::K) S
  | none=>False
 | .done st=>e st m
def f2e{T:ZH}{k:Nat}{F:St->Prop}{e:St->Mk->Prop}(a : ∀ st m,e st m->F st)(g:Gone)(m:Mk)(h:f2g T k F e g m):g.Good T k F:=by
 unfold f2g at h;split at h
 ·split at h
  ·rename_i S b;exact Zh.loop b h
  ·exact h.elim
 ·exact a _ _ h
def wP(T:ZH)(ic:IC)(K:List Fr)(st:St)(rs:List IRes)(m:Mk)(r:PV):Prop:=goW T 100000 (.inl ic) K st m (f2g T 0 (λst=>fin st rs=some r) λst m=>i7s st rs m r)
def Zh.w{T:ZH}{ic:IC}{K:List Fr}{st:St}{rs:List IRes}(m:Mk){r:PV}{A:Prop}(h:A)(e:A=wP T ic K st rs m r):Zh T 0 (λst=>fin st rs=some r) ic K st:=by subst e;exact i9f (f2e λst m h=>g6l h) _ h
def At.w{T:ZH}{ic:IC}{j n:Nat}{l:List (Nat×AV)}{σ:ZC}{rs:List IRes}(m:Mk){r:PV}{A:Prop}(h:A)(e:A=wP T (hd ic j).1 (hd ic j).2 ⟨X5 n 0 l,σ⟩ rs m r):At T 0 (λst=>fin st rs=some r) ic j n l σ:=Zh.w m h e
inductive Leaf where
 | head (ic:IC) (K:List Fr) (S:St)
 | fin (p:PV)
 | finO (r:AV×List AObj×List AObj)
 | ext (n:Nat) (K:List Fr) (S:St)
inductive DT where
 | ask (b:Bool) (k:Bool->DT)
 | req (b:Bool) (k:DT)
 | abs (v:AV) (k:AV->DT)
 | abso (o:AObj) (k:AObj->DT)
 | leaf (l:Leaf)
 | bad (n:Nat)
def DT.sat(Q:Leaf->Prop):DT->Prop
 | .ask b k=>(k b).sat Q
 | .req b k=>b=true∧k.sat Q
 | .abs v k=>(k v).sat Q
 | .abso o k=>(k o).sat Q
 | .leaf l=>Q l
 | .bad _=>False
def HM.d{α:Type}:HM α->ZC->List Nat->List Nat->(α->ZC->List Nat->List Nat->DT)->DT
 | .ret a,σ,R,W,k=>k a σ R W
 | .fail,_,_,_,_=>.bad 1
 | .get l f,σ,R,W,k=>match σ[l]? with|some (.obj o)=>(f o).d σ (R++[l]) W k|_=>.bad 2
 | .put l o f,σ,R,W,k=>match σ[l]? with|some (.obj _)=>f.d (σ.set l (.obj o)) R (W++[l]) k|_=>.bad 3
 | .new l o f,σ,R,W,k=>match σ[l]? with|some .fresh=>f.d (σ.set l (.obj o)) R (W++[l]) k|_=>.bad 4
 | .ask b f,σ,R,W,k=>.ask b λd=>(f d).d σ R W k
 | .req b f,σ,R,W,k=>.req b (f.d σ R W k)
def HM.d_ok{α:Type}{Q:Leaf->Prop}(h:HM α): ∀ {σ:ZC} {R W:List Nat} {k:α->ZC->List Nat->List Nat->DT},(h.d σ R W k).sat Q-> ∃ a e R' W',h.runF σ=some (a,e,R',W')∧(k a e (R++R') (W++W')).sat Q:=by
 induction h with
 | ret a=>intro σ R W k h;exact⟨a,σ,[],[],rfl,by simp only[aV];exact h⟩
 | fail=>intro σ R W k h;exact h.elim
 | get l f ih=>
  intro σ R W k h;simp only[HM.d]at h;split at h
  ·rename_i o ho;obtain⟨a,e,R',W',h1,h2⟩:=ih o h;exact⟨a,e,l::R',W',by simp[IB,ho,h1],by simpa using h2⟩
  ·exact h.elim
 | put l o f ih=>
  intro σ R W k h;simp only[HM.d]at h;split at h
  ·rename_i o' ho;obtain⟨a,e,R',W',h1,h2⟩:=ih h;exact⟨a,e,R',l::W',by simp[IB,ho,h1],by simpa using h2⟩
  ·exact h.elim
 | new l o f ih=>
  intro σ R W k h;simp only[HM.d]at h;split at h
  ·rename_i ho;obtain⟨a,e,R',W',h1,h2⟩:=ih h;exact⟨a,e,R',l::W',by simp[IB,ho,h1],by simpa using h2⟩
  ·exact h.elim
 | ask b f ih=>intro σ R W k h;obtain⟨a,e,R',W',h1,h2⟩:=ih b (σ:=σ) (R:=R) (W:=W) (k:=k) h;exact⟨a,e,R',W',by simpa [IB]using h1,h2⟩
 | req b f ih=>intro σ R W k h;obtain⟨rfl,h⟩:=h;obtain⟨a,e,R',W',h1,h2⟩:=ih h;exact⟨a,e,R',W',by simpa [IB]using h1,h2⟩
def j1e:POp->Bool
 | .call _ _ | .iaddr _ _ _=>true
 | _=>false
def h3d(p:POp)(v:AV)(k:AV->DT):DT:=match j1e p with|true=>.abs v k|false=>k v
def e1e{Q:Leaf->Prop}{p:POp}{v:AV}{k:AV->DT}(h:(h3d p v k).sat Q):(k v).sat Q:=by unfold h3d at h;split at h <;> exact h
def b8a:List Nat->ZC->(ZC->DT)->DT
 | [],σ,k=>k σ
 | l::W,σ,k=>match σ[l]? with
  | some (.obj o)=>.abso o λo=>b8a W (σ.set l (.obj o)) k
  | _=>b8a W σ k
def EZ{Q:Leaf->Prop}: ∀ {W:List Nat} {σ:ZC} {k:ZC->DT},(b8a W σ k).sat Q->(k σ).sat Q
 | [],σ,k,h=>h
 | l::W,σ,k,h=>by
  simp only[b8a]at h;split at h
  ·rename_i o ho;have h:=EZ (W:=W) h;have hl:l<σ.length:=(Ig.1 ho).1;have e:σ[l] = .obj o:=(Ig.1 ho).2;rw[<- e,List.set_getElem_self]at h;exact h
  ·exact EZ (W:=W) h
def g8a(p:POp)(σ:ZC)(W:List Nat)(k:ZC->DT):DT:=match p with
 | .call _ _=>b8a W σ k
 | _=>k σ
def d5n{Q:Leaf->Prop}{p:POp}{σ:ZC}{W:List Nat}{k:ZC->DT}(h:(g8a p σ W k).sat Q):(k σ).sat Q:=by
 unfold g8a at h;split at h
 ·exact EZ h
 ·exact h
def g0e(T:ZH)(a:Nat)(p:PI)(st:St)(k:St->List Nat->List Nat->DT):DT:=
 match p.gd with
 | none=>(VJ T (a+p.L) st.env p.op).d st.heap [] [] λv σ R W=>h3d p.op v λv=>g8a p.op σ W λσ=>k ⟨Y3 st.env p.dst v,σ⟩ R W
 | some (s,b)=>match st.env[s]? with
  | some (.pv (.bool v))=>.ask v λd=>match d==b with
   | true=>(VJ T (a+p.L) (st.env.set s (.pv (.bool d))) p.op).d st.heap [] [] λv σ R W=>h3d p.op v λv=>g8a p.op σ W λσ=>k ⟨Y3 (st.env.set s (.pv (.bool d))) p.dst v,σ⟩ R W
   | false=>k ⟨Y3 (st.env.set s (.pv (.bool d))) p.dst .undef,st.heap⟩ [] []
  | some .undef=>k ⟨Y3 st.env p.dst .undef,st.heap⟩ [] []
  | _=>.bad 5
def f3b{Q:Leaf->Prop}{T:ZH}{g:Nat}{p:PI}{st:St}{k:St->List Nat->List Nat->DT}(h:(g0e T g p st k).sat Q): ∃ st' R W,Vw T g p st=some (st',R,W)∧(k st' R W).sat Q:=by
 unfold g0e at h;unfold Vw;split at h
 ·rename_i i;obtain⟨a,σ',R',W',h1,h2⟩:=HM.d_ok _ h;exact⟨⟨Y3 st.env p.dst a,σ'⟩,R',W',by simp[WF,i,h1],by simpa using d5n (e1e h2)⟩
 ·rename_i s b i;split at h
  ·rename_i v j;simp only[DT.sat]at h;rw[SI j]at h;split at h
   ·rename_i e;obtain⟨a,σ',R',W',h1,h2⟩:=HM.d_ok _ h;exact⟨⟨Y3 st.env p.dst a,σ'⟩,R',W',by simp only[WF,i,j,e];simp[h1],by simpa using d5n (e1e h2)⟩
   ·rename_i e;exact⟨⟨Y3 st.env p.dst .undef,st.heap⟩,[],[],by simp only[WF,i,j,e],h⟩
  ·rename_i j;exact⟨⟨Y3 st.env p.dst .undef,st.heap⟩,[],[],by simp[WF,i,j],h⟩
  ·exact h.elim
def e8g{α β:Type}:List α->(List α->β)->β
 | [],k=>k []
 | x::xs,k=>e8g xs λys=>k (x::ys)
def b1u{α β:Type}: ∀ (l:List α) (k:List α->β),e8g l k=k l
 | [],k=>rfl
 | x::xs,k=>by simp only[e8g,b1u xs]
def d5t{β:Type}(st:St)(k:St->β):β:=e8g st.env λenv=>e8g st.heap λσ=>k ⟨env,σ⟩
def a0z{β:Type}(st:St)(k:St->β):d5t st k=k st:=by simp[d5t,b1u]
def g6e(T:ZH)(a:Nat):List (Nat×PI)->St->List FP->(St->List FP->DT)->DT
 | [],st,b,k=>k st b
 | (i,p)::r,st,b,k=>g0e T a p st λst R W=>d5t st λst=>e8g b λb=>g6e T a r st (b++[(i,R,W)]) k
def h1s{Q:Leaf->Prop}{T:ZH}{a:Nat}: ∀ {l:List (Nat×PI)} {st:St} {e:List FP} {k:St->List FP->DT},(g6e T a l st e k).sat Q-> ∃ st' b,runF T a l st=some (st',b)∧(k st' (e++b)).sat Q:=by
 intro l
 induction l with
 | nil=>intro st e k h;exact⟨st,[],rfl,by simpa [g6e]using h⟩
 | cons q l ih=>intro st e k h;obtain⟨i,p⟩:=q;obtain⟨st1,R,W,h1,h2⟩:=f3b h;simp only[a0z,b1u]at h2;obtain⟨j,g,h3,r⟩:=ih h2;exact⟨j,(i,R,W)::g,by simp[runF,h1,h3],by simpa using r⟩
def j0g(T:ZH)(ps:List PI)(deps:Option (List (List Nat)))(st:St)(k:St->DT):DT:=
 g6e T st.heap.length (CZ ps) (grow st (news ps)) [] λst a=>match deps with
  | none=>k st
  | some d=>match b1k d a with|true=>k st|false=>.bad 6
def d9m{Q:Leaf->Prop}{T:ZH}{ps:List PI}{deps:Option (List (List Nat))}{st:St}{k:St->DT}(h:(j0g T ps deps st k).sat Q): ∃ st',K8 T ps deps st=some st'∧(k st').sat Q:=by
 obtain⟨a,tr,h1,h2⟩:=h1s h;rw[aW]at h2;split at h2
 ·have:=a4a h1;rw[Af]at this;exact⟨a,this,h2⟩
 ·rename_i d;split at h2
  ·rename_i ht;exact⟨a,by simp[K8,h1,ht],h2⟩
  ·exact h2.elim
def Mo(T:ZH)(e:Nat):Nat->IC ⊕ XE->List Fr->St->(Gone->DT)->DT
 | 0,_,_,_,_=>.bad 7
 | n+1,.inl ic,K,st,k=>match ic with
  | .skip=>Mo T e n (.inr .normal) K st k
  | .reg ps d=>d5t st λst=>j0g T ps d st λst=>Mo T e n (.inr .normal) K st k
  | .seq a b=>Mo T e n (.inl a) (.seq b::K) st k
  | .cond c a b=>match ev st.env c with
   | .pv (.bool v)=>.ask v λd=>match d with
    | true=>Mo T e n (.inl a) K ⟨OQ st.env c true,st.heap⟩ k
    | false=>Mo T e n (.inl b) K ⟨OQ st.env c false,st.heap⟩ k
   | _=>.bad 8
  | .block id b=>Mo T e n (.inl b) (.blk id::K) st k
  | .loop keep b=>k (.head keep b K st)
  | .exit id=>Mo T e n (.inr (.exit id)) K st k
  | .ret=>Mo T e n (.inr .ret) K st k
  | .ext i sl=>match HZ e sl st with
   | some S=>.leaf (.ext i K S)
   | none=>.bad 16
 | n+1,.inr x,K,st,k=>match K,x with
  | [],.exit _=>.bad 9
  | [],_=>k (.done st)
  | .seq b::K,.normal=>Mo T e n (.inl b) K st k
  | .lp keep b::K,.normal=>k (.head keep b K st)
  | .blk id::K,.exit i=>match i==id with
   | true=>Mo T e n (.inr .normal) K st k
   | false=>Mo T e n (.inr (.exit i)) K st k
  | _::K,x=>Mo T e n (.inr x) K st k
def c9s{T:ZH}{s:Nat}{F:St->Prop}{Q:Leaf->Prop}{k:Gone->DT}(E : ∀ i K S,¬ Q (.ext i K S))(u : ∀ g,(k g).sat Q->g.Good T s F): ∀ (n:Nat) {f:IC ⊕ XE} {K:List Fr} {st:St},(Mo T s n f K st k).sat Q->Od T s F f K st:=by
 intro n
 induction n with
 | zero=>intro f K st h;exact h.elim
 | succ n ih=>
  intro f K st h;cases f with
  | inl ic=>
   cases ic with
   | skip=>exact Zh.ofX ⟨0,rfl⟩ (ih h)
   | reg ps d=>simp only[Mo,a0z]at h;obtain⟨l,h1,h2⟩:=d9m h;exact Zh.ofX (x:=.normal) ⟨0,by simp[Vs,h1]⟩ (ih h2)
   | seq a b=>
    obtain⟨j,st',⟨y,l,h1,h2⟩,h3,q⟩:=ih (f:=.inl a) h;refine⟨j,st',?_,h3,q⟩;cases y with
    | normal=>obtain⟨D,z,C,A⟩:=h2;exact⟨D,z,h1.seq C,A⟩
    | exit i=>exact⟨_,l,h1.seqx (by simp),h2⟩
    | ret=>exact⟨_,l,h1.seqx (by simp),h2⟩
   | cond c a b=>
    have fin : ∀ v,ev st.env c = .pv (.bool v)->Od T s F (.inl (if v then a else b)) K st->Od T s F (.inl (.cond c a b)) K st:=by intro v r B;obtain⟨j,st',⟨y,l,h1,h2⟩,h3,q⟩:=B;refine⟨j,st',⟨y,l,UG.cond r ?_,h2⟩,h3,q⟩;cases v <;> exact h1
    simp only[Mo]at h;split at h
    ·rename_i v r;refine fin v r ?_;cases v with
     | true=>rw[fw rfl];simp only[DT.sat]at h;rw[UY r]at h;exact ih (f:=.inl a) h
     | false=>rw[fo (by simp)];simp only[DT.sat]at h;rw[UY r]at h;exact ih (f:=.inl b) h
    ·exact h.elim
   | block id b=>obtain⟨j,st',⟨y,l,h1,h2⟩,h3,q⟩:=ih (f:=.inl b) h;exact⟨j,st',⟨_,l,h1.block,h2⟩,h3,q⟩
   | loop keep b=>exact u _ h
   | exit id=>exact Zh.ofX ⟨0,rfl⟩ (ih h)
   | ret=>exact Zh.ofX ⟨0,rfl⟩ (ih h)
   | ext i sl=>
    simp only[Mo]at h;split at h
    ·exact(E _ _ _ h).elim
    ·exact h.elim
  | inr x=>
   cases K with
   | nil=>
    cases x with
    | exit i=>exact h.elim
    | normal=>exact⟨_,_,⟨rfl,rfl⟩,rfl,u _ h⟩
    | ret=>exact⟨_,_,⟨rfl,rfl⟩,rfl,u _ h⟩
   | cons fr K=>
    cases fr with
    | seq b=>
     cases x with
     | normal=>obtain⟨j,st',⟨y,l,h1,h2⟩,h3,q⟩:=ih (f:=.inl b) h;exact⟨j,st',⟨y,l,h1,h2⟩,h3,q⟩
     | exit i=>obtain⟨j,st',h1,h2⟩:=ih (f:=.inr (.exit i)) (K:=K) h;exact⟨j,st',by simpa [Wh]using h1,h2⟩
     | ret=>obtain⟨j,st',h1,h2⟩:=ih (f:=.inr .ret) (K:=K) h;exact⟨j,st',by simpa [Wh]using h1,h2⟩
    | lp keep b=>
     cases x with
     | normal=>obtain⟨j,st',⟨y,l,h1,h2⟩,h3,q⟩:=u _ h;exact⟨j,st',⟨y,l,h1,h2⟩,h3,q⟩
     | exit i=>obtain⟨j,st',h1,h2⟩:=ih (f:=.inr (.exit i)) (K:=K) h;exact⟨j,st',by simpa [Wh]using h1,h2⟩
     | ret=>obtain⟨j,st',h1,h2⟩:=ih (f:=.inr .ret) (K:=K) h;exact⟨j,st',by simpa [Wh]using h1,h2⟩
    | blk id=>
     cases x with
     | normal=>obtain⟨j,st',h1,h2⟩:=ih (f:=.inr .normal) (K:=K) h;exact⟨j,st',by simpa [Wh]using h1,h2⟩
     | ret=>obtain⟨j,st',h1,h2⟩:=ih (f:=.inr .ret) (K:=K) h;exact⟨j,st',by simpa [Wh]using h1,h2⟩
     | exit i=>
      simp only[Mo]at h;split at h
      ·rename_i e;have e:i=id:=by simpa using e
       subst e;obtain⟨j,st',h1,h2⟩:=ih (f:=.inr .normal) (K:=K) h;exact⟨j,st',by simpa [Wh]using h1,h2⟩
      ·rename_i e;have e : ¬ i=id:=by simpa using e
       obtain⟨j,st',h1,h2⟩:=ih (f:=.inr (.exit i)) (K:=K) h;exact⟨j,st',by simpa [Wh,e]using h1,h2⟩
inductive Md where
 | p|o|f
def Za(rs:List IRes)(G:PV->Prop)(st:St):Prop:= ∃ p,fin st rs=some p∧G p
def Z9(k:Nat)(rs:List IRes)(G:AV×List AObj×List AObj->Prop)(st:St):Prop:= ∃ r,finO k st rs=some r∧G r
def ZA(k:Nat)(rs:List IRes)(G:AV×List AObj×List AObj->Prop)(st:St):Prop:= ∃ r,c9l k st rs=some r∧G r
def KN(T:ZH)(k:Nat)(a:Md)(rs:List IRes):Gone->DT
 | .head keep b K st=>match HZ k keep st with
  | some S=>.leaf (.head b (.lp keep b::K) S)
  | none=>.bad 10
 | .done st=>match a with
  | .p=>match Vj (E9 st) rs with
   | some vs=>(Jg vs).d st.heap [] [] λqs _ _ _=>.leaf (.fin (OJ qs))
   | none=>.bad 11
  | .o=>match finO k st rs with
   | some r=>.leaf (.finO r)
   | none=>.bad 12
  | .f=>match Vj (E9 st) rs with
   | some vs=>(Jg vs).d st.heap [] [] λqs e _ _=>(Oj (Iw k)).d e [] [] λ_ σ _ _=>match OD k (Dh 256 (Iw k) [] σ) [] σ with
    | some (_,os)=>.leaf (.finO (AV.pv (OJ qs),os.take k,os.drop k))
    | none=>.bad 13
   | none=>.bad 14
def h9r(T:ZH)(F:St->Prop)(G:PV->Prop):Leaf->Prop
 | .head b K S=>Zh T 0 F b K S
 | .fin p=>G p
 | .finO _=>False
 | .ext _ _ _=>False
def d6z(T:ZH)(k:Nat)(F:St->Prop)(G:AV×List AObj×List AObj->Prop):Leaf->Prop
 | .head b K S=>Zh T k F b K S
 | .fin _=>False
 | .finO r=>G r
 | .ext _ _ _=>False
def f5f{T:ZH}{rs:List IRes}{G:PV->Prop}(g:Gone)(h:(KN T 0 .p rs g).sat (h9r T (Za rs G) G)):g.Good T 0 (Za rs G):=by
 cases g with
 | head keep b K st=>
  simp only[KN]at h;split at h
  ·rename_i S i;exact Zh.loop i h
  ·exact h.elim
 | done st=>
  simp only[KN]at h;split at h
  ·rename_i vs e;obtain⟨a,σ',R',W',h1,h2⟩:=HM.d_ok _ h;exact⟨OJ a,by simp[fin,e,I1 _ h1],h2⟩
  ·exact h.elim
def f5d{T:ZH}{k:Nat}{rs:List IRes}{G:AV×List AObj×List AObj->Prop}(g:Gone)(h:(KN T k .o rs g).sat (d6z T k (Z9 k rs G) G)):g.Good T k (Z9 k rs G):=by
 cases g with
 | head keep b K st=>
  simp only[KN]at h;split at h
  ·rename_i S a;exact Zh.loop a h
  ·exact h.elim
 | done st=>
  simp only[KN]at h;split at h
  ·rename_i r hr;exact⟨r,hr,h⟩
  ·exact h.elim
def g2d{T:ZH}{k:Nat}{rs:List IRes}{G:AV×List AObj×List AObj->Prop}(g:Gone)(h:(KN T k .f rs g).sat (d6z T k (ZA k rs G) G)):g.Good T k (ZA k rs G):=by
 cases g with
 | head keep b K st=>
  simp only[KN]at h;split at h
  ·rename_i S i;exact Zh.loop i h
  ·exact h.elim
 | done st=>
  simp only[KN]at h;split at h
  ·rename_i vs j;obtain⟨qs,σ1,R',W',h1,h2⟩:=HM.d_ok _ h;obtain⟨u,σ,R'',W'',h3,a⟩:=HM.d_ok _ h2;split at a
   ·rename_i ys os e;exact⟨_,by simp only[c9l,j,IP,I1 _ h1,I1 _ h3,e,Ir],a⟩
   ·exact a.elim
  ·exact h.elim
inductive Mq:Type 1 where
 | nil|lit (m:Mq)|ask (a b:Mq)|req (m:Mq)|keep (m:Mq)
 | abs (α:Type) (e:α->AV) (m:Mq)
 | abso (α:Type) (e:α->AObj) (m:Mq)
 | skip (m:Mq)
def DT.w(Q:Leaf->Prop):DT->Mq->Prop
 | .ask b k,m=>match m with
  | .ask m1 m2=>if b=true then(k true).w Q m1 else(k false).w Q m2
  | .lit m=>match b with|true=>(k true).w Q m|false=>(k false).w Q m
  | _=>False
 | .req b k,m=>match m with
  | .req m=>b=true∧k.w Q m
  | .lit m=>match b with|true=>k.w Q m|false=>False
  | _=>False
 | .abs v k,m=>match m with
  | .abs α e m=> ∃ y:α,v=e y∧(k (e y)).w Q m
  | .keep m=>(k v).w Q m
  | _=>False
 | .abso o k,m=>match m with
  | .abso α e m=> ∃ y:α,o=e y∧(k (e y)).w Q m
  | .skip m=>(k o).w Q m
  | m=>(k o).w Q m
 | .leaf l,_=>Q l
 | .bad _,_=>False
def DT.w_ok{Q:Leaf->Prop}: ∀ {t:DT} {m:Mq},t.w Q m->t.sat Q:=by
 intro t
 induction t with
 | ask b k ih=>
  intro m h;cases m with
  | ask m1 m2=>
   simp only[DT.w]at h;cases b with
   | true=>rw[fw rfl]at h;exact ih _ h
   | false=>rw[fo (by simp)]at h;exact ih _ h
  | lit m=>cases b <;> exact ih _ h
  | _=>exact h.elim
 | req b k ih=>
  intro m h;cases m with
  | req m=>exact⟨h.1,ih h.2⟩
  | lit m=>cases b with
   | true=>exact⟨rfl,ih h⟩
   | false=>exact h.elim
  | _=>exact h.elim
 | abs v k ih=>
  intro m h;cases m with
  | abs α e m=>obtain⟨y,rfl,h⟩:=h;exact ih _ h
  | keep m=>exact ih _ h
  | _=>exact h.elim
 | abso o k ih=>
  intro m h;cases m with
  | abso α e m=>obtain⟨y,rfl,h⟩:=h;exact ih _ h
  | _=>exact ih _ h
 | leaf l=>intro m h;exact h
 | bad n=>intro m h;exact h.elim
def tP(T:ZH)(ic:IC)(K:List Fr)(st:St)(rs:List IRes)(m:Mq)(G:PV->Prop):Prop:=(Mo T 0 100000 (.inl ic) K st (KN T 0 .p rs)).w (h9r T (Za rs G) G) m
def Zh.tp{T:ZH}{ic:IC}{K:List Fr}{st:St}{rs:List IRes}(m:Mq){G:PV->Prop}{A:Prop}(h:A)(e:A=tP T ic K st rs m G:=by kernel_rfl):Zh T 0 (Za rs G) ic K st:=by subst e;exact c9s (λ_ _ _ h=>h) f5f _ (DT.w_ok h)
def tO(T:ZH)(k:Nat)(ic:IC)(K:List Fr)(st:St)(rs:List IRes)(m:Mq)(G:AV×List AObj×List AObj->Prop):Prop:=(Mo T k 100000 (.inl ic) K st (KN T k .o rs)).w (d6z T k (Z9 k rs G) G) m
def Zh.to{T:ZH}{k:Nat}{ic:IC}{K:List Fr}{st:St}{rs:List IRes}(m:Mq){G:AV×List AObj×List AObj->Prop}{A:Prop}(h:A)(e:A=tO T k ic K st rs m G:=by kernel_rfl):Zh T k (Z9 k rs G) ic K st:=by subst e;exact c9s (λ_ _ _ h=>h) f5d _ (DT.w_ok h)
def tF(T:ZH)(k:Nat)(ic:IC)(K:List Fr)(st:St)(rs:List IRes)(m:Mq)(G:AV×List AObj×List AObj->Prop):Prop:=(Mo T k 100000 (.inl ic) K st (KN T k .f rs)).w (d6z T k (ZA k rs G) G) m
def Zh.tf{T:ZH}{k:Nat}{ic:IC}{K:List Fr}{st:St}{rs:List IRes}(m:Mq){G:AV×List AObj×List AObj->Prop}{A:Prop}(h:A)(e:A=tF T k ic K st rs m G:=by kernel_rfl):Zh T k (ZA k rs G) ic K st:=by subst e;exact c9s (λ_ _ _ h=>h) g2d _ (DT.w_ok h)
def At.tp{T:ZH}{ic:IC}{j n:Nat}{l:List (Nat×AV)}{σ:ZC}{rs:List IRes}(m:Mq){G:PV->Prop}{A:Prop}(h:A)(e:A=tP T (hd ic j).1 (hd ic j).2 ⟨X5 n 0 l,σ⟩ rs m G:=by kernel_rfl):At T 0 (Za rs G) ic j n l σ:=Zh.tp m h e
def At.to{T:ZH}{k:Nat}{ic:IC}{j n:Nat}{l:List (Nat×AV)}{σ:ZC}{rs:List IRes}(m:Mq){G:AV×List AObj×List AObj->Prop}{A:Prop}(h:A)(e:A=tO T k (hd ic j).1 (hd ic j).2 ⟨X5 n 0 l,σ⟩ rs m G:=by kernel_rfl):At T k (Z9 k rs G) ic j n l σ:=Zh.to m h e
def At.tf{T:ZH}{k:Nat}{ic:IC}{j n:Nat}{l:List (Nat×AV)}{σ:ZC}{rs:List IRes}(m:Mq){G:AV×List AObj×List AObj->Prop}{A:Prop}(h:A)(e:A=tF T k (hd ic j).1 (hd ic j).2 ⟨X5 n 0 l,σ⟩ rs m G:=by kernel_rfl):At T k (ZA k rs G) ic j n l σ:=Zh.tf m h e
section
def JM(ps qs:List PV):Prop:=ps.length=qs.length∧ ∀ (j:Nat) x y,ps[j]? = some x->qs[j]? = some y-> ∀ Φ v,RP Φ v x->RP Φ v y
def Jp(p q:PV):Prop:=JM p.cells q.cells∧ ∀ Φ v,RP Φ v p->RP Φ v q
def JM.nil:JM [] []:=⟨rfl,λj x y h=>by simp at h⟩
def JM.cons{a b:PV}{xs ys:List PV}(h : ∀ Φ v,RP Φ v a->RP Φ v b)(k:JM xs ys):JM (a::xs) (b::ys):=
 ⟨by simp[k.1],λj x y g e=>match j with
  | 0=>by cases g;cases e;exact h
  | j+1=>k.2 j x y g e⟩
def JM.append{a b c d:List PV}(h:JM a c)(k:JM b d):JM (a++b) (c++d):=by
 refine⟨by simp[h.1,k.1],λj x y i g=> ?_⟩;rw[List.getElem?_append]at i g;rw[<- h.1]at g;split at i
 ·rename_i e;rw[fw e]at g;exact h.2 j x y i g
 ·rename_i e;rw[fo e]at g;exact k.2 _ x y i g
def Jp.refl(p:PV):Jp p p:=⟨⟨rfl,λj x y b a Φ v h=>by rw[b]at a;cases a;exact h⟩,λ_ _ h=>h⟩
def Jp.one{p q:PV}(b:p.cells=[p])(a:q.cells=[q])(h : ∀ Φ v,RP Φ v p->RP Φ v q):Jp p q:=⟨by rw[b,a];exact .cons h .nil,h⟩
def Jp.agg{xs ys:List PV}(h:JM xs ys):Jp (.agg xs) (.agg ys):=by
 refine⟨h,λΦ v k=> ?_⟩;cases k with
 | agg cs _ hn ho hr=>
  refine .agg cs ys (hn.trans h.1) ho λj v y e a=> ?_
  have b:j<xs.length:=by rw[h.1];exact(Ig.1 a).1
  exact h.2 j _ _ (Ie b) a _ _ (hr j v _ e (Ie b))
def Jp.tup{xs ys:List PV}(h:JM xs ys):Jp (.tup xs) (.tup ys):=by
 refine .one rfl rfl λΦ v k=> ?_
 cases k with
 | tup cs _ hn hr=>
  refine .tup cs ys (hn.trans h.1) λj v y e a=> ?_
  have b:j<xs.length:=by rw[h.1];exact(Ig.1 a).1
  exact h.2 j _ _ (Ie b) a _ _ (hr j v _ e (Ie b))
def JM.flat: ∀ {xs ys:List PV},xs.length=ys.length->(∀ (j:Nat) x y,xs[j]? = some x->ys[j]? = some y->Jp x y)->JM (flat xs) (flat ys)
 | [],[],_,_=>.nil
 | x::xs,y::ys,hn,h=>by simp only[Go.Pl.flat,bM];exact(h 0 x y rfl rfl).1.append (JM.flat (by simpa using hn) λj a b ha hb=>h (j+1) a b ha hb)
 | [],_::_,hn,_=>by simp at hn
 | _::_,[],hn,_=>by simp at hn
def Jp.sl0(s g:Nat)(t:Bool):Jp (.sl s t []) (.sl g false []):=by
 refine .one rfl rfl λΦ v k=> ?_
 cases k with
 | sl0 a c _ _ ht=>exact .sl0 a c g false λe=>by cases e
 | sl b off cs c _ _ _ u hb hc ht hs hu hr=>exact .sl0 _ c g false λe=>by cases e
def Jp.sl{s:Nat}{t:Bool}{xs ys:List PV}(hn:xs.length=ys.length)(h : ∀ (j:Nat) x y,xs[j]? = some x->ys[j]? = some y->Jp x y):Jp (.sl s t xs) (.sl s false ys):=by
 refine .one rfl rfl λΦ v k=> ?_
 cases k with
 | sl0 a c _ _ ht=>
  obtain rfl:ys=[]:=by cases ys;rfl;simp at hn
  exact .sl0 a c s false λe=>by cases e
 | sl b off cs c _ _ _ u hb hc ht hs hu hr=>
  have q:=JM.flat hn h;rw[hn];refine .sl b off cs c s false ys u hb (by omega) (λe=>by cases e) ?_ ?_ ?_
  ·intro y r;obtain⟨j,g,rfl⟩:=aG r;have i:j<xs.length:=by omega
   rw[<- (h j _ _ (Ie i) (Ie g)).1.1];exact hs _ (bV i)
  ·intro j p l;have g:j<(flat xs).length:=by rw[q.1];exact(Ig.1 l).1
   exact hu j _ (Ie g)
  ·intro j p l;have g:j<(flat xs).length:=by rw[q.1];exact(Ig.1 l).1
   exact q.2 j _ _ (Ie g) l _ _ (hr j _ (Ie g))
class Enc (α:Type) where
 sz:Nat
 enc:α->PV
 dec:PV->α
 is:PV->Bool
 is_enc : ∀ a,is (enc a)
 dec_enc : ∀ a,dec (enc a)=a
 sub : ∀ p,is p->Jp p (enc (dec p))
open Enc (enc dec is)
attribute [simp] Enc.is_enc Enc.dec_enc
def h5u{α:Type}[Enc α]{a b:α}(h:enc a=enc b):a=b:=by rw[<- Enc.dec_enc a,h,Enc.dec_enc]
@[simp] theorem f9s {α : Type} [Enc α] {a b : α} : enc a = enc b ↔ a = b := ⟨h5u, λh => by rw [h]⟩
instance:Enc Int where
 sz:=1
 enc n:=.int .i64 n
 dec | .int _ n=>n|_=>0
 is | .int .i64 _=>true|_=>false
 is_enc _:=rfl
 dec_enc _:=rfl
 sub p h:=by
  cases p with
  | int k n=>cases k <;> first|exact .refl _|cases h
  | _=>cases h
instance:Enc Bool where
 sz:=1
 enc b:=.bool b
 dec | .bool b=>b|_=>false
 is | .bool _=>true|_=>false
 is_enc _:=rfl
 dec_enc _:=rfl
 sub p h:=by
  cases p with
  | bool b=>exact .refl _
  | _=>cases h
structure Str where
 s:List UInt8
 deriving DecidableEq,Inhabited
instance:Enc Str where
 sz:=1
 enc x:=.str x.s
 dec | .str s=>⟨s⟩|_=>⟨[]⟩
 is | .str _=>true|_=>false
 is_enc _:=rfl
 dec_enc _:=rfl
 sub p h:=by
  cases p with
  | str b=>exact .refl _
  | _=>cases h
instance:Enc UInt8 where
 sz:=1
 enc x:=.int .u8 x.toNat
 dec | .int _ n=>UInt8.ofNat n.toNat|_=>0
 is | .int .u8 n=>decide (0<=n)&&decide (n<256)|_=>false
 is_enc a:=by have:=a.toNat_lt;simp only[Ih,fu];omega
 dec_enc a:=by simp
 sub p h:=by
  cases p with
  | int k n=>
   cases k with
   | u8=>
    simp only[Ih,fu]at h;have e:((UInt8.ofNat n.toNat).toNat:Int)=n:=by rw[UInt8.toNat_ofNat'];omega
    show Jp _ (.int .u8 ((UInt8.ofNat n.toNat).toNat:Int));rw[e];exact .refl _
   | _=>cases h
  | _=>cases h
section
variable {α:Type} [Enc α]
instance:Enc (List α) where
 sz:=1
 enc l:=.sl (Enc.sz α) false (l.map enc)
 dec | .sl _ _ xs=>xs.map dec|_=>[]
 is | .sl s _ xs=>(xs.isEmpty||s==Enc.sz α)&&xs.all (is α)|_=>false
 is_enc l:=by simp
 dec_enc l:=by simp[aN]
 sub p h:=by
  cases p with
  | sl s t xs=>
   simp only[Ih,bn,List.isEmpty_iff,gm,bW]at h;obtain⟨h1,h2⟩:=h;rcases h1 with rfl|rfl
   ·exact .sl0 _ _ _
   ·refine .sl (by simp) λj x y hx hy=> ?_
    simp only[bH,Im,hx,Ir,Ic]at hy;subst hy;exact Enc.sub x (h2 x (IX hx))
  | _=>cases h
end
instance {α β:Type} [Enc α] [Enc β]:Enc (α×β) where
 sz:=1
 enc x:=.tup [enc x.1,enc x.2]
 dec | .tup [a,b]=>(dec a,dec b)|_=>(dec .nilp,dec .nilp)
 is | .tup [a,b]=>is α a&&is β b|_=>false
 is_enc x:=by simp
 dec_enc x:=by simp
 sub p h:=by
  cases p with
  | tup xs=>
   match xs,h with
   | [a,b],h=>simp only[Ih]at h;exact .tup (.cons (Enc.sub a h.1).2 (.cons (Enc.sub b h.2).2 .nil))
  | _=>cases h
structure R3 (α β γ:Type) where
 a:α
 b:β
 c:γ
 deriving DecidableEq
instance {α β γ:Type} [Enc α] [Enc β] [Enc γ]:Enc (R3 α β γ) where
 sz:=1
 enc x:=.tup [enc x.a,enc x.b,enc x.c]
 dec | .tup [a,b,c]=>⟨dec a,dec b,dec c⟩|_=>⟨dec .nilp,dec .nilp,dec .nilp⟩
 is | .tup [a,b,c]=>is α a&&is β b&&is γ c|_=>false
 is_enc x:=by simp
 dec_enc x:=by simp
 sub p h:=by
  cases p with
  | tup xs=>
   match xs,h with
   | [a,b,c],h=>simp only[Ih]at h;exact .tup (.cons (Enc.sub a h.1.1).2 (.cons (Enc.sub b h.1.2).2 (.cons (Enc.sub c h.2).2 .nil)))
  | _=>cases h
class EncL (α:Type) where
 encL:α->List PV
 decL:List PV->α
 isL:List PV->Bool
 is_encL : ∀ a,isL (encL a)
 dec_encL : ∀ a,decL (encL a)=a
 subL : ∀ ps,isL ps->JM ps (encL (decL ps))
open EncL (encL decL isL)
attribute [simp] EncL.is_encL EncL.dec_encL
instance:EncL Unit where
 encL _:=[]
 decL _:=()
 isL ps:=ps.isEmpty
 is_encL _:=rfl
 dec_encL _:=rfl
 subL ps h:=by simp at h;subst h;exact .nil
instance {α β:Type} [Enc α] [EncL β]:EncL (α×β) where
 encL x:=enc x.1::encL x.2
 decL|p::ps=>(dec p,decL ps)|[]=>(dec .nilp,decL [])
 isL|p::ps=>is α p&&isL β ps|[]=>false
 is_encL x:=by simp
 dec_encL x:=by simp
 subL ps h:=by
  match ps,h with
  | p::ps,h=>simp only[Ih]at h;exact .cons (Enc.sub p h.1).2 (EncL.subL ps h.2)
def preT{α:Type}[EncL α](pre:α->Bool)(ps:List PV):Bool:=isL α ps&&pre (decL ps)
def Zp{α β:Type}[EncL α][Enc β](F:α->β)(ps:List PV):PV:=enc (F (decL ps))
def ZB(P:Program)(f:Nat){α β:Type}[EncL α][Enc β](pre:α->Bool)(F:α->β):Prop:=W9 P f (preT pre) (Zp F)
def Ze{β:Type}[Enc β](y:β)(p:PV):Prop:=is β p=true∧dec p=y
section
variable {P:Program} {f:Nat} {α β:Type} [EncL α] [Enc β]
@[simp] theorem f3o (pre : α -> Bool) (a : α) : preT pre (encL a) = pre a := by simp [preT]
@[simp] theorem j1y (F : α -> β) (a : α) : Zp F (encL a) = enc (F a) := by simp [Zp]
def ZB.of{T:ZH}{fn:Func}{ic:IC}{rs:List IRes}{pre:α->Bool}{F:α->β}(J:Xa P T)(k:P.follows .mixedOrders)(K:P.funcs[f]? = some fn)(s:a4i P fn=some ic)
  (r:Vj (WR P) fn.results.toList=some rs) {l:Nat} (A:fn.ntmps=l) (h : ∀ a,pre a->Zh T 0 (Za rs (Ze (F a))) ic [] (Z7 l (encL a))):ZB P f pre F:=by
 classical
 have I : ∀ a,pre a-> ∃ p,Zh T 0 (λst=>fin st rs=some p) ic [] (Z7 l (encL a))∧Ze (F a) p:=λa ha=>by obtain⟨x,st',h1,h2,p,h3,O⟩:=h a ha;exact⟨p,⟨x,st',h1,h2,h3⟩,O⟩
 obtain⟨g,H⟩ : ∃ g:α->PV,∀ a,pre a->Zh T 0 (λst=>fin st rs=some (g a)) ic [] (Z7 l (encL a))∧Ze (F a) (g a):=⟨λa=>if i:pre a then(I a i).choose else .nilp,λa ha=>by simp only[gU ha];exact(I a ha).choose_spec⟩
 have z:W9 P f (λps=>decide (ps=encL (decL ps:α))&&pre (decL ps)) (λps=>g (decL ps)):=by
  refine SS J k K s r A λps i=> ?_
  simp only[Ih,fu]at i
  have:=(H _ i.2).1;rw[<- i.1]at this;exact this
 intro ps hps Φ w vs N h1 h2;simp only[preT,Ih]at hps;have b:=EncL.subL ps hps.1;have y:Un Φ vs.toList (encL (decL ps:α)):=by
  refine⟨h2.1.trans b.1,λj v x L D=> ?_⟩;have B:j<ps.length:=by rw[b.1];exact(Ig.1 D).1
  exact b.2 j _ _ (Ie B) D _ _ (h2.2 j v _ L (Ie B))
 refine(z (encL (decL ps:α)) (by simp[hps.2]) Φ w vs N h1 y).mono ?_;rintro e w' ⟨v,Φ',rfl,S,M,E,Q⟩;refine⟨v,Φ',rfl,S,M,?_,Q⟩;simp only[EncL.dec_encL]at E;obtain⟨u,q⟩:=(H _ hps.2).2;have C:=(Enc.sub _ u).2 _ _ E;rw[q]at C;exact C
def ZB.ofPure{g:List PV->Bool}{i:List PV->PV}{pre:α->Bool}{F:α->β}(h:W9 P f g i)(B : ∀ a,pre a->g (encL a)∧Ze (F a) (i (encL a))):ZB P f pre F:=by
 intro ps hps Φ w vs y h1 h2;simp only[preT,Ih]at hps;have b:=EncL.subL ps hps.1;have q:Un Φ vs.toList (encL (decL ps:α)):=by
  refine⟨h2.1.trans b.1,λj v x C u=> ?_⟩;have r:j<ps.length:=by rw[b.1];exact(Ig.1 u).1
  exact b.2 j _ _ (Ie r) u _ _ (h2.2 j v _ C (Ie r))
 obtain⟨k1,l,k⟩:=B _ hps.2;refine(h (encL (decL ps:α)) k1 Φ w vs y h1 q).mono ?_;rintro e w' ⟨v,Φ',rfl,E,A,z,D⟩;refine⟨v,Φ',rfl,E,A,?_,D⟩;have s:=(Enc.sub _ l).2 _ _ z;rw[k]at s;exact s
def ZB.weaken{pre b:α->Bool}{F e:α->β}(h:ZB P f pre F)(i : ∀ a,b a->pre a)(g : ∀ a,b a->F a=e a):ZB P f b e:=by
 refine W9.sub h (λps k=> ?_) (λps k=> ?_)
 ·simp only[preT,Ih]at k ⊢;exact⟨k.1,i _ k.2⟩
 ·simp only[preT,Ih]at k;simp only[Zp,g _ k.2];exact .refl _
end
def Dp{P:Program}{T:ZH}{f:Nat}{fn:Func}{ic:IC}{rs:List IRes}{pre:List AV->List AObj->Bool}{val:List AV->List AObj->AV×List AObj×List AObj}(j:Xa P T)(a:P.follows .mixedOrders)(l:P.funcs[f]? = some fn)(e:a4i P fn=some ic)
  (b:Vj (WR P) fn.results.toList=some rs) {i:Nat} (g:fn.ntmps=i) (h : ∀ args os,pre args os->Zh T os.length (Z9 os.length rs λr=>r=val args os) ic [] (Yr i args os)):YP P f pre val:=by
 refine i5a j a l e b g λargs os k=> ?_
 obtain⟨x,st',h1,h2,r,h3,rfl⟩:=h args os k;exact⟨x,st',h1,h2,h3⟩
def e0z{xs:List PV}(h:xs.all (is Int)):xs=(xs.map (dec:PV->Int)).map enc:=by
 induction xs with
 | nil=>rfl
 | cons x xs ih=>
  simp only[cO,Ih]at h;rw[IG,IG,<- ih h.2];congr 1;cases x with
  | int k n=>cases k <;> first|rfl|cases h.1
  | _=>cases h.1
section
variable {α β:Type} [Enc α] [Enc β]
@[simp] theorem h7q (s : Nat) (t : Bool) (xs : List PV) : is (List α) (.sl s t xs) = ((xs.isEmpty || s == Enc.sz α) && xs.all (is α)) := rfl
@[simp] theorem g4q (s : Nat) (t : Bool) (xs : List PV) : (dec (.sl s t xs) : List α) = xs.map dec := rfl
@[simp] theorem i1p (a b : PV) : is (α × β) (.tup [a, b]) = (is α a && is β b) := rfl
@[simp] theorem h5d (a b : PV) : (dec (.tup [a, b]) : α × β) = (dec a, dec b) := rfl
@[simp] theorem i9d (n : Int) : is Int (.int .i64 n) = true := rfl
@[simp] theorem g9p (k : IntKind) (n : Int) : (dec (.int k n) : Int) = n := rfl
@[simp] theorem e0b (b : Bool) : is Bool (.bool b) = true := rfl
@[simp] theorem b9e (b : Bool) : (dec (.bool b) : Bool) = b := rfl
@[simp] theorem g4n (b : List UInt8) : is Str (.str b) = true := rfl
@[simp] theorem d8z (b : List UInt8) : (dec (.str b) : Str) = ⟨b⟩ := rfl
@[simp] theorem d6f : isL Unit [] = true := rfl
@[simp] theorem b7l {γ : Type} [EncL γ] (p : PV) (ps : List PV) : isL (α × γ) (p :: ps) = (is α p && isL γ ps) := rfl
@[simp] theorem c3j : (decL [] : Unit) = () := rfl
@[simp] theorem a9t {γ : Type} [EncL γ] (p : PV) (ps : List PV) : (decL (p :: ps) : α × γ) = (dec p, decL ps) := rfl
end
def NR{α:Type}(f:α->PV){l:List α}{k:Nat}(h:k<l.length):(l.map f).getD (k:Int).toNat default=f l[k]:=by simp[bG,h]
def BZ{α β:Type}[EncL α][Enc β]{F:α->β}{ps:List PV}{P:β->Prop}(a:α)(h:decL ps=a)(k:P (F a)): ∃ y,AV.pv (Zp F ps)=AV.pv (enc y)∧P y:=⟨F a,by rw[Zp,h],k⟩
def d5v{α:Type}[EncL α]{pre:α->Bool}{ps:List PV}(a:α)(h:isL α ps)(h2:decL ps=a)(k:pre a):preT pre ps:=by rw[preT,h,h2,k];rfl
def Zc{α β:Type}[EncL α][Enc β]{F:α->β}{ps:List PV}{P:β->Prop}(a:α)(h:ps=encL a)(k:P (F a)): ∃ y,AV.pv (Zp F ps)=AV.pv (enc y)∧P y:=BZ a (by rw[h,EncL.dec_encL]) k
def Zb{α:Type}[EncL α]{pre:α->Bool}{ps:List PV}(a:α)(h:ps=encL a)(k:pre a):preT pre ps:=by rw[h,f3o,k]
@[simp] theorem h7i {α : Type} [Enc α] : (dec : PV -> α) ∘ (enc : α -> PV) = id := by funext x; simp
@[simp] theorem h8u {α : Type} [Enc α] : (is α) ∘ (enc : α -> PV) = λ_ => true := by funext x; simp
@[simp] theorem j6m : Enc.sz Int = 1 := rfl
@[simp] theorem j5j : Enc.sz Bool = 1 := rfl
@[simp] theorem j6p : Enc.sz Str = 1 := rfl
@[simp] theorem j7g : Enc.sz UInt8 = 1 := rfl
@[simp] theorem j5n {α : Type} [Enc α] : Enc.sz (List α) = 1 := rfl
@[simp] theorem OE {α : Type} [Enc α] (l : List α) : (l.map enc).map dec = l := by simp [aN]
@[simp] theorem a3x {α : Type} [Enc α] (l : List α) : (l.map enc).all (is α) = true := by simp
end
open Go.Sort (Holds putRow putCells)
open Go.Proofs (encStr)
def d7k(ss:List (List UInt8)):List (List UInt8):=ss.mergeSort λx y=>decide (x<=y)
open Enc (enc dec is)
open EncL (encL decL isL)
section
abbrev X9:=Exit->Act->World->Prop
def a6e(K:Act->World->Prop)(Q:X9):X9
 | .normal,a,w=>K a w
 | e,a,w=>Q e a w
structure Lg (P:Program) (T:ZH) where
 W:Code->X9->Act->World->Prop
 Lp:Code->X9->Act->World->Prop
 mono : ∀ {c:Code} {Q Q':X9} {a w},W c Q a w->(∀ e a w,Q e a w->Q' e a w)->W c Q' a w
 skip : ∀ {Q:X9} {a w},Q .normal a w->W .skip Q a w
 label : ∀ {l:Nat} {Q:X9} {a w},Q .normal a w->W (.label l) Q a w
 exit : ∀ {id:Nat} {Q:X9} {a w},Q (.exit id) a w->W (.exit id) Q a w
 ret : ∀ {Q:X9} {a w},Q .ret a w->W .ret Q a w
 seq : ∀ {x y:Code} {Q:X9} {a w},W x (a6e (W y Q) Q) a w->W (.seq x y) Q a w
 cond : ∀ {c:Operand} {x y:Code} {b:Bool} {Q:X9} {a w},a.eval c = .bool b->W (if b then x else y) Q a w->W (.cond c x y) Q a w
 block : ∀ {id:Nat} {x:Code} {Q:X9} {a w},W x (IM id Q) a w->W (.block id x) Q a w
 loop : ∀ {x:Code} {Q:X9} {a w},Lp x Q a w->W (.loop x) Q a w
 round : ∀ {x:Code} {Q:X9} {a w},W x (a6e (Lp x Q) Q) a w->Lp x Q a w
 reg : ∀ {c:Ctx} {id:Nat} {ops:Array Oper} {draw:Bool} {ps:List PI} {deps:Option (List (List Nat))} {Q:X9} {st st':St} {a w},WS P ops 0 ops.toList=some ps ->
  (draw-> ∃ d,deps=some d∧AR ops.toList d∧Fu d ps)->(draw=false->deps=none)->UK c st a w->K8 T ps deps st=some st'->(∀ a w,UK c st' a w->Q .normal a w)->W (.region id ops draw) Q a w
def Mr{A B C:Prop}(f:A->C)(e:A=B):B->C:=λh=>f (e.mpr h)
abbrev GO:=AV×List AObj×List AObj->Prop
def Vo(A:Prop)(G:PV->Prop)(m:Mq)(T:ZH)(rs:List IRes)(ic:IC)(st:St){B:Prop}(e:A=B)(a:A=tP T ic [] st rs m G:=by kernel_rfl):B->Zh T 0 (Za rs G) ic [] st:=λh=>Zh.tp m (e.mpr h) a
def VP(A:Prop)(G:PV->Prop)(m:Mq)(T:ZH)(rs:List IRes)(ic:IC)(j n:Nat)(l:List (Nat×AV))(σ:ZC){B:Prop}(e:A=B)(a:A=tP T (hd ic j).1 (hd ic j).2 ⟨X5 n 0 l,σ⟩ rs m G:=by kernel_rfl):B->At T 0 (Za rs G) ic j n l σ:=λh=>At.tp m (e.mpr h) a
def tqc(A:Prop)(G:GO)(m:Mq)(T:ZH)(k:Nat)(rs:List IRes)(ic:IC)(st:St){B:Prop}(e:A=B)(a:A=tF T k ic [] st rs m G:=by kernel_rfl):B->Zh T k (ZA k rs G) ic [] st:=λh=>Zh.tf m (e.mpr h) a
def tqd(A:Prop)(G:GO)(m:Mq)(T:ZH)(k:Nat)(rs:List IRes)(ic:IC)(j n:Nat)(l:List (Nat×AV))(σ:ZC){B:Prop}(e:A=B)(a:A=tF T k (hd ic j).1 (hd ic j).2 ⟨X5 n 0 l,σ⟩ rs m G:=by kernel_rfl):B->At T k (ZA k rs G) ic j n l σ:=λh=>At.tf m (e.mpr h) a
def ck_{α:Type}{x:Option α}{a b:α}(h:x=some a)(e:a=b:=by kernel_rfl):x=some b:=h.trans (congrArg some e)
def f7p(K:Act->World->Prop)(Q:X9):a6e K Q=Exit.then K Q:=by funext e a w;cases e <;> rfl
abbrev U1:=Nat->St->(XE->St->Prop)->Prop
inductive TrX (P:Program) (XS:Nat->Code->Prop):Code->IC->Prop
 | skip:TrX P XS .skip .skip
 | label (l:Nat):TrX P XS (.label l) .skip
 | reg (id:Nat) (ops:Array Oper) (draw:Bool) (ps:List PI) (deps:Option (List (List Nat))) (hps:WS P ops 0 ops.toList=some ps)
   (hd:draw-> ∃ d,deps=some d∧AR ops.toList d∧Fu d ps) (hd':draw=false->deps=none):TrX P XS (.region id ops draw) (.reg ps deps)
 | seq {a b:Code} {x y:IC} (h:TrX P XS a x) (k:TrX P XS b y):TrX P XS (.seq a b) (.seq x y)
 | cond {c:Operand} {d:IOp} {a b:Code} {x y:IC} (hc:Y4 c=some d) (h:TrX P XS a x) (k:TrX P XS b y):TrX P XS (.cond c a b) (.cond d x y)
 | block {id:Nat} {a:Code} {x:IC} (h:TrX P XS a x):TrX P XS (.block id a) (.block id x)
 | loop {keep:List Nat} {a:Code} {x:IC} (h:TrX P XS a x):TrX P XS (.loop a) (.loop keep x)
 | exit (id:Nat):TrX P XS (.exit id) (.exit id)
 | ret:TrX P XS .ret .ret
 | ext {n:Nat} {sl:List Nat} {cd:Code} (h:XS n cd):TrX P XS cd (.ext n sl)
def Tr.x{P:Program}{XS:Nat->Code->Prop}{c:Code}{x:IC}(h:Tr P c x):TrX P XS c x:=by
 induction h with
 | skip=>exact .skip
 | label l=>exact .label l
 | reg id ops draw ps deps hps hd hd'=>exact .reg id ops draw ps deps hps hd hd'
 | seq h k ih1 ih2=>exact .seq ih1 ih2
 | cond hc h k ih1 ih2=>exact .cond hc ih1 ih2
 | block h ih=>exact .block ih
 | loop h ih=>exact .loop ih
 | exit id=>exact .exit id
 | ret=>exact .ret
inductive FrC where
 | seq (b:Code)|blk (id:Nat)|lp (b:Code)
inductive TrK (P:Program) (XS:Nat->Code->Prop):List FrC->List Fr->Prop
 | nil:TrK P XS [] []
 | seq {b:Code} {x:IC} {Kc:List FrC} {K:List Fr} (h:TrX P XS b x) (k:TrK P XS Kc K):TrK P XS (.seq b::Kc) (.seq x::K)
 | blk {id:Nat} {Kc:List FrC} {K:List Fr} (k:TrK P XS Kc K):TrK P XS (.blk id::Kc) (.blk id::K)
 | lp {b:Code} {keep:List Nat} {x:IC} {Kc:List FrC} {K:List Fr} (h:TrX P XS b x) (k:TrK P XS Kc K):TrK P XS (.lp b::Kc) (.lp keep x::K)
section
variable {P:Program} {T:ZH}
def KW(L:Lg P T):List FrC->X9->X9
 | [],Q=>Q
 | .seq b::K,Q=>a6e (L.W b (KW L K Q)) (KW L K Q)
 | .blk id::K,Q=>IM id (KW L K Q)
 | .lp b::K,Q=>a6e (L.Lp b (KW L K Q)) (KW L K Q)
def i0a(c:Ctx)(F:St->Prop):X9:=λe a w=>(e = .normal∨e = .ret)∧ ∃ st,F st∧UK c st a w
def h2k(L:Lg P T)(XS:Nat->Code->Prop)(E:U1)(c:Ctx):Prop:=∀ n cd,XS n cd-> ∀ (st:St) (a:Act) (w:World) (q:XE->St->Prop),UK c st a w->E n st q->L.W cd (λe a' w'=> ∃ x st',e=x.ex∧q x st'∧UK c st' a' w') a w
end
def X6(T:ZH)(E:U1)(k:Nat)(F:St->Prop)(f:IC ⊕ XE)(K:List Fr)(st:St):Prop:=
 ∀ (P:Program) (L:Lg P T) (XS:Nat->Code->Prop) (c:Ctx),h2k L XS E c->(∀ i m,k<=i->c.μ0 i m=none)-> ∀ Kc,TrK P XS Kc K-> ∀ a w,UK c st a w ->
  match f with
  | .inl ic=> ∀ cd,TrX P XS cd ic->L.W cd (KW L Kc (i0a c F)) a w
  | .inr x=>KW L Kc (i0a c F) x.ex a w
abbrev TE(T:ZH)(E:U1)(k:Nat)(F:St->Prop)(ic:IC)(K:List Fr)(st:St):Prop:=X6 T E k F (.inl ic) K st
def a6y(T:ZH)(E:U1)(k:Nat)(F:St->Prop)(G:PV->Prop)(H:AV×List AObj×List AObj->Prop):Leaf->Prop
 | .head b K S=>TE T E k F b K S
 | .fin p=>G p
 | .finO r=>H r
 | .ext n K S=>E n S λx S'=>X6 T E k F (.inr x) K S'
def e7o{c:Ctx}{st:St}{a:Act}{w:World}{o:Operand}{d:IOp}{b:Bool}(hr:UK c st a w)(ho:Y4 o=some d)(h:ev st.env d = .pv (.bool b)):a.eval o = .bool b:=by have e:=Yn hr.choose_spec.choose_spec.2.1 ho;rw[h]at e;have g:=Y6 e;generalize hq:a.eval _=q at g;cases g;rfl
def g2w{T:ZH}{E:U1}{s:Nat}{F:St->Prop}{z:Leaf->Prop}{k:Gone->DT}(I : ∀ n K S,z (.ext n K S)->E n S λx S'=>X6 T E s F (.inr x) K S')
  (H : ∀ st,(k (.done st)).sat (z)->F st) (D : ∀ keep b K st,(k (.head keep b K st)).sat (z)-> ∃ S,HZ s keep st=some S∧TE T E s F b (.lp keep b::K) S) :
  ∀ (n:Nat) {f:IC ⊕ XE} {K:List Fr} {st:St},(Mo T s n f K st k).sat (z)->X6 T E s F f K st:=by
 intro n
 induction n with
 | zero=>intro f K st h;exact h.elim
 | succ n ih=>
  intro f K st h P L XS c q j Kc g a w hr;cases f with
  | inl ic=>
   intro cd r;cases ic with
   | skip=>
    have:=ih h P L XS c q j Kc g a w hr;cases r with
    | skip=>exact L.skip this
    | label l=>exact L.label this
   | reg ps d=>
    simp only[Mo,a0z]at h;obtain⟨st1,h1,h2⟩:=d9m h;cases r with
    | reg id ops draw _ _ hps hd hd'=>exact L.reg hps hd hd' hr h1 λa w hr=>ih h2 P L XS c q j Kc g a w hr
   | seq x y=>
    cases r with
    | seq h1 h2=>exact L.seq (ih (f:=.inl x) h P L XS c q j (.seq _::Kc) (.seq h2 g) a w hr _ h1)
   | cond o x y=>
    cases r with
    | cond hc h1 h2=>
     simp only[Mo]at h;split at h
     ·rename_i v C;refine L.cond (e7o hr hc C) ?_;cases v with
      | true=>simp only[DT.sat]at h;rw[UY C]at h;exact ih (f:=.inl x) h P L XS c q j Kc g a w hr _ h1
      | false=>simp only[DT.sat]at h;rw[UY C]at h;exact ih (f:=.inl y) h P L XS c q j Kc g a w hr _ h2
     ·exact h.elim
   | block id x=>
    cases r with
    | block h1=>exact L.block (ih (f:=.inl x) h P L XS c q j (.blk id::Kc) (.blk g) a w hr _ h1)
   | loop keep x=>
    cases r with
    | loop h1=>obtain⟨S,B,u⟩:=D _ _ _ _ h;exact L.loop (L.round (u P L XS c q j (.lp _::Kc) (.lp h1 g) a w (e0g j hr B) _ h1))
   | exit id=>
    have:=ih h P L XS c q j Kc g a w hr;cases r with
    | exit _=>exact L.exit this
   | ret=>
    have:=ih h P L XS c q j Kc g a w hr;cases r with
    | ret=>exact L.ret this
   | ext i sl=>
    cases r with
    | ext hx=>
     simp only[Mo]at h;split at h
     ·rename_i S u;refine L.mono (q i cd hx S a w _ (e0g j hr u) (I _ _ _ h)) ?_;rintro e a' w' ⟨x,st',rfl,J,A⟩;exact J P L XS c q j Kc g a' w' A
     ·exact h.elim
  | inr x=>
   cases g with
   | nil=>
    cases x with
    | exit i=>exact h.elim
    | normal=>exact⟨.inl rfl,_,H _ h,hr⟩
    | ret=>exact⟨.inr rfl,_,H _ h,hr⟩
   | @seq b y Kc K hb g=>
    cases x with
    | normal=>exact ih (f:=.inl y) h P L XS c q j Kc g a w hr b hb
    | exit i=>exact ih (f:=.inr (.exit i)) (K:=K) h P L XS c q j Kc g a w hr
    | ret=>exact ih (f:=.inr .ret) (K:=K) h P L XS c q j Kc g a w hr
   | @lp b keep y Kc K hb g=>
    cases x with
    | normal=>obtain⟨S,B,u⟩:=D _ _ _ _ h;exact L.round (u P L XS c q j (.lp _::Kc) (.lp hb g) a w (e0g j hr B) _ hb)
    | exit i=>exact ih (f:=.inr (.exit i)) (K:=K) h P L XS c q j Kc g a w hr
    | ret=>exact ih (f:=.inr .ret) (K:=K) h P L XS c q j Kc g a w hr
   | @blk id Kc K g=>
    cases x with
    | normal=>exact ih (f:=.inr .normal) (K:=K) h P L XS c q j Kc g a w hr
    | ret=>exact ih (f:=.inr .ret) (K:=K) h P L XS c q j Kc g a w hr
    | exit i=>
     simp only[Mo]at h;show IM id (KW L Kc (i0a c F)) (.exit i) a w;split at h
     ·rename_i e;have e:i=id:=by simpa using e
      subst e
      have:=ih (f:=.inr .normal) (K:=K) h P L XS c q j Kc g a w hr;simp only[IM,fw];exact this
     ·rename_i e;have e : ¬ i=id:=by simpa using e
      have:=ih (f:=.inr (.exit i)) (K:=K) h P L XS c q j Kc g a w hr;simp only[IM,fo e];exact this
def i1f{T:ZH}{E:U1}{a:Nat}{F:St->Prop}{G:PV->Prop}{H:AV×List AObj×List AObj->Prop}{k:Gone->DT}
  (g : ∀ st,(k (.done st)).sat (a6y T E a F G H)->F st) (e : ∀ keep b K st,(k (.head keep b K st)).sat (a6y T E a F G H)-> ∃ S,HZ a keep st=some S∧TE T E a F b (.lp keep b::K) S)
  (n:Nat) {f:IC ⊕ XE} {K:List Fr} {st:St} (h:(Mo T a n f K st k).sat (a6y T E a F G H)):X6 T E a F f K st:=g2w (λ_ _ _ h=>h) g e n h
def d0i{T:ZH}{E:U1}{k:Nat}{F:St->Prop}{e:Md}{rs:List IRes}{G:PV->Prop}{H:AV×List AObj×List AObj->Prop}(keep:List Nat)(b:IC)(K:List Fr)(st:St)(h:(KN T k e rs (.head keep b K st)).sat (a6y T E k F G H)): ∃ S,HZ k keep st=some S∧TE T E k F b (.lp keep b::K) S:=by
 simp only[KN]at h;split at h
 ·rename_i S a;exact⟨S,a,h⟩
 ·exact h.elim
def g6v{T:ZH}{E:U1}{k:Nat}{F:St->Prop}{rs:List IRes}{G:PV->Prop}{H:AV×List AObj×List AObj->Prop}(st:St)(h:(KN T k .p rs (.done st)).sat (a6y T E k F G H)):Za rs G st:=by
 simp only[KN]at h;split at h
 ·rename_i vs b;obtain⟨a,σ',R',W',h1,h2⟩:=HM.d_ok _ h;exact⟨OJ a,by simp[fin,b,I1 _ h1],h2⟩
 ·exact h.elim
def mP(T:ZH)(E:U1)(f:IC ⊕ XE)(K:List Fr)(st:St)(rs:List IRes)(m:Mq)(G:PV->Prop):Prop:=(Mo T 0 100000 f K st (KN T 0 .p rs)).w (a6y T E 0 (Za rs G) G λ_=>False) m
def X6.mp{T:ZH}{E:U1}{f:IC ⊕ XE}{K:List Fr}{st:St}{rs:List IRes}(m:Mq){G:PV->Prop}{A:Prop}(h:A)(e:A=mP T E f K st rs m G:=by kernel_rfl):X6 T E 0 (Za rs G) f K st:=by subst e;exact i1f (λst h=>g6v st h) d0i _ (DT.w_ok h)
def h7s(T:ZH)(k:Nat):Gone->DT
 | .head keep b K st=>match HZ k keep st with
  | some S=>.leaf (.head b (.lp keep b::K) S)
  | none=>.bad 10
 | .done st=>.leaf (.head .skip [] st)
def j3w(T:ZH)(E:U1)(k:Nat)(F:St->Prop)(G:ZC->Prop):Leaf->Prop
 | .head b (fr::K) S=>TE T E k F b (fr::K) S
 | .head _ [] S=>G S.heap
 | .fin _=>False
 | .finO _=>False
 | .ext n K S=>E n S λx S'=>X6 T E k F (.inr x) K S'
def mH(T:ZH)(E:U1)(k:Nat)(f:IC ⊕ XE)(K:List Fr)(st:St)(m:Mq)(G:ZC->Prop):Prop:=(Mo T k 100000 f K st (h7s T k)).w (j3w T E k (λst=>G st.heap) G) m
def X6.mh{T:ZH}{E:U1}{k:Nat}{f:IC ⊕ XE}{K:List Fr}{st:St}(m:Mq){G:ZC->Prop}{A:Prop}(h:A)(e:A=mH T E k f K st m G:=by kernel_rfl):X6 T E k (λst=>G st.heap) f K st:=by
 subst e;refine g2w (λ_ _ _ h=>h) (λst h=>h) (λkeep b K st h=> ?_) _ (DT.w_ok h);simp only[h7s]at h;split at h
 ·rename_i S a;exact⟨S,a,h⟩
 ·exact h.elim
def TU:IC->List Fr->List (Nat×List Fr)
 | .seq a b,K=>TU a (.seq b::K)++TU b K
 | .cond _ a b,K=>TU a K++TU b K
 | .block id b,K=>TU b (.blk id::K)
 | .loop keep b,K=>TU b (.lp keep b::K)
 | .ext n _,K=>[(n,K)]
 | _,_=>[]
def xK(ic:IC)(i:Nat):List Fr:=(((TU ic []).find? (·.1==i)).map (·.2)).getD []
def AfX(T:ZH)(E:U1)(k:Nat)(F:St->Prop)(ic:IC)(i:Nat)(x:XE)(st:St):Prop:=X6 T E k F (.inr x) (xK ic i) st
/-- A mask as a number: each hexadecimal digit a step (0 the end,1 a demand,2 a test that is computed,3 a datum kept,4 a test with both ways,the first one's length in three digits;5 .. a datum named anew). -/
def dm(l:List (Mq->Mq)):Nat->Nat->Mq
 | 0,_=>.nil
 | f+1,n=>
  if n % 16=0 then .nil
  else if n % 16=1 then .req (dm l f (n / 16))
  else if n % 16=2 then .lit (dm l f (n / 16))
  else if n % 16=3 then .keep (dm l f (n / 16))
  else if n % 16=4 then .ask (dm l f (n / 65536 % 16 ^ (n / 16 % 4096))) (dm l f (n / 65536 / 16 ^ (n / 16 % 4096)))
  else(l.getD (n % 16 - 5) id) (dm l f (n / 16))
open Enc in
def dv(α:Type)[Enc α](m:Mq):Mq:=.abs α (λy=>AV.pv (enc y)) m
open Enc in
def dr(α:Type)[Enc α](m:Mq):Mq:=.abs α (λy=>AV.pv (PV.rptr (PV.cells (enc y)))) m
def dO(α:Type)[EncL α](m:Mq):Mq:=.abso α (λy=>AObj.box (dC AV.pv (EncL.encL y))) m
end
section
abbrev XR(r:Option Nat):Fence:={I8 with round:=r}
def b0q{r:Option Nat}{n:Nat}{P:Program}{f:FuncId}{args:Array Value}{w:World}{R:Ending->World->Prop}:CallsIn (XR r) n P f args w R ↔ Calls P f args w R:=callsIn_wide
def Rk{r:Option Nat}{ρ:Operand->Value}{o:Oper}(h : ∀ c,o.op ≠ .defer c):o.semAt r ρ=execOp ρ o:=by
 cases r with
 | none=>rw[Oper.semAt_none]
 | some l=>exact Oper.semAt_some l ρ o h
def b2c{P:Program}{o:Op}{p:POp}(h:Gt P o=some p): ∀ c,o ≠ .defer c:=by rintro c rfl;simp[Gt]at h
abbrev wd(ds:List Deferred)(a:Act):Act:={a with defers:=ds}
def b2i(ds:List Deferred)(a:Act):(wd ds a).eval=a.eval:=by funext o;cases o <;> rfl
def f4l(ds:List Deferred)(a:Act)(d:Option Tmp)(v:Value):(wd ds a).put d v=wd ds (a.put d v):=by cases d <;> rfl
def Ck{a:Act}(h:a.defers=[]):wd [] a=a:=by cases a;simp only at h;subst h;rfl
section
variable {P:Program} {c:Ctx} {T:ZH} {rd:Option Nat} {nn:Nat} {ds:List Deferred}
def Ph(B:Xa P T){ops:Array Oper}{Q:Exit->Act->World->Prop}{i L l:Nat}{o:Oper}{p:PI}{K:Act->World->Prop}{st st':St}{a:Act}{w:World}(ho:ops[i]? = some o)(g:QC P ops L o=some p)
  (hr:UK c st a w) (hs:NB T l p st=some st') (A : ∀ a' w',UK c st' a' w'->K (wd ds a') w'):wpOpIn (XR rd) nn P ops Q i K (wd ds a) w:=by
 obtain⟨μ,Φ,hg,he,hd⟩:=hr;have y : ∃ q,Gt P o.op=some q∧p.op=q∧p.dst=o.dst:=by
  unfold QC at g;split at g
  ·rw[Cm]at g;obtain⟨q,k,rfl⟩:=g;exact⟨q,k,rfl,rfl⟩
  ·simp only[Ib,Cm]at g;obtain⟨s,_,q,k,rfl⟩:=g;exact⟨q,k,rfl,rfl⟩
 obtain⟨q,k,C,z⟩:=y;unfold wpOpIn;simp only[ho];unfold NB at hs;split at hs
 ·cases hs
 ·rename_i r;cases hs;rw[EC g he r];simp only[aK,gp];refine⟨λ_ _=>trivial,?_⟩;rw[f4l];refine A _ _ ⟨μ,Φ,hg,?_,by rw[Uq];exact hd⟩;rw[<- z];exact Ct he .undef
 ·rename_i r;rw[Cm]at hs;obtain⟨⟨v,σ⟩,h1,rfl⟩:=hs;rw[EC g he r];simp only[gq];rw[C]at h1;have b:=e2h B k hg he h1;have fin : ∀ u w',Yz c μ Φ σ v u w'->K ((wd ds a).put o.dst u) w':=by rintro u w' ⟨μ',Φ',k1,k2,k3,k4⟩;rw[f4l];refine A _ _ ⟨μ',Φ',k3,?_,by rw[Uq];exact hd⟩;rw[<- z];exact Ct (he.mono k1 k2) k4
  unfold Oper.wpIn;refine⟨λ_ _=>trivial,?_⟩;rw[show(XR rd).round=rd from rfl,Rk (b2c k),b2i];unfold QZ at b;cases j:(execOp a.eval o).run P w with
  | halt h w'=>rw[j]at b;exact b.elim
  | ok n w'=>
   rw[j]at b;cases n <;> simp only at b
   ·exact fin _ _ b
   ·exact fin _ _ b
   ·refine⟨λh=>by simp[I8]at h,b0q.2 (Calls.mono b ?_)⟩;rintro e w'' ⟨u,rfl,hu⟩;exact fin _ _ hu
   all_goals exact b.elim
def c2u(k:Xa P T){ops:Array Oper}{Q:Exit->Act->World->Prop}{b:Nat}{e:St}(u : ∀ a w,UK c e a w->Q .normal (wd ds a) w): ∀ (l:List (Nat×PI)) (st:St) (a:Act) (w:World),
  (∀ q∈l,∃ o L,ops[q.1]? = some o∧QC P ops L o=some q.2)->UK c st a w->DD T b (l.map (·.2)) st=some e->wpOpsIn (XR rd) nn P ops Q (l.map (·.1)) (wd ds a) w:=by
 intro l
 induction l with
 | nil=>intro st a w _ hr h;simp[DD]at h;subst h;exact u a w hr
 | cons q l ih=>intro st a w j hr h;simp only[IG,DD,Ib]at h;obtain⟨i,h1,h2⟩:=h;obtain⟨o,L,ho,s⟩:=j q (by simp);rw[IG,wpOpsIn_cons];exact Ph k ho s hr h1 (λa' w' g=>ih i a' w' (λz r=>j z (by simp[r])) g h2)
def b9g(hT:Xa P T){ops:Array Oper}{dep:Nat->Nat->Bool}(hE:Edges ops dep){Q:Exit->Act->World->Prop}{base:Nat}{stF:St}(hQ : ∀ a w,UK c stF a w->Q .normal (wd ds a) w): ∀ (fuel:Nat) (b:Array Bool) (rest:List (Nat×PI)) (st:St) (a:Act) (w:World) (tr:List FP),
  fuel=rest.length->b.size=ops.size->(∀ i,i<ops.size->(b[i]? = some false ↔ i∈rest.map (·.1)))->(∀ q∈rest,q.1<ops.size∧ ∃ o L,ops[q.1]? = some o∧QC P ops L o=some q.2) ->
  (rest.map (·.1)).Pairwise (· < ·)->rest.Pairwise (λx y=>dep x.1 y.1=true∨apartP x.2 y.2)->(∀ d i,i<ops.size->dep d i->i ∉ rest.map (·.1)->d ∉ rest.map (·.1)) ->
  UK c st a w->runF T base rest st=some (stF,tr)->tr.Pairwise (λx y=>dep x.1 y.1=true∨fpOK x y)->wpAnyIn (XR rd) nn P .any ops Q fuel b (wd ds a) w:=by
 intro fuel
 induction fuel with
 | zero=>
  intro b rest st a w tr hf hl hm hi l S U hr D Y;have:rest=[]:=aF hf.symm;subst this;simp[runF]at D;obtain⟨rfl,_⟩:=D;refine⟨?_,hQ a w hr⟩;unfold aS;rw[List.filter_eq_nil_iff];intro i r;simp only[cB]at r
  have:=hm i r;simp only[dD,List.not_mem_nil,iff_false]at this;have C:i<b.size:=by omega
  have e:b[i]? = some b[i]:=Ij C;rw[e]at this;have ht:b[i]:=by
   cases hb:b[i]with
   | true=>rfl
   | false=>rw[hb]at this;exact absurd rfl this
  simp[Iu,e,ht]
 | succ fuel ih=>
  intro b rest st a w tr hf hl hm hi l S U hr D Y;have hmem : ∀ i,i<ops.size->b.getD i true=false->i∈rest.map (·.1):=by
   intro i K hg;refine(hm i K).1 ?_;have C:i<b.size:=by omega
   have e:b[i]? = some b[i]:=Ij C;simp[Iu,e]at hg;rw[e,hg]
  have V : ∀ i,b.getD i false->i<ops.size∧i ∉ rest.map (·.1):=by
   intro i hg;have C:i<b.size:=by
    rcases dA i b.size with h|h
    ·exact h
    ·simp[Iu,Array.getElem?_eq_none h]at hg
   have e:b[i]? = some b[i]:=Ij C;simp[Iu,e]at hg;refine⟨by omega,λH=> ?_⟩
   have:=(hm i (by omega)).2 H;rw[e,hg]at this;cases this
  refine⟨?_,?_⟩
  ·intro Z;exfalso;cases rest with
   | nil=>simp at hf
   | cons q rest=>
    obtain⟨h1,o,L,ho,_⟩:=hi q (by simp);have H:q.1∈aS .any ops b:=by
     unfold aS;rw[bq];refine⟨by simpa using h1,?_⟩;have e1:b[q.1]? = some false:=(hm q.1 h1).2 (by simp);simp only[ho,Ir,bX,Ih];refine⟨by simp[Iu,e1],?_⟩;rw[bN];intro k hk;cases hb:dE .any o.after[k]with
     | false=>simp
     | true=>
      have hon:=hE.fwd q.1 o ho o.after[k] (Array.getElem_mem hk) hb;have C:o.after[k].on<ops.size:=by omega
      have J:o.after[k].on ∉ (q::rest).map (·.1):=by
       intro X;rw[IG,bI]at l;rcases bC.1 X with h|h
       ·have h:o.after[k].on=q.1:=h;omega
       ·have:q.1<o.after[k].on:=l.1 _ h;omega
      have hlt':o.after[k].on<b.size:=by omega
      have e2:b[o.after[k].on]? = some b[o.after[k].on]:=Ij hlt';have e3:b[o.after[k].on]:=by
       cases hb2:b[o.after[k].on]with
       | true=>rfl
       | false=>exact absurd ((hm _ C).1 (by rw[e2,hb2])) J
      simp[Iu,e2,e3]
    rw[Z]at H;cases H
  ·intro i r;unfold aS at r;rw[bq]at r;obtain⟨r,O⟩:=r;simp only[cB]at r;simp only[Ih,bK]at O;obtain⟨hl0,hready⟩:=O;have H:=hmem i r hl0;obtain⟨q,hq,hqi⟩:=I9.1 H;obtain⟨A,B,hAB⟩:=List.append_of_mem hq;obtain⟨j,p⟩:=q;simp only at hqi;subst hqi;subst hAB;obtain⟨_,o,L,ho,hp⟩:=hi (j,p) hq;simp only at ho hp;simp only[ho,Ir,bX]at hready;rw[bN]at hready;have z : ∀ e∈o.after,dE .any e->b.getD e.on false:=by
    intro e he hb;obtain⟨k,hk,rfl⟩:=Array.getElem_of_mem he
    have:=hready k hk;simpa [hb]using this
   have hA : ∀ q∈A,dep q.1 j=false∧apartP q.2 p:=by
    intro q hqA;have hd:dep q.1 j=false:=by
     cases E:dep q.1 j with
     | false=>rfl
     | true=>
      exfalso;obtain⟨e,he,hb,g⟩:=hE.clo j o q.1 ho E;obtain⟨h1,h2⟩:=V _ (z e he hb);have M:q.1∈(A++(j,p)::B).map (·.1):=I9.2 ⟨q,by simp[hqA],rfl⟩;rcases g with g|g
      ·rw[g]at M;exact h2 M
      ·exact U q.1 e.on h1 g h2 M
    refine⟨hd,?_⟩;rw[ax]at S
    have:=S.2.2 q hqA (j,p) (by simp);rcases this with h|h
    ·simp only at h;rw[hd]at h;cases h
    ·exact h
   obtain⟨st1,R,W,tr',k1,k2,k3,k4⟩:=h7x A D hA Y;refine Ph hT ho hp hr (Ri k1) ?_;intro a' w' hr';have I:(A++B).Sublist (A++(j,p)::B):=List.Sublist.append (List.Sublist.refl _) (List.sublist_cons_self _ _);have N:((A++B).map (·.1)).Sublist ((A++(j,p)::B).map (·.1)):=I.map _;have hjn:j ∉ (A++B).map (·.1):=by
    rw[aB,IG,ax]at l;obtain⟨s1,s2,s3⟩:=l;rw[bI]at s2;intro hj;rw[aB,aX]at hj;rcases hj with hj|hj
    ·have:=s3 j hj j (by simp);omega
    ·have:=s2.1 j hj;omega
   have hmm : ∀ F,F≠j->(F∈(A++B).map (·.1) ↔ F∈(A++(j,p)::B).map (·.1)):=by
    intro F u;rw[aB,aB,IG,aX,aX,bC];constructor
    ·rintro(h|h)
     ·exact .inl h
     ·exact .inr (.inr h)
    ·rintro(h|h|h)
     ·exact .inl h
     ·exact absurd h u
     ·exact .inr h
   refine ih (b.setIfInBounds j true) (A++B) st1 a' w' tr' (by simp at hf ⊢;omega) (by simpa using hl) ?_ (λq hq=>hi q (I.subset hq)) (l.sublist N) (S.sublist I) ?_ hr' k2 (Y.sublist k3)
   ·intro F K;by_cases u:F=j
    ·subst u;rw[Array.getElem?_setIfInBounds_self_of_lt (by omega)];simp only[Ic,Bool.true_eq_false,false_iff];exact hjn
    ·rw[Array.getElem?_setIfInBounds_ne (Ne.symm u),hm F K,hmm F u]
   ·intro d F K E J hdin;have s:=N.subset hdin;by_cases u:F=j
    ·subst u;obtain⟨e,he,hb,g⟩:=hE.clo F o d ho E;obtain⟨h1,h2⟩:=V _ (z e he hb);rcases g with g|g
     ·rw[g]at s;exact h2 s
     ·exact U d e.on h1 g h2 s
    ·exact U d F K E (λh=>J ((hmm F u).2 h)) s
def c2o(A:Xa P T)(r:P.follows .mixedOrders){id:Nat}{ops:Array Oper}{draw:Bool}{ps:List PI}{deps:Option (List (List Nat))}(hps:WS P ops 0 ops.toList=some ps)
  (hd:draw-> ∃ d,deps=some d∧AR ops.toList d∧Fu d ps) (hd':draw=false->deps=none) {Q:Exit->Act->World->Prop} {st st':St} {a:Act} {w:World} (hr:UK c st a w) (b:K8 T ps deps st=some st')
  (B : ∀ a w,UK c st' a w->Q .normal (wd ds a) w):(Code.region id ops draw).wpIn (XR rd) nn P Q (wd ds a) w:=by
 obtain⟨e,y⟩:=a2o hps;have g : ∀ q∈CZ ps,q.1<ops.size∧ ∃ o L,ops[q.1]? = some o∧QC P ops L o=some q.2:=by
  intro q z;have k:=c4y z;have hlt:=(Ig.1 k).1;have j:q.1<ops.size:=by simp at e;omega
  obtain⟨L,E⟩:=y q.1 ops[q.1] q.2 (by simp[j]) k;exact⟨j,ops[q.1],L,Ij j,E⟩
 cases draw with
 | false=>
  rw[hd' rfl]at b;refine wpIn_region ?_
  have:=c2u (rd:=rd) (nn:=nn) (ds:=ds) A (ops:=ops) (Q:=Q) B (CZ ps) (Pl.grow st (news ps)) a w (λq z=>(g q z).2) (hr.grow _) (by rw[Af];exact b);rw[UV,e]at this;simpa using this
 | true=>
  obtain⟨d,rfl,F,ha⟩:=hd rfl;simp only[K8,Ib]at b;obtain⟨⟨st1,C⟩,b,hif⟩:=b;simp only at hif;split at hif
  ·rename_i s;cases hif;refine wpIn_region_any r ?_;have u:UK c (Pl.grow st (news ps)) a {w with drawn:=w.drawn+1}:=by obtain⟨μ,Φ,hg,he',hd2⟩:=hr.grow (news ps);exact⟨μ,Φ,hg.drew,he',hd2⟩
   have D:ops.size=(CZ ps).length:=by have:=congrArg bO (UV ps);simp at this e;omega
   refine b9g A (a8m F) B ops.size (IR ops.size false) (CZ ps) (Pl.grow st (news ps)) a _ C D (by simp) ?_ g ?_ ?_ ?_ u b ?_
   ·intro i hi;rw[UV];have:i<ps.length:=by simp at e;omega
    simp[hi,this]
   ·rw[UV];exact List.pairwise_lt_range
   ·exact(Tg ha).imp (λh=>by simpa using h)
   ·intro d' i hi _ l;exfalso;apply l;rw[UV];simp at e ⊢;omega
   ·exact(Tg s).imp (λh=>by simpa using h)
  ·cases hif
def d4w(rd:Option Nat)(nn:Nat)(P:Program)(g:Code)(Q:X9)(a:Act)(w:World):Prop:=∀ (b:Frame) (k:List Item) (cs:List Frame),b.roundOf=(XR rd).round->(XR rd).fn b.fn->(XR rd).room (cs.length+1+nn)-> ∃ e a' w',Q e a' w'∧ArrivesIn (Machine.fenced P (XR rd)) P (lone (b.atR a (.code g:: .inLoop g::k)) cs w) b k cs e a' w'
def a4j(rd:Option Nat)(nn:Nat){P:Program}{T:ZH}(z:Xa P T)(r:P.follows .mixedOrders):Lg P T where
 W c Q a w:=c.wpIn (XR rd) nn P Q a w
 Lp:=d4w rd nn P
 mono h i:=IA h i
 skip h:=wpIn_skip h
 label h:=wpIn_label h
 exit h:=wpIn_exit h
 ret h:=wpIn_ret h
 seq h:=by rw[f7p]at h;exact wpIn_seq h
 cond hc h:=wpIn_cond hc h
 block h:=wpIn_block h
 loop h:=λb k cs j hb hr=>by obtain⟨e,a',w',i,g⟩:=h b k cs j hb hr;exact⟨e,a',w',i,.of_steps (.one (fenced_calm hb hr rfl) stepR_loop) g⟩
 round {x Q a w} h:=λb k cs j hb hr=>by
  obtain⟨e,u,s,i,g⟩:=h b (.inLoop x::k) cs j hb hr;cases e with
  | normal=>obtain⟨A,B,C,y,q⟩:=i b k cs j hb hr;exact⟨A,B,C,y,.of_steps (StepsIn.trans g (.one (fenced_calm hb hr rfl) stepR_inLoop)) q⟩
  | exit id=>exact⟨_,u,s,i,.pass (x:=.inLoop x) rfl (λ_ _=>.inl (by simp)) g⟩
  | goto l=>exact⟨_,u,s,i,.pass (x:=.inLoop x) rfl (λ_ _=>.inl (by simp)) g⟩
  | ret=>exact⟨_,u,s,i,.pass (x:=.inLoop x) rfl (λ_ _=>.inl (by simp)) g⟩
  | panic ch=>exact⟨_,u,s,i,.pass (x:=.inLoop x) rfl (λ_ _=>.inl (by simp)) g⟩
  | outgrown=>exact⟨_,u,s,i,.pass (x:=.inLoop x) rfl (λ_ _=>.inl (by simp)) g⟩
 reg hps hd hd' hr hrun hQ:=by have e:=Ck hr.choose_spec.choose_spec.2.2;show Code.wpIn _ _ _ _ _ _ _;rw[<- e];exact c2o (rd:=rd) (nn:=nn) (ds:=[]) z r hps hd hd' hr hrun (λa w h=>by rw[Ck h.choose_spec.choose_spec.2.2];exact hQ a w h)
end
end
section
def b4b:Operand->List Nat
 | .tmp t=>[t]
 | _=>[]
def Jh:Code->List Nat
 | .region _ ops _=>ops.toList.flatMap λo=>o.op.operands.toList.flatMap b4b++(match o.op with | .call c=>(match c.callee with | .value f=>b4b f|_=>[])|_=>[])
 | .seq a b=>Jh a++Jh b
 | .cond c a b=>b4b c++(Jh a++Jh b)
 | .block _ a | .loop a | .scope a=>Jh a
 | .rangeFunc f _ a b=>b4b f++(Jh a++Jh b)
 | _=>[]
def Da(P:Program)(sel:Code->Bool):Code->Nat->Option (IC×List Code)
 | .seq a b,n=>if sel (.seq a b)then some (.ext n (Jh (.seq a b)).eraseDups,[.seq a b])else(Da P sel a n).bind λ(x,l)=>(Da P sel b (n+l.length)).map λ(y,m)=>(.seq x y,l++m)
 | .cond c a b,n=>(Y4 c).bind λd=>(Da P sel a n).bind λ(x,l)=>(Da P sel b (n+l.length)).map λ(y,m)=>(.cond d x y,l++m)
 | .block id a,n=>if sel (.block id a)then some (.ext n (Jh a).eraseDups,[.block id a])else(Da P sel a n).map λ(x,l)=>(.block id x,l)
 | .loop a,n=>(Da P sel a n).map λ(x,l)=>(.loop [] x,l)
 | .scope a,n=>if sel (.scope a)then some (.ext n (Jh a).eraseDups,[.scope a])else none
 | c,n=>if sel c then some (.ext n (Jh c).eraseDups,[c])else(UE P c).map λx=>(x,[])
def f8a{P:Program}{sel:Code->Bool}{XS:Nat->Code->Prop}: ∀ {c:Code} {n:Nat} {x:IC} {l:List Code},Da P sel c n=some (x,l)->(∀ (i:Nat) cd,l[i]? = some cd->XS (n+i) cd)->TrX P XS c x:=by
 have g : ∀ {c:Code} {n:Nat} {x:IC} {l:List Code},(if sel c then some (IC.ext n (Jh c).eraseDups,[c])else(UE P c).map λx=>(x,[]))=some (x,l)->(∀ (i:Nat) cd,l[i]? = some cd->XS (n+i) cd)->TrX P XS c x:=by
  intro c n x l h e;split at h
  ·simp only[Ic,Ia]at h;obtain⟨rfl,rfl⟩:=h;exact .ext (e 0 c rfl)
  ·rw[Cm]at h;obtain⟨y,h1,h2⟩:=h;simp only[Ia]at h2;obtain⟨rfl,rfl⟩:=h2;exact(PD h1).x
 intro c
 induction c with
 | seq a b iha ihb=>
  intro n x l h e;simp only[Da]at h;split at h
  ·simp only[Ic,Ia]at h;obtain⟨rfl,rfl⟩:=h;exact .ext (e 0 _ rfl)
  ·simp only[Ib,Cm]at h;obtain⟨⟨y,j⟩,h1,⟨z,k⟩,h2,h3⟩:=h;simp only[Ia]at h3;obtain⟨rfl,rfl⟩:=h3;refine .seq (iha h1 λi cd hi=>e i cd ?_) (ihb h2 λi cd hi=> ?_)
   ·rw[aO (Ig.1 hi).1];exact hi
   ·have:=e (j.length+i) cd (by rw[aL (by omega)];simpa using hi)
    rwa [cZ]
 | cond c a b iha ihb=>
  intro n x l h e;simp only[Da,Ib,Cm]at h;obtain⟨d,h0,⟨y,j⟩,h1,⟨z,k⟩,h2,h3⟩:=h;simp only[Ia]at h3;obtain⟨rfl,rfl⟩:=h3;refine .cond h0 (iha h1 λi cd hi=>e i cd ?_) (ihb h2 λi cd hi=> ?_)
  ·rw[aO (Ig.1 hi).1];exact hi
  ·have:=e (j.length+i) cd (by rw[aL (by omega)];simpa using hi)
   rwa [cZ]
 | block id a ih=>
  intro n x l h e;simp only[Da]at h;split at h
  ·simp only[Ic,Ia]at h;obtain⟨rfl,rfl⟩:=h;exact .ext (e 0 _ rfl)
  ·rw[Cm]at h;obtain⟨⟨y,j⟩,h1,h3⟩:=h;simp only[Ia]at h3;obtain⟨rfl,rfl⟩:=h3;exact .block (ih h1 e)
 | loop a ih=>intro n x l h e;simp only[Da,Cm]at h;obtain⟨⟨y,j⟩,h1,h3⟩:=h;simp only[Ia]at h3;obtain⟨rfl,rfl⟩:=h3;exact .loop (ih h1 e)
 | scope a ih=>
  intro n x l h e;simp only[Da]at h;split at h
  ·simp only[Ic,Ia]at h;obtain⟨rfl,rfl⟩:=h;exact .ext (e 0 _ rfl)
  ·cases h
 | skip=>intro n x l h e;exact g h e
 | label _=>intro n x l h e;exact g h e
 | region _ _ _=>intro n x l h e;exact g h e
 | rangeFunc _ _ _ _ _ _=>intro n x l h e;exact g h e
 | exit _=>intro n x l h e;exact g h e
 | goto _=>intro n x l h e;exact g h e
 | ret=>intro n x l h e;exact g h e
 | refuse _=>intro n x l h e;exact g h e
def g5v{P:Program}{XS:Nat->Code->Prop}: ∀ {c:Code} {x:IC},TrX P XS c x-> ∀ (ex:List (Nat×List Nat)) (out l:List Nat),TrX P XS c (DX ex out x l).1:=by
 intro c x h
 induction h with
 | skip=>intro ex out l;exact .skip
 | label n=>intro ex out l;exact .label n
 | reg id ops draw ps deps hps hd hd'=>intro ex out l;exact .reg id ops draw ps deps hps hd hd'
 | seq h k ih1 ih2=>intro ex out l;exact .seq (ih1 _ _ _) (ih2 _ _ _)
 | cond hc h k ih1 ih2=>intro ex out l;exact .cond hc (ih1 _ _ _) (ih2 _ _ _)
 | block h ih=>intro ex out l;exact .block (ih _ _ _)
 | loop h ih=>intro ex out l;exact .loop (ih _ _ _)
 | exit id=>intro ex out l;exact .exit id
 | ret=>intro ex out l;exact .ret
 | ext h=>intro ex out l;exact .ext h
def icX(P:Program)(sel:Code->Bool)(f:Func):Option (IC×List Code):=(f.body.bind λb=>Da P sel b 0).map λ(x,l)=>((DX [] (f.results.toList.map d8i) x []).1,l)
def d5d(P:Program)(sel:Code->Bool)(f:Func):Option IC:=(icX P sel f).map (·.1)
def Nu(P:Program)(sel:Code->Bool)(f:Func)(n:Nat):Option Code:=(icX P sel f).bind λx=>x.2[n]?
def g0v{P:Program}{sel:Code->Bool}{f:Func}{ic:IC}(h:d5d P sel f=some ic): ∃ cd,f.body=some cd∧TrX P (λn cd=>Nu P sel f n=some cd) cd ic:=by unfold d5d at h;rw[Cm]at h;obtain⟨⟨y,l⟩,h1,rfl⟩:=h;have a:=h1;unfold icX at h1;simp only[Cm,Ib]at h1;obtain⟨⟨x,l'⟩,⟨b,hb,e⟩,h3⟩:=h1;simp only[Ia]at h3;obtain⟨rfl,rfl⟩:=h3;exact⟨b,hb,g5v (f8a e λi cd hi=>by simp only[Nu,a,IP,aT];exact hi) _ _ _⟩
section
variable {P:Program} {T:ZH} {E:U1} {f:Nat} {fn:Func} {ic:IC} {rs:List IRes}
def i0r{Φ:Yk}{w w':World}{a':Act}{st:St}{r:PV}(i:Vj (WR P) fn.results.toList=some rs)(hr:UK (Y7 (λ_ _=>none) Φ [] w) st a' w')(a:fin st rs=some r):
  a'.defers=[]∧ ∃ v,(results fn a'.tmps).run P w' = .ok v w'∧ ∃ v' g,I7 v = .returned v'∧Yk.le Φ g∧UL g w'∧RP g v' r∧Below w.heap.size w w'∧ ∀ b cs,g b=some cs->Φ b=some cs∨w.heap.size<=b:=by
 obtain⟨μ,Φ',hg',he',hd'⟩:=hr;refine⟨hd',?_⟩;unfold fin at a;simp only[Ib,Ic]at a;obtain⟨xs,hxs,⟨qs,σ2⟩,hfr,hq⟩:=a;obtain⟨A,s,y⟩:=Ga hg' he' i hxs;obtain⟨Φ2,f1,f2,f3⟩:=Kr xs hfr hg' y;refine⟨_,s,_,Φ2,rfl,f2.Φle,f2.phi,?_,⟨f2.os,f2.tape,f2.output,f2.size,λk B=>f2.frame k B (by rintro⟨l,o,h,_⟩;simp at h)⟩,?_⟩
 ·rw[<- hq]
  match A,qs,f3 with
  | [],[],_=>exact .tup _ _ rfl (λj v x h=>by simp at h)
  | [u],[q],f3=>exact f3.2 0 u q rfl rfl
  | D::u2::A,q1::q2::qs,f3=>
   have e : ¬ ((D::u2::A).toArray.size=1):=by simp
   rw[gV e];exact .tup _ _ (by have:=f3.1;simpa using this) (λj v x C F=>f3.2 j v x (by simpa using C) F)
  | [],_::_,f3=>have:=f3.1;simp at this
  | _::_,[],f3=>have:=f3.1;simp at this
  | [_],_::_::_,f3=>have:=f3.1;simp at this
  | _::_::_,[_],f3=>have:=f3.1;simp at this
 ·intro b cs z;rcases f2.dom b cs z with h|h|h
  ·exact .inl h
  ·exact .inr h
  ·obtain⟨l,o,h,_⟩:=h;simp at h
end
noncomputable def Xx(f:Func):IC:=(a4i Proofs.Tryz.prog f).getD .skip
noncomputable def icx(s:Code->Bool)(f:Func):IC:=(d5d Proofs.Tryz.prog s f).getD .skip
end
def Good.freezeBox{c:Ctx}{μ:Mu}{Φ:Yk}{σ:ZC}{w:World}{l:Nat}{ps:List PV}(h:Good c μ Φ σ w)(u:σ[l]? = some (.obj (.box (ps.map .pv)))):
  ∃ Φ' B C S cs,Φ.le Φ'∧Good c μ Φ' (σ.set l .dead) w∧μ l 0=some (B,C,S)∧Φ' B=some cs∧Un Φ cs.toList ps∧XZ cs.toList:=by
 obtain⟨B,C,S,T,cs,h1,h2,h3,K,H⟩:=h.obj l _ u;have i:blk μ l (.box (ps.map .pv))=B:=by simp[blk,h1]
 have r:Φ.le (Φ.add B cs):=by
  intro b x a;unfold Yk.add;split
  ·rename_i e;subst e;rw[H]at a;cases a
  ·exact a
 have hps:Un Φ cs.toList ps:=by refine⟨by have:=h3.1;simpa using this,λj v p F E=> ?_⟩;exact Y6 (h3.2 j v (.pv p) F (by simp[Im,E]))
 refine⟨Φ.add B cs,B,C,S,cs,r,?_,h1,by simp[Yk.add],hps,K⟩;have s:l<σ.length:=(Ig.1 u).1;have g : ∀ l' o,(σ.set l .dead)[l']? = some (.obj o)->l'≠l∧σ[l']? = some (.obj o):=by
  intro l' o a;by_cases e:l=l'
  ·subst e;rw[IJ s]at a;cases a
  ·rw[Iy e]at a;exact⟨λI=>e I.symm,a⟩
 constructor
 ·intro b x a;unfold Yk.add at a;split at a
  ·rename_i e;subst e;cases a;exact⟨_,_,h2⟩
  ·exact h.phi b x a
 ·intro l' o a;obtain⟨q,a⟩:=g l' o a;have hb:=h.apart l' l o _ q a u;rw[i]at hb;exact((h.obj l' o a).keep (Mu.le.refl _) (λ_=>rfl) r (by simp[Yk.add,hb]) rfl).1
 ·intro D y A z q k1 J;exact h.apart D y A z q (g D A k1).2 (g y z J).2
 ·intro l' n a;refine h.fresh l' n ?_;by_cases e:l=l'
  ·subst e;rw[IJ s]at a;rcases a with a|a <;> cases a
  ·rwa [Iy e]at a
 ·intro l' o a;exact h.own l' o (g l' o a).2
 ·exact h.os
 ·exact h.tape
 ·exact h.output
 ·exact h.size
 ·exact h.frame
 ·exact h.Φle.trans r
 ·exact h.μle
 ·intro b x a;unfold Yk.add at a;split at a
  ·rename_i e;subst e;rcases h.own l _ u with k|k
   ·rw[i]at k;exact .inr (.inl k)
   ·rw[i]at k;exact .inr (.inr k)
  ·exact h.dom b x a
 ·exact h.laid
section
section
variable {P:Program} {T:ZH} {c:Ctx} {μ μ':Mu} {Φ Φ':Yk} {σ σ':ZC} {w w':World}
def Good.rebase(h:Good c μ Φ σ w):Good (Y7 μ Φ σ w) μ Φ σ w where
 phi:=h.phi
 obj:=h.obj
 apart:=h.apart
 fresh:=h.fresh
 own:=λl o a=>.inr ⟨l,o,a,rfl⟩
 os:=rfl
 tape:=rfl
 output:=rfl
 size:=II _
 frame:=λ_ _ _=>rfl
 Φle:=.refl _
 μle:=.refl _
 dom:=λb cs hb=>.inl hb
 laid:=h.laid.mono h.Φle
def Good.unbase(h:Good c μ Φ σ w)(k:Good (Y7 μ Φ σ w) μ' Φ' σ' w'):Good c μ' Φ' σ' w':=by
 have ho : ∀ b,(Y7 μ Φ σ w).own b->c.w0.heap.size<=b∨c.own b:=by rintro b ⟨l,o,a,rfl⟩;exact h.own l o a
 have hs:c.w0.heap.size<=w.heap.size:=h.size;have e:w.heap.size<=w'.heap.size:=k.size;refine⟨k.phi,k.obj,k.apart,k.fresh,?_,k.os.trans h.os,k.tape.trans h.tape,k.output.trans h.output,IK hs e,?_,h.Φle.trans k.Φle,h.μle.trans k.μle,?_,h.laid⟩
 ·intro l o a;rcases k.own l o a with h1|h1
  ·exact .inl (IK hs h1)
  ·exact ho _ h1
 ·intro b hb hn;have : ¬ (Y7 μ Φ σ w).own b:=λg=>(ho b g).elim (by omega) hn
  exact(k.frame b (IU hb hs) this).trans (h.frame b hb hn)
 ·intro b cs hb;rcases k.dom b cs hb with h1|h1|h1
  ·exact h.dom b cs h1
  ·exact .inr (.inl (IK hs h1))
  ·exact .inr (ho b h1)
def Pq(B:Nat)(ds:List Deferred)(w:World):Prop:=ds.Nodup∧ ∀ d∈ds,∃ D,B<=D∧d={target:=.collected D,args:=#[]}∧w.heap[D]? = some (.deferred (some []))
def f2k(σ:ZC):Prop:= ∀ (l:Nat) (es:List (PV×PV)),σ[l]? ≠ some (Slot.obj (AObj.map es))
def g5n(h:Good c μ Φ σ w){b:Nat}(hb:(Y7 μ Φ σ w).own b): ∃ o,w.heap[b]? = some o∧((∃ cs T fz,o = .cells cs T fz)∨((∃ es e,o = .map es e)∧ ¬ f2k σ)):=by
 obtain⟨l,o,a,rfl⟩:=hb;have hi:=h.obj l o a;cases o with
 | box xs=>obtain⟨B,C,S,T,cs,h1,h2,_⟩:=hi;exact⟨_,by simpa [blk,h1]using h2,.inl ⟨_,_,_,rfl⟩⟩
 | row fz ty sz xs=>obtain⟨B,C,cs,h1,_,⟨_,h2,_⟩,_⟩:=hi;exact⟨_,by simpa [blk,h1]using h2,.inl ⟨_,_,_,rfl⟩⟩
 | map es=>obtain⟨B,C,S,mes,e,h1,h2,_⟩:=hi;exact⟨_,by simpa [blk,h1]using h2,.inr ⟨⟨_,_,rfl⟩,λhn=>hn l es a⟩⟩
def Good.keeps(h:Good c μ Φ σ w)(k:Good (Y7 μ Φ σ w) μ' Φ' σ' w'){b:Nat}{o:Obj}(hb:w.heap[b]? = some o)(ho:o.isCells=false)(hm:f2k σ ∨ ∀ es e,o ≠ .map es e):w'.heap[b]? = some o:=by
 have a:=(Ii.1 hb).1;refine(k.frame b a λg=> ?_).trans hb;obtain⟨o',h1,h2⟩:=g5n h g;rw[hb]at h1;cases h1;rcases h2 with ⟨_,_,_,rfl⟩|⟨⟨es,e,rfl⟩,h3⟩
 ·simp[Obj.isCells]at ho
 ·rcases hm with hm|hm
  ·exact h3 hm
  ·exact hm _ _ rfl
def Pq.keep{B:Nat}{ds:List Deferred}(hm:Pq B ds w)(h:Good c μ Φ σ w)(k:Good (Y7 μ Φ σ w) μ' Φ' σ' w'):Pq B ds w':=by refine⟨hm.1,λd hd=> ?_⟩;obtain⟨D,a,h1,h2⟩:=hm.2 d hd;exact⟨D,a,h1,h.keeps k h2 rfl (.inr λ_ _ e=>by cases e)⟩
def MQ(B:Nat)(Q:X9):X9:=λe a w=>Pq B a.defers w∧Q e (wd [] a) w
def FJ(B nn:Nat)(g:Xa P T)(b:P.follows .mixedOrders):Lg P T where
 W c Q a w:=a.defers=[]-> ∀ ds,Pq B ds w->c.wpIn (XR none) nn P (MQ B Q) (wd ds a) w
 Lp c Q a w:=a.defers=[]-> ∀ ds,Pq B ds w->d4w none nn P c (MQ B Q) (wd ds a) w
 mono h hq h0 ds hm:=IA (h h0 ds hm) λe a w h=>⟨h.1,hq _ _ _ h.2⟩
 skip h h0 ds hm:=wpIn_skip ⟨hm,by rw[show wd [] (wd ds _)=wd [] _ from rfl,Ck h0];exact h⟩
 label h h0 ds hm:=wpIn_label ⟨hm,by rw[show wd [] (wd ds _)=wd [] _ from rfl,Ck h0];exact h⟩
 exit h h0 ds hm:=wpIn_exit ⟨hm,by rw[show wd [] (wd ds _)=wd [] _ from rfl,Ck h0];exact h⟩
 ret h h0 ds hm:=wpIn_ret ⟨hm,by rw[show wd [] (wd ds _)=wd [] _ from rfl,Ck h0];exact h⟩
 seq h h0 ds hm:=wpIn_seq (IA (h h0 ds hm) λe a w h=>by
  cases e with
  | normal=>exact h.2 rfl a.defers h.1
  | _=>exact h)
 cond hc h h0 ds hm:=wpIn_cond (by rw[b2i];exact hc) (h h0 ds hm)
 block h h0 ds hm:=wpIn_block (IA (h h0 ds hm) λe a w h=>by
  cases e with
  | exit i=>
   obtain⟨h1,h2⟩:=h;simp only[IM]at h2 ⊢;split
   ·rename_i e;rw[fw e]at h2;exact⟨h1,h2⟩
   ·rename_i e;rw[fo e]at h2;exact⟨h1,h2⟩
  | _=>exact h)
 loop h h0 ds hm:=(a4j none nn g b).loop (h h0 ds hm)
 round h h0 ds hm:=(a4j none nn g b).round (IA (h h0 ds hm) λe a w h=>by
  cases e with
  | normal=>exact h.2 rfl a.defers h.1
  | _=>exact h)
 reg hps hd hd' hr hrun hQ h0 ds hm:=by obtain⟨μ,Φ,hg,he,h3⟩:=hr;refine c2o (rd:=none) (nn:=nn) (ds:=ds) g b hps hd hd' ⟨μ,Φ,hg.rebase,he,h3⟩ hrun ?_;rintro a' w' ⟨μ',Φ',k1,k2,k3⟩;refine⟨hm.keep hg k1,?_⟩;rw[show wd [] (wd ds a')=wd [] a' from rfl,Ck k3];exact hQ a' w' ⟨μ',Φ',hg.unbase k1,k2,k3⟩
def VH:Code->Bool
 | .refuse _=>false
 | .seq a b | .cond _ a b=>VH a&&VH b
 | .block _ a | .loop a | .scope a=>VH a
 | .rangeFunc _ _ a b=>VH a&&VH b
 | _=>true
def g9n(s:String):Code:=.refuse s
def e9j(rd:Option Nat)(nn:Nat)(N:String->Act->World->Prop)(i:Xa P T)(g:P.follows .mixedOrders):Lg P T where
 W c Q a w:=match c with
  | .refuse s=>N s a w
  | c=>VH c=true->c.wpIn (XR rd) nn P Q a w
 Lp c Q a w:=VH c=true->d4w rd nn P c Q a w
 mono {c Q Q' a w} h hq:=by
  split at h
  ·exact h
  ·exact λhn=>IA (h hn) hq
 skip h:=λ_=>wpIn_skip h
 label h:=λ_=>wpIn_label h
 exit h:=λ_=>wpIn_exit h
 ret h:=λ_=>wpIn_ret h
 seq {x y Q a w} h:=λhn=>by
  simp only[VH,Ih]at hn;split at h
  ·simp[VH]at hn
  ·refine wpIn_seq (IA (h hn.1) λe a w h=> ?_);cases e with
   | normal=>
    simp only[a6e]at h;split at h
    ·simp[VH]at hn
    ·exact h hn.2
   | _=>exact h
 cond {c x y b Q a w} hc h:=λhn=>by
  simp only[VH,Ih]at hn;refine wpIn_cond hc ?_;cases b with
  | true=>
   simp only[gq]at h ⊢;split at h
   ·simp[VH]at hn
   ·exact h hn.1
  | false=>
   simp only[aK,gp]at h ⊢;split at h
   ·simp[VH]at hn
   ·exact h hn.2
 block {id x Q a w} h:=λhn=>by
  simp only[VH]at hn;refine wpIn_block ?_;split at h
  ·simp[VH]at hn
  ·exact h hn
 loop {x Q a w} h:=λhn=>by simp only[VH]at hn;exact(a4j rd nn i g).loop (h hn)
 round {x Q a w} h:=λhn=>by
  refine(a4j rd nn i g).round ?_;split at h
  ·simp[VH]at hn
  ·refine IA (h hn) λe a w h=> ?_
   cases e with
   | normal=>exact h hn
   | _=>exact h
 reg hps hd hd' hr hrun hQ:=λ_=>(a4j rd nn i g).reg hps hd hd' hr hrun hQ
end
end
open Go.ChangeMaps (setBlock)
section
section
variable {P:Program} {T:ZH} {c:Ctx} {rd:Option Nat} {nn:Nat} {ds:List Deferred}
def c3v(r:Xa P T){ops:Array Oper}{Q:X9}{b:Nat}{rest:List Oper}: ∀ (os:List Oper) (ps:List PI) (L:Nat) (st st':St) (a:Act) (w:World),(∀ o∈os,o∈ops.toList)->WS P ops L os=some ps->UK c st a w->DD T b ps st=some st' ->
  (∀ a' w',UK c st' a' w'->wpListIn (XR rd) nn P ops Q rest (wd ds a') w')->wpListIn (XR rd) nn P ops Q (os++rest) (wd ds a) w
 | [],ps,L,st,st',a,w,_,hp,hr,h,hK=>by simp only[WS,Ic]at hp;subst hp;simp only[DD,Ic]at h;subst h;exact hK a w hr
 | o::os,ps,L,st,st',a,w,hm,hp,hr,h,hK=>by
  simp only[WS,Ib,Cm]at hp;obtain⟨p,j,e,l,rfl⟩:=hp;simp only[DD,Ib]at h;obtain⟨q,h1,h2⟩:=h;obtain⟨i,hi,g⟩:=aG (hm o (by simp));have ho:ops[i]? = some o:=by rw[<- ah,Ie hi,g]
  have:=Ph (rd:=rd) (nn:=nn) (ds:=ds) (Q:=Q) (K:=λa w=>wpListIn (XR rd) nn P ops Q (os++rest) a w) r ho j hr h1 (λa' w' k=>c3v r os e _ q st' a' w' (λx s=>hm x (by simp[s])) l k h2 hK);unfold wpOpIn at this;simp only[ho]at this;exact this
end
end
def j2l(Φ:Yk)(b:List Value)(a:List (List PV)):Prop:=b.length=a.length∧ ∀ (j:Nat) v ps,b[j]? = some v->a[j]? = some ps-> ∃ B cs,v = .pointer (some ⟨B,0,none⟩)∧Φ B=some cs∧Un Φ cs.toList ps∧XZ cs.toList
def f8h(ls:List Nat)(σ:ZC):ZC:=ls.foldl (λσ l=>σ.set l .dead) σ
def h2b{c:Ctx}{μ:Mu}{w:World}: ∀ (ls:List Nat) (a:List (List PV)) {Φ:Yk} {σ:ZC},Good c μ Φ σ w->ls.Nodup->ls.length=a.length ->
  (∀ (j:Nat) l ps,ls[j]? = some l->a[j]? = some ps->σ[l]? = some (.obj (.box (ps.map .pv)))) ->
  ∃ Φ',Φ.le Φ'∧Good c μ Φ' (f8h ls σ) w∧ ∀ (j:Nat) l ps,ls[j]? = some l->a[j]? = some ps-> ∃ B C S cs,μ l 0=some (B,C,S)∧Φ' B=some cs∧Un Φ' cs.toList ps∧XZ cs.toList:=by
 intro ls
 induction ls with
 | nil=>intro a Φ σ h _ _ _;exact⟨Φ,.refl _,h,λj l ps b=>by simp at b⟩
 | cons l ls ih=>
  intro a Φ σ h q i g;cases a with
  | nil=>simp at i
  | cons ps a=>
   rw[aY]at q;obtain⟨Φ1,B,C,S,cs,k1,k2,k3,k4,k5,k6⟩:=h.freezeBox (g 0 l ps rfl rfl)
   obtain⟨Φ2,m1,m2,m3⟩:=ih a k2 q.2 (by simpa using i) (λj l' k b r=>by
    rw[Iy (λe=>q.1 (by subst e;exact IX b))]
    exact g (j+1) l' k b r)
   refine⟨Φ2,k1.trans m1,m2,λj l' k b r=> ?_⟩;cases j with
   | zero=>simp only[List.getElem?_cons_zero,Ic]at b r;subst b r;exact⟨B,C,S,cs,k3,m1 _ _ k4,⟨k5.1,λj v x s u=>((k5.2 j v x s u).mono k1).mono m1⟩,k6⟩
   | succ j=>exact m3 j l' k b r
def a1g:List Nat->List AV->List AV->List AV
 | p::ps,x::xs,env=>a1g ps xs (env.set p x)
 | _,_,env=>env
def a5s:List Nat->List Value->Array Value->Array Value
 | p::ps,x::xs,t=>a5s ps xs (t.setIfInBounds p x)
 | _,_,t=>t
def e1o: ∀ (ps:List Nat) (xs:List Value) (t:Array Value),(ps.zip xs).foldl (λt (q:Nat×Value)=>t.setIfInBounds q.1 q.2) t=a5s ps xs t
 | [],_,_=>by simp[a5s]
 | _::_,[],_=>by simp[a5s]
 | p::ps,x::xs,t=>by simp only[List.zip_cons_cons,List.foldl_cons,a5s];exact e1o ps xs _
def e1y{μ:Mu}{Φ:Yk}: ∀ (ps:List Nat) (vs:List Value) (xs:List AV) {t:Array Value} {env:List AV},Wy μ Φ t env->RL μ Φ vs xs->Wy μ Φ (a5s ps vs t) (a1g ps xs env)
 | [],_,_,_,_,h,_=>by simpa [a5s,a1g]using h
 | _::_,[],[],_,_,h,_=>by simpa [a5s,a1g]using h
 | _::_,[],_::_,_,_,_,k=>by have:=k.1;simp at this
 | _::_,_::_,[],_,_,_,k=>by have:=k.1;simp at this
 | p::ps,v::vs,x::xs,t,env,h,k=>by
  refine e1y ps vs xs ?_ ⟨by have:=k.1;simpa using this,λj u y hu b=>k.2 (j+1) u y hu b⟩
  have:=Ct (a:={tmps:=t,defers:=[]}) (d:=some p) h (k.2 0 v x rfl rfl);simpa [Act.put,Y3]using this
def Good.grown{c:Ctx}{μ:Mu}{Φ:Yk}{σ:ZC}{W W':World}{row:Option Nat}{B:Nat}(h:Good c μ Φ σ W)(hn:f2k σ ∨ ∀ r,row=some r-> ∀ es j,W.heap[r]? ≠ some (Obj.map es j))(a:W.grownBy W' row)(hB:c.w0.heap.size<=B)(hr : ∀ r,row=some r->B<=r∧ ∃ o:Obj,W.heap[r]? = some o∧o.isCells=false):Good c μ Φ σ W':=by
 have hc : ∀ (b:Nat) cs T fz,W.heap[b]? = some (Obj.cells cs T fz)->W'.heap[b]? = some (Obj.cells cs T fz):=by intro b cs T fz hb;refine(a.block b (Ii.1 hb).1 ?_).trans hb;intro e;obtain⟨_,o,ho,h2⟩:=hr b e.symm;rw[hb]at ho;cases ho;simp[Obj.isCells]at h2
 refine⟨?_,?_,h.apart,h.fresh,h.own,a.os.trans h.os,a.tape.trans h.tape,a.output.trans h.output,IK h.size a.size,?_,h.Φle,h.μle,h.dom,h.laid⟩
 ·intro b cs hb;obtain⟨T,fz,s⟩:=h.phi b cs hb;exact⟨T,fz,hc _ _ _ _ s⟩
 ·intro l o k;have hi:=h.obj l o k;cases o with
  | box xs=>obtain⟨B,C,S,T,cs,h1,h2,h3⟩:=hi;exact⟨B,C,S,T,cs,h1,hc _ _ _ _ h2,h3⟩
  | row fz ty sz xs=>obtain⟨B,C,cs,h1,h1',⟨z,h2,q⟩,h3⟩:=hi;exact⟨B,C,cs,h1,h1',⟨z,hc _ _ _ _ h2,q⟩,h3⟩
  | map es=>
   rcases hn with hn|hn
   ·exact absurd k (hn l es)
   ·obtain⟨B,C,S,g,j,h1,h2,h3⟩:=hi;refine⟨B,C,S,g,j,h1,?_,h3⟩;refine(a.block B (Ii.1 h2).1 ?_).trans h2;intro e;exact hn B e.symm _ _ h2
 ·intro b hb i;refine(a.block b (IU hb h.size) ?_).trans (h.frame b hb i);intro e
  have:=(hr b e.symm).1;omega
def d8e{P:Program}{T:ZH}{rd:Option Nat}{nn:Nat}{N:String->Act->World->Prop}{e:Xa P T}{b:P.follows .mixedOrders}{c:Code}{Q:X9}{a:Act}{w:World}(h:(e9j rd nn N e b).W c Q a w)(hn:VH c):c.wpIn (XR rd) nn P Q a w:=by
 cases c with
 | refuse s=>simp[VH]at hn
 | _=>exact h hn
open Go.MapKept (IsKey findNow_spec heap_set)
def UL.below{Φ:Yk}{w w':World}(h:UL Φ w)(hb:Below w.heap.size w w'):UL Φ w':=λb cs hc=>by obtain⟨T,fz,a⟩:=h b cs hc;exact⟨T,fz,by rw[hb.block b (Ii.1 a).1];exact a⟩
def a5v{P:Program}{f:Nat}{pre:List PV->Bool}{val:List PV->PV}(h : ∀ ps,pre ps-> ∀ Φ w (vs:Array Value),GlobOK Φ->UL Φ w->Un Φ vs.toList ps ->
  Calls P f vs w λe w'=> ∃ v,e = .returned v∧RP Φ v (val ps)∧Below w.heap.size w w'):W9 P f pre val:=by
 intro ps hps Φ w vs g a i;refine(h ps hps Φ w vs g a i).mono ?_;rintro e w' ⟨v,rfl,h1,h2⟩;exact⟨v,Φ,rfl,.refl _,a.below h2,h1,h2,λb cs hb=>.inl hb⟩
def Wd{P:Program}{f:Nat}{α β:Type}[EncL α][Enc β]{pre:α->Bool}{F:α->β}(h : ∀ a,pre a-> ∀ Φ w (vs:Array Value),GlobOK Φ->UL Φ w->Un Φ vs.toList (encL a) ->
  Calls P f vs w λe w'=> ∃ v,e = .returned v∧RP Φ v (enc (F a))∧Below w.heap.size w w'):ZB P f pre F:=a5v (by
 intro ps hps Φ w vs q r k;simp only[preT,Ih]at hps;have b:=EncL.subL ps hps.1;refine h (decL ps) hps.2 Φ w vs q r ⟨k.1.trans b.1,λj v x g l=> ?_⟩;have i:j<ps.length:=by rw[b.1];exact(Ig.1 l).1
 exact b.2 j _ _ (Ie i) l _ _ (k.2 j v _ g (Ie i)))
def GD{Φ:Yk}{v:Value}{s:List UInt8}(h:RP Φ v (.str s)):v = .string ⟨s.toArray⟩:=by
 generalize a:PV.str s=q at h;cases h with
 | str b=>cases a;rfl
 | _=>cases a
def i2x{Φ:Yk}{v:Value}{k:IntKind}{n:Int}(h:RP Φ v (.int k n)):v = .int k n:=by cases h;rfl
def h6l{Φ:Yk}{vs:Array Value}{p:PV}(h:Un Φ vs.toList [p]): ∃ v,vs = #[v]∧RP Φ v p:=by
 obtain⟨vs⟩:=vs
 match vs,h.1 with
 | [v],_=>exact⟨v,rfl,h.2 0 v p rfl rfl⟩
def h6a{Φ:Yk}{vs:Array Value}{p q:PV}(h:Un Φ vs.toList [p,q]): ∃ u v,vs = #[u,v]∧RP Φ u p∧RP Φ v q:=by
 obtain⟨vs⟩:=vs
 match vs,h.1 with
 | [u,v],_=>exact⟨u,v,rfl,h.2 0 u p rfl rfl,h.2 1 v q rfl rfl⟩
def Ou(w:World)(t t':TypeId)(s:ByteArray):Below w.heap.size w (aH w t s):=⟨by simp[aH,bJ,bU,bv,-ai,-bD],by simp[aH,bJ,bU,bv,-ai,-bD],by simp[aH,bJ,bU,bv,-ai,-bD],by rw[Lib.bytesWorld_size];omega,λk a=>Lib.bytesWorld_at_old w t s k a⟩
def Dq{Φ:Yk}{w:World}(b:UL Φ w){g:Nat}{cs:Array Value}(h:Φ g=some cs){v:Value}(a:cs[0]? = some v):w.cell? ⟨g,0,none⟩=some v:=by obtain⟨T,fz,e⟩:=b g cs h;simp[dK,e,a]
structure CloneC (P:Program) (f ty sz:Nat):Prop where
 nil : ∀ (n c:Nat) (w:World),Calls P f #[.slice none n c] w λe w'=>e = .returned (.slice none 0 0)∧w'=w
 zero : ∀ (a:Addr) (c:Nat) (w:World),Calls P f #[.slice (some a) 0 c] w λe w'=>(∃ g,e = .returned (.slice (some g) 0 0))∧Below w.heap.size w w'
 some_ : ∀ (a:Addr) (n c:Nat) (news:List Value) (w:World),0<n->n<=2000000->news.length=n*sz->(∀ j u,news[j]? = some u->w.cell? (a.add j)=some u)->(∀ u∈news,u.oneCell') ->
  Calls P f #[.slice (some a) n c] w λe w'=> ∃ v',e = .returned v'∧w'.ownsRow w.heap.size ty sz v' n news∧Below w.heap.size w w'
def SC(sz:Nat):List AV->List AObj->Bool
 | [.pv (.sl s _ xs)],[]=>(xs.isEmpty||s==sz)&&decide (xs.length<=2000000)
 | _,_=>false
def Ms(ty sz:Nat):List AV->List AObj->AV×List AObj×List AObj
 | [.pv (.sl _ _ xs)],_=>if xs.isEmpty=true then(.pv (.sl sz true []),[],[])else(.row 0 xs.length 0 xs.length,[],[.row false ty sz xs])
 | _,_=>(.pv .nilp,[],[])
def Ro{c:Ctx}{μ:Mu}{Φ:Yk}{σ:ZC}{w w':World}(e:Good c μ Φ σ w)(hb:Below w.heap.size w w'):Good c μ Φ σ w':=
 e.below hb (Yk.le.refl _) (λb cs hc=>by
  obtain⟨T,fz,h⟩:=e.phi b cs hc;have a:b<w.heap.size:=(Ii.1 h).1
  exact⟨T,fz,(hb.block b a).trans h⟩) (λb cs h=>.inl h)
def e7r{P:Program}{f ty sz:Nat}(H:CloneC P f ty sz)(hsz:0<sz):YP P f (SC sz) (Ms ty sz):=by
 intro args os x os' ext l i;unfold SC at l;split at l
 ·rename_i s t xs;simp only[Ih,fu]at l;obtain⟨hs,E⟩:=l;simp only[Ms]at i;by_cases h0:xs=[]
  ·subst h0;rw[fw (show([]:List PV).isEmpty from rfl)]at i;simp only[Ia]at i;obtain⟨rfl,rfl,rfl⟩:=i;refine⟨rfl,λμ Φ w vs y z=> ?_⟩;obtain⟨vs⟩:=vs
   match vs,z.1 with
   | [v],_=>
    have r:=Y6 (z.2 0 v _ rfl rfl);obtain⟨p,cap,rfl⟩ : ∃ p cap,v = .slice p 0 cap:=by
     cases r with
     | sl0 a c sz t h=>exact⟨_,_,rfl⟩
     | sl b off cs c sz t xs u hb hc ht hs hu hr=>exact⟨_,_,rfl⟩
    cases p with
    | none=>refine(H.nil 0 cap w).mono ?_;rintro e w' ⟨rfl,rfl⟩;exact⟨_,μ,Φ,rfl,y,.pv _ _ (.sl0 _ _ _ _ λ_=>rfl)⟩
    | some a=>refine(H.zero a cap w).mono ?_;rintro e w' ⟨⟨g,rfl⟩,hb⟩;exact⟨_,μ,Φ,rfl,Ro y hb,.pv _ _ (.sl0 _ _ _ _ λ_=>rfl)⟩
  ·have A : ¬ xs.isEmpty:=by simpa using h0
   rw[fo A]at i;simp only[Ia]at i;obtain⟨rfl,rfl,rfl⟩:=i;refine⟨rfl,λμ Φ w vs y z=> ?_⟩;obtain⟨vs⟩:=vs
   match vs,z.1 with
   | [v],_=>
    have r:=Y6 (z.2 0 v _ rfl rfl);obtain⟨b,off,U,cs,S,Y,z2,z3,z4,M,V,N,Q⟩:=r.sl_cells y.phi h0;have e:s=sz:=by
     rcases bn _ _ |>.mp hs with h|h
     ·exact absurd h A
     ·exact beq_iff_eq.mp h
    subst e;subst Y;have q:0<xs.length:=by
     cases xs with
     | nil=>exact absurd rfl h0
     | cons=>simp
    have I:S.length=xs.length*s:=by rw[N.1,Uc M]
    refine(H.some_ ⟨b,off,none⟩ xs.length U S w q E I (λj u hj=>by rw[VB];exact V j u hj) Q).mono ?_;rintro e w' ⟨v',rfl,D,hb⟩;have J:=y.grow 1;obtain⟨g,cap,K,rfl,Z,g3,g4,W,T,O⟩:=Dv y D (λk F=>hb.block k F) (xs:=xs) rfl q;obtain⟨μ',q1,X,q3⟩:=Mg (w':=w') J (L:=0) (by simp[XC]) (ty:=ty) (sz:=s) (xs:=xs) (B:=g) (C:=cap) (cs:=K) hb.os hb.tape hb.output hb.size (λk F=>hb.block k F) Z g3 T g4 W M
     (by rw[O];exact N) (by rw[O];exact Q)
    exact⟨_,μ',Φ,rfl,X,q3⟩
 ·cases l
open Go.RowKit Go.Shelf Go.Sort Go.Proofs
section
section
variable {P:Program} {ρ:Ren} {c:Ctx} {μ:Mu} {Φ:Yk} {σ:ZC} {w:World}
def wpList_append_run{ops:Array Oper}{rest:List Oper}{o:Oper}{a:Act}{Q:Exit->Act->World->Prop}(b:o.guard=none)(s x:Operand)(t u:TypeId)
  (ho:o.op = .call {callee:=.builtin .append,args:=#[s,x],argTypes:=#[t,u]}) (v y:Value) (hs:a.eval s=v) (j:a.eval x=y) {e:Value->World->Prop}
  (hr:VS P (aZ #[t,u] o.type #[v,y]) w e) (h : ∀ v' w',e v' w'->wpList P ops Q rest (a.put o.dst v') w'):wpList P ops Q (o::rest) a w:=by
 obtain⟨v',w',hr,g⟩:=hr;refine wpList_plain b λ_ i=> ?_
 unfold Oper.wp execOp;simp only[ho,resolve,invoke,builtin,I6,aR,I4,List.map_toArray,IG,dD,hs,j,hr];exact i _ _ (h v' w' g)
def b6j(σ:ZC)(t:Nat)(xs:List PV)(u:Nat):ZC:=σ.set 0 (.obj (.row false t 1 (xs++Zr (Il u))))
def c2c(n u:Nat):AV:=.row 0 (n+(Il u).length) 0 (n+(Il u).length)
def f1j{u:Nat}(hu:u<18446744073709551616):(Il u).length<=20:=by
 rw[aC];by_cases h1:1<=u
 ·have:=Lib.numDigits_eq u h1 hu;split at this <;> omega
 ·rw[Lib.nDigits_small (show u<10 by omega)];omega
def Ji(l:List UInt8):(Zr l).length=l.length:=by unfold Zr;simp
def e0q{t:Nat}{xs:List PV}{n:Nat}{ys:List PV}{by_:Nat}(a:by_=1)(b:σ[0]? = some (.obj (.row false t 1 xs)))(hn:xs.length=n)(h:n+ys.length<=1099511627776):
  (BM 0 t 1 by_ (.row 0 n 0 n) ys).run σ=some (.row 0 (n+ys.length) 0 (n+ys.length),σ.set 0 (.obj (.row false t 1 (xs++ys)))):=by
 subst a;simp only[BM,Iq,b];rw[fw (by simp)];have e:(xs.length==n&&n==n&&decide ((n+ys.length)*1<=1099511627776)&&decide (n+ys.length<=1099511627776)):=by rw[hn,Nat.mul_one,eY h];simp
 simp only[Iq,e,b]
def f1w(L:LaysM.n288 P ρ)(q:Good c μ Φ σ w){xs:List PV}{n u:Nat}{v:Value}(l:σ[0]? = some (.obj (.row false (ρ.t 5) 1 xs)))(hn:xs.length=n)(j:R μ Φ v (.row 0 n 0 n))(hu:u<100)(hlen:n<=1099511620000):
  Calls P (ρ.f 288) #[v,.int .u64 u,.int .i64 10] w λe w'=> ∃ v',e = .returned v'∧Yz c μ Φ (b6j σ (ρ.t 5) xs u) (c2c n u) v' w':=by
 have mixed:=L.mixed;have t5:=L.t5;have a5:=L.a5;have z5:=L.z5;have v5:=L.v5;have t37:=L.t37;have u37:=run_underlying L.t37;have a37:=L.a37;have z37:=L.z37;have v37:=L.v37;have t53:=L.t53;have a53:=L.a53;have z53:=L.z53;have v53:=L.v53;have t3:=L.t3;have a3:=L.a3;have z3:=L.z3;have v3:=L.v3;have t4:=L.t4;have a4:=L.a4;have z4:=L.z4;have v4:=L.v4;have t9:=L.t9;have a9:=L.a9;have z9:=L.z9;have v9:=L.v9;have t171:=L.t171;have a171:=L.a171;have z171:=L.z171;have v171:=L.v171;have t0:=L.t0;have a0:=L.a0;have z0:=L.z0;have v0:=L.v0;have t173:=L.t173;have a173:=L.a173;have z173:=L.z173;have v173:=L.v173;have e283 : ∀ args w,(callFunc (ρ.f 283) args).run P w = .ok (.enter (ρ.f 283) args) w:=enters_of L.f283 (by kernel_rfl) rfl;obtain⟨k,hi,h,a,b⟩:=info_parts L.i5;have hd:=f1j (u:=u) (by omega)
 have g:VS P (aZ #[ρ.t 37,ρ.t 9] (ρ.t 37) #[v,.string ⟨(Il u).toArray⟩]) w (Yz c μ Φ (b6j σ (ρ.t 5) xs u) (c2c n u)):=by
  refine h7f (env:=[.row 0 n 0 n,.pv (.str (Il u))]) (X:=.t 0) (Y:=.t 1) (L:=0) L.t37 L.t9 hi h (p:=.int .u8 0) rfl (by rw[a];rfl) a q j (.pv _ _ (.str _)) ?_;rw[a]
  have:=e0q (by_:=k.bytes) (ys:=Zr (Il u)) b l hn (by rw[Ji];omega);rw[Ji]at this;exact this
 go_enter L.f288,Body.n288_ntmps ρ
 go_wp2_with (first
  | (go_at_fn (ρ.f 283);refine(Any.internal_strconv_small {L with} u hu _).mono ?_;rintro e w' ⟨rfl,rfl⟩)
  | (at_builtin;refine wpList_append_run rfl _ _ (ρ.t 37) (ρ.t 9) rfl _ _ rfl rfl g ?_))
 intro v' w1 i
 go_wp2
 go_ret
 exact⟨v',rfl,i⟩
def f0l(ds:List UInt8):Un Φ (IQ ds) (flat (Zr ds))∧XZ (IQ ds):=by
 rw[P6];refine⟨⟨by rw[bA,Ji],λj v x a e=> ?_⟩,λv a=> ?_⟩
 ·simp only[IQ,Im,Cm]at a;obtain⟨b,hb,rfl⟩:=a;simp only[Zr,Im,hb,Ir,Ic]at e;subst e;exact .int _ _
 ·simp only[IQ,I9]at a;obtain⟨b,_,rfl⟩:=a;rfl
def e9h(L:LaysM.n288 P ρ){u:Nat}(hu:u<18446744073709551616)(h1:1<=u)(W:World)(b:Nat):(Instr.sliceAt (ρ.t 171) (.pointer (some ⟨b,0,none⟩)) none (some (.int .i64 (IL u:Int))) none).run P W = .ok (.slice (some ⟨b,0,none⟩) (IL u) 24) W:=by
 have hn:IL u<=20:=by have:=f1j hu;rwa [aC]at this
 have t5:=L.t5;have a5:=L.a5;have z5:=L.z5;have v5:=L.v5;have t171:=L.t171;have a171:=L.a171;have z171:=L.z171;have v171:=L.v171;have a:P.arrayLen (ρ.t 171)=24:=by simp[Program.arrayLen,L.t171]
 rw[run_sliceAt_array_h W (ρ.t 171) ⟨b,0,none⟩ (by simp[Program.arrayLen,Program.elem,L.t171]) .i64 (IL u:Int) (by omega) (by rw[a];omega)]
 go_simp
set_option maxHeartbeats 12800000 in
def i8d(L:LaysM.n288 P ρ)(hg:Good c μ Φ σ w){xs:List PV}{n u:Nat}{v:Value}(hσ:σ[0]? = some (.obj (.row false (ρ.t 5) 1 xs)))(hn:xs.length=n)(hv:R μ Φ v (.row 0 n 0 n))(hu:100<=u)(hu64:u<18446744073709551616)(hlen:n<=1099511620000)
  (htab:dR P w "internal/strconv.uint64pow10" .u64 dF) :
  Calls P (ρ.f 288) #[v,.int .u64 u,.int .i64 10] w λe w'=> ∃ v',e = .returned v'∧Yz c μ Φ (b6j σ (ρ.t 5) xs u) (c2c n u) v' w':=by
 have mixed:=L.mixed;have t5:=L.t5;have a5:=L.a5;have z5:=L.z5;have v5:=L.v5;have t37:=L.t37;have u37:=run_underlying L.t37;have a37:=L.a37;have z37:=L.z37;have v37:=L.v37;have t53:=L.t53;have a53:=L.a53;have z53:=L.z53;have v53:=L.v53;have t3:=L.t3;have a3:=L.a3;have z3:=L.z3;have v3:=L.v3;have t4:=L.t4;have a4:=L.a4;have z4:=L.z4;have v4:=L.v4;have t9:=L.t9;have a9:=L.a9;have z9:=L.z9;have v9:=L.v9;have t171:=L.t171;have a171:=L.a171;have z171:=L.z171;have v171:=L.v171;have t0:=L.t0;have a0:=L.a0;have z0:=L.z0;have v0:=L.v0;have t173:=L.t173;have a173:=L.a173;have z173:=L.z173;have v173:=L.v173;have e284 : ∀ args w,(callFunc (ρ.f 284) args).run P w = .ok (.enter (ρ.f 284) args) w:=enters_of L.f284 (by kernel_rfl) rfl;have e285 : ∀ args w,(callFunc (ρ.f 285) args).run P w = .ok (.enter (ρ.f 285) args) w:=enters_of L.f285 (by kernel_rfl) rfl;obtain⟨i0,hi,hz0,hz1,hz2⟩:=info_parts L.i5
 have hu1:1<=u:=by omega
 have hd:=f1j hu64;have hdl:=aC u;have hsl : ∀ W,(Instr.sliceAt (ρ.t 171) (.pointer (some ⟨w.heap.size,0,none⟩)) none (some (.int .i64 (IL u:Int))) none).run P W = .ok (.slice (some ⟨w.heap.size,0,none⟩) (IL u) 24) W:=λW=>e9h L hu64 hu1 W _
 have hH:=Lib.holds_zero0 w (ρ.t 171) (IL u) (by omega);have hfmt:=Any.internal_strconv_formatBase10 {L with} w.heap.size 0 24 u (IR (IL u) 0) (w.alloc (.cells aJ (ρ.t 171))) hH (by rw[IY];exact Lib.lt_pow_nDigits u) hu64 (by rw[IY];omega);rw[IY]at hfmt;have HH:=Lib.hid hH;have iu:(100:Int)<=(u:Int):=by omega
 clear hH
 go_enter L.f288,Body.n288_ntmps ρ
 go_wp2_with (first
  | (go_at_fn (ρ.f 284);refine(Any.internal_strconv_numDigits {L with} u hu1 hu64 _ (Lib.tabIs_alloc htab _)).mono ?_;rintro e w' ⟨rfl,rfl⟩))
 go_at_fn (ρ.f 285)
 refine hfmt.mono ?_;rintro e w' ⟨rfl,k,q,dk,rfl,hF⟩;obtain⟨os,eo⟩:=Lib.fin_at w (.cells aJ (ρ.t 171)) dk k 0;have hcells:Qx ((putRow (λ(b:UInt8)=>aa .u8 (b.toNat:Int)) (w.alloc (.cells aJ (ρ.t 171))) w.heap.size 0 dk).drewN k) w.heap.size 0 (IQ (Il u)):=by
  intro j u' hj;have hjl:j<(Il u).length:=by
   have:=(Ig.1 hj).1
   rwa [bA]at this
  have e5:(IQ (Il u))[j]? = some (aa .u8 ((Il u)[j].toNat:Int)):=by simp[IQ,hjl]
  rw[e5]at hj;cases hj;rw[Lib.row_is_numeral hF j hjl,World.cell?_drewN];exact cell?_putRow (λ(b:UInt8)=>aa .u8 (b.toNat:Int)) _ w.heap.size 0 _ dk HH.out (by rw[hF.size,IY]) j (by rw[hF.size];omega)
 have hbel:Below w.heap.size w ((putRow (λ(b:UInt8)=>aa .u8 (b.toNat:Int)) (w.alloc (.cells aJ (ρ.t 171))) w.heap.size 0 dk).drewN k):=by rw[eo];exact Lib.below_grow w.heap.size w (II _) k os
 generalize (putRow (λ(b:UInt8)=>aa .u8 (b.toNat:Int)) (w.alloc (.cells aJ (ρ.t 171))) w.heap.size 0 dk).drewN k=W2 at hcells hbel ⊢;clear eo HH hfmt;have hg2:=Ro hg hbel;obtain⟨r1,r2⟩:=f0l (Φ:=Φ) (Il u);have hvs:VS P (aZ #[ρ.t 37,ρ.t 37] (ρ.t 37) #[v,.slice (some ⟨w.heap.size,0,none⟩) (IL u) 24]) W2 (Yz c μ Φ (b6j σ (ρ.t 5) xs u) (c2c n u)):=by
  refine ML (X:=.row 0 n 0 n) (ys:=Zr (Il u)) (L:=0) L.t37 hi hz0 (p:=.int .u8 0) rfl (by rw[hz1];rfl) (by omega) hg2 hv ?_ ?_
  ·refine⟨_,24,by rw[Ji,hdl],.inr ⟨w.heap.size,0,_,rfl,hcells,r1,r2,λx hx=>by rw[hz1];exact a3t _ x hx⟩⟩
  ·rw[hz1]
   have:=e0q (by_:=i0.bytes) (ys:=Zr (Il u)) hz2 hσ hn (by rw[Ji];omega);rw[Ji]at this;exact this
 go_wp2_with (at_builtin;refine wpList_append_run rfl _ _ (ρ.t 37) (ρ.t 37) rfl _ _ rfl rfl hvs ?_)
 intro v' w1 hA
 go_wp2
 go_ret
 exact⟨v',rfl,hA⟩
def Ry(t:Nat):List AV->List AObj->Bool
 | [.row 0 n 0 n',.pv (.int .u64 u),.pv (.int .i64 b)],[.row false ty 1 xs]=>ty==t&&n'==n&&xs.length==n&&decide (0<=u)&&decide (u<18446744073709551616)&&b==10&&decide (n<=1099511620000)
 | _,_=>false
def b6x:List AV->List AObj->AV×List AObj×List AObj
 | [.row _ n _ _,.pv (.int _ u),_],[.row fz ty sz xs]=>(c2c n u.toNat,[.row fz ty sz (xs++Zr (Il u.toNat))],[])
 | _,_=>(.tup [],[],[])
def i5i(L:LaysM.n288 P ρ)(htab : ∀ Φ w,GlobOK Φ->UL Φ w->dR P w "internal/strconv.uint64pow10" .u64 dF):YP P (ρ.f 288) (Ry (ρ.t 5)) b6x:=by
 intro args os x os' ext hpre hval;unfold Ry at hpre;split at hpre
 ·rename_i n n' u b ty xs;simp only[Ih,gm,fu]at hpre;obtain⟨⟨⟨⟨⟨⟨rfl,rfl⟩,hxl⟩,hu0⟩,hu⟩,rfl⟩,hlen⟩:=hpre;simp only[b6x,Ia]at hval;obtain⟨rfl,rfl,rfl⟩:=hval;obtain⟨k,rfl⟩:=Int.eq_ofNat_of_zero_le hu0;rw[Int.toNat_natCast];refine⟨rfl,λμ Φ w vs hg hv=> ?_⟩;obtain⟨vs⟩:=vs
  match vs,hv.1 with
  | [v,vu,vb],_=>
   have hv0:=hv.2 0 v _ rfl rfl;have hv1:=Y6 (hv.2 1 vu _ rfl rfl);have hv2:=Y6 (hv.2 2 vb _ rfl rfl);cases hv1;cases hv2;by_cases hk:k<100
   ·refine(f1w L hg rfl hxl hv0 hk hlen).mono ?_;rintro e w' ⟨v',rfl,μ',Φ',h1,h2,h3,h4⟩;exact⟨v',μ',Φ',rfl,h3,h4⟩
   ·refine(i8d L hg rfl hxl hv0 (by omega) (by omega) hlen (htab Φ w (hg.laid.mono hg.Φle) hg.phi)).mono ?_;rintro e w' ⟨v',rfl,μ',Φ',h1,h2,h3,h4⟩;exact⟨v',μ',Φ',rfl,h3,h4⟩
 ·cases hpre
end
def c0c(n:Nat)(s:List UInt8):AV:=.row 0 (n+s.length) 0 (n+s.length)
def K3(t:Nat):List AV->List AObj->Bool
 | [.row 0 n 0 n',.pv (.int .i64 i),.pv (.int .i64 b)],[.row false ty 1 xs]=>ty==t&&n'==n&&xs.length==n&&decide (-9223372036854775808<=i)&&decide (i<=9223372036854775807)&&b==10&&decide (n<=1099511610000)
 | _,_=>false
def LM:List AV->List AObj->AV×List AObj×List AObj
 | [.row _ n _ _,.pv (.int _ i),_],[.row fz ty sz xs]=>(c0c n (dG i),[.row fz ty sz (xs++Zr (dG i))],[])
 | _,_=>(.tup [],[],[])
def K6(s:Bool)(i:Int):List UInt8:=(if s then [32]else [])++dG i
def Bg(t:Nat):List AV->List AObj->Bool
 | [.pv (.int .i64 i),.pv (.bool _),.ptr 0 0],[.box [.row 1 n 0 n'],.row false ty 1 xs]=>ty==t&&n'==n&&xs.length==n&&decide (-9223372036854775808<=i)&&decide (i<=9223372036854775807)&&decide (n<=1099511600000)
 | _,_=>false
def b5w:List AV->List AObj->AV×List AObj×List AObj
 | [.pv (.int _ i),.pv (.bool s),_],[.box [.row _ n _ _],.row fz ty sz xs]=>(.tup [],[.box [.row 1 (n+(K6 s i).length) 0 (n+(K6 s i).length)],.row fz ty sz (xs++Zr (K6 s i))],[])
 | _,_=>(.tup [],[],[])
end
abbrev V6{α β:Type}[EncL α][Enc β](pre:α->Bool)(F:α->β)(ps:List PV)(k:β->Prop):Prop:=preT pre ps=true∧ ∃ y:β,AV.pv (Zp F ps)=AV.pv (enc y)∧k y
abbrev ceP{α β:Type}[EncL α][Enc β](F:α->β)(ps:List PV)(k:β->Prop):Prop:= ∃ y:β,AV.pv (Zp F ps)=AV.pv (enc y)∧k y
abbrev QU{α:Type}[Enc α](l:List α)(i:Int)(n:Nat)(k:α->Prop):Prop:=(decide (0<=i)&&decide (Int.toNat i<bO (dC (enc:α->PV) l))&&Enc.sz α==n)=true∧ ∃ y:α,AV.pv (PV.rptr (PV.cells (bG (dC (enc:α->PV) l) (Int.toNat i) default)))=AV.pv (PV.rptr (PV.cells (enc y)))∧k y
abbrev Vm(a b:List UInt8):Prop:=decide (a.length+b.length<=1099511627776)=true
def YP.frz{P:Program}{f:Nat}{pre:List AV->List AObj->Bool}{val k:List AV->List AObj->AV×List AObj×List AObj}(h:YP P f pre val)
  (E : ∀ args os,pre args os-> ∃ x g a p σ ys b A,val args os=(x,g,a)∧(frz x).run (XC (g++a))=some (p,σ)∧OD os.length (Dh 256 (Iw os.length) [] σ) [] σ=some (ys,b)∧Sub p A∧k args os=(.pv A,b.take os.length,b.drop os.length)):YP P f pre k:=by
 intro args os x os' ext l q;obtain⟨B,g,a,p,σ,ys,b,A,h1,h2,h3,H,u⟩:=E args os l;rw[q]at u;simp only[Ia]at u;obtain⟨rfl,rfl,rfl⟩:=u;obtain⟨r,hlen2⟩:=Mf h3;refine⟨by simp;omega,?_⟩;intro μ Φ w vs C s;have F : ∀ i m,os.length<=i->(Y7 μ Φ (XC os) w).μ0 i m=none:=by intro i m hi;refine C.fresh i m (.inl ?_);rw[Ik];simp[XC];exact hi
 refine((h args os B g a l h1).2 μ Φ w vs C s).mono ?_;rintro e w' ⟨v,μ',Φ',rfl,y,D⟩;obtain⟨Φ1,hle,hg1,hp⟩:=a0g B h2 y D;have z:Wy μ' Φ1 (#[]:Array Value) ([]:List AV):=⟨rfl,λj v x h=>by simp at h⟩
 obtain⟨k1,k2⟩:=Qb F hg1 z r;refine⟨v,μ'.ren (Dh 256 (Iw os.length) [] σ),Φ1,rfl,?_,.pv _ _ (RP.sub H hp)⟩;rw[IW];exact k1
structure SortedC (P:Program) (f g ty:Nat):Prop where
 str:P.underlying ty=some .string
 run : ∀ (Bm b nn:Nat) (D0:DataW Unit) (w:World),Bm<w.heap.size->w.cell? ⟨Bm,0,none⟩=some (.map (some b))->w.ownsMap P ty (λ_=>some (.nil,[])) b nn D0->Maps.size D0<=maxLen->Maps.size D0*16<=140737488355328 ->
  Calls P f #[.func (.func g) #[] #[.pointer (some ⟨Bm,0,none⟩)]] w λe w'=> ∃ (v:Value) (ss:List (List UInt8)),e = .returned v∧ss.Perm (strKeys D0) ∧
   w'.ownsRow w.heap.size ty 1 v ss.length ((ss.mergeSort λx y=>decide (x<=y)).map encStr)∧(v = .slice none 0 0 ↔ ss=[])∧Below w.heap.size w w'
def Co:PV×PV->List UInt8
 | (.str s,_)=>s
 | _=>[]
def h8f:PV×PV->Bool
 | (.str s,_)=>decide (s.length<=1048576)
 | _=>false
def Nn(es:List (PV×PV)):Bool:=es.all h8f&&decide ((es.map Co).Nodup)&&decide (es.length<=1048576)
def UF(l:List (List UInt8)):List (List UInt8):=l.mergeSort λx y=>decide (x<=y)
def GL(g:Nat):List AV->List AObj->Bool
 | [.fn g' [] [.ptr 0 0]],[.box [.map 1],.map es]=>g'==g&&Nn es
 | _,_=>false
def a3b(ty:Nat):List AV->List AObj->AV×List AObj×List AObj
 | [_],[b,.map es]=>if es.isEmpty=true then(.pv (.sl 1 true []),[b,.map es],[])else(.row 2 es.length 0 es.length,[b,.map es],[.row false ty 1 ((UF (es.map Co)).map .str)])
 | _,_=>default
def c8a{P:Program}{f g ty:Nat}(H:SortedC P f g ty):YP P f (GL g) (a3b ty):=by
 intro args os x os' ext r q;unfold GL at r;split at r
 ·rename_i g' es;simp only[Ih,gm]at r;obtain⟨rfl,Z⟩:=r;simp only[Nn,Ih,bW,fu]at Z;obtain⟨⟨hk1,hk2⟩,hk3⟩:=Z;have hos:os'=[.box [.map 1],.map es]:=by simp only[a3b]at q;split at q <;> simp only[Ia]at q <;> exact q.2.1.symm
  subst hos;refine⟨rfl,λμ Φ w vs hg hv=> ?_⟩;obtain⟨vs⟩:=vs
  match vs,hv.1 with
  | [v],_=>
   have hv0:=hv.2 0 v _ rfl rfl;obtain⟨Bm,C0,S0,hμ0,rfl⟩ : ∃ B C S,μ 0 0=some (B,C,S)∧v = .func (.func g') #[] #[.pointer (some ⟨B,0,none⟩)]:=by
    cases hv0 with
    | fn f cs ds xs ys hn hm h k=>
     obtain⟨cs⟩:=cs;obtain⟨ds⟩:=ds
     match cs,ds,hn,hm with
     | [],[d],_,_=>
      have:=k 0 d _ rfl rfl;cases this with
      | ptr l o B C S h=>exact⟨B,C,S,h,rfl⟩
   obtain⟨B1,C1,S1,T1,X,m1,h1,r1,o1,p1⟩:=hg.obj 0 (.box [.map 1]) rfl;obtain⟨B2,C2,S2,b,E,m2,h2,n2,e2,p2,b2⟩:=hg.obj 1 (.map es) rfl;rw[hμ0]at m1;cases m1;obtain⟨X⟩:=X
   match X,r1.1 with
   | [c1],_=>
    have hc1:=r1.2 0 c1 _ rfl rfl;obtain rfl:c1 = .map (some B2):=by
     cases hc1 with
     | map l B C S h=>rw[m2]at h;cases h;rfl
    have Y:w.cell? ⟨Bm,0,none⟩=some (.map (some B2)):=by simp[dK,h1]
    have hlt:Bm<w.heap.size:=(Ii.1 h1).1
    have z : ∀ (j:Nat) e,b[j]? = some e-> ∃ (s:ByteArray) (p:PV×PV),es[j]? = some p∧e.key = .string s∧Co p=s.data.toList∧s.size<=1048576:=by
     intro j e N;have T:j<es.length:=by have:=(Ii.1 N).1;omega
     have F:=e2 j e es[j] N (Ie T);have W:=hk1 es[j] (bV T);generalize hq:es[j]=p at F W;obtain⟨k,u⟩:=p;cases k with
     | str s=>
      have h3:=F.1;generalize e.key=kv at h3;cases h3 with
      | str s=>
       refine⟨s,_,(Ie T).trans (by rw[hq]),rfl,rfl,?_⟩
       have:=fZ W;simpa using this
     | _=>cases W
    have hrd : ∀ (j:Nat) e p,b[j]? = some e->es[j]? = some p->WideElems.rd (H:=Unit) P ty (λ_=>some (.nil,[])) e=some (aD (Co p),.nil):=by
     intro j e p N F;obtain⟨s,p',hp',hks,hkp,hsz⟩:=z j e N;rw[F]at hp';cases hp';have:keyOf P ty e.key=some (.string s.data.toList):=by rw[hks];simp[keyOf,H.str,mapKey];show s.size<=maxLen;exact IK hsz (by decide)
     unfold WideElems.rd;rw[this,hkp];rfl
    have U:b.toList.map (WideElems.rg (H:=Unit) P ty (λ_=>some (.nil,[])))=es.map λp=>(aD (Co p),ae):=by
     refine I5 λj=> ?_
     rw[Im,Im,ah];cases N:b[j]? with
     | none=>
      have:es[j]? = none:=by
       rw[Ik]
       have:=Array.getElem?_eq_none_iff.1 N;omega
      rw[this];rfl
     | some e=>obtain⟨s,p,F,hks,hkp,hsz⟩:=z j e N;rw[F,Ir,Ir,WideElems.rg_of (hrd j e p N F)]
    have hown:w.ownsMap (H:=Unit) P ty (λ_=>some (.nil,[])) B2 b.size (.map ((es.map λp=>(aD (Co p),ae)).foldr aU [])):=by
     refine⟨b,E,h2,⟨by rw[n2];exact IK hk3 (by decide),(Go.MapKept.stamped_iff b E).2 ⟨b2.1,b2.2,?_⟩,λx hx=> ?_⟩,II _,by rw[U]⟩
     ·rw[aP];intro i j hi T hij D;have hi':i<b.size:=by simpa using hi
      have J:j<b.size:=by simpa using T
      obtain⟨s1,p1',q1,q2,q3,_⟩:=z i b[i] (Ij hi');obtain⟨s2,p2',q4,q5,q6,_⟩:=z j b[j] (Ij J);have D:b[i].key=b[j].key:=D;rw[q2,q5]at D;cases D;obtain⟨z1,z2⟩:=Ig.1 q1;obtain⟨z3,z4⟩:=Ig.1 q4
      have:=aP.1 hk2 i j (by simpa using z1) (by simpa using z3) hij;rw[bZ,bZ,z2,z4,q3,q6]at this;exact this rfl
     ·obtain⟨j,T,rfl⟩:=aG hx;have J:j<b.size:=by simpa using T
      obtain⟨s1,p1',q1,_⟩:=z j b[j] (Ij J);exact⟨_,hrd j b[j] p1' (Ij J) q1⟩
    have O:Maps.size (dU (H:=Unit) ((es.map λp=>(aD (Co p),ae)).foldr aU []))=es.length:=by show(List.foldr aU [] _).length=_;rw[(WideShapes.sorted_perm _).length_eq,IE]
    have K:(strKeys (dU (H:=Unit) ((es.map λp=>(aD (Co p),ae)).foldr aU []))).Perm (es.map Co):=by
     have:=(WideShapes.sorted_perm (H:=Unit) (es.map λp=>(aD (Co p),ae))).map λp=>Go.strOf p.1
     rw[bH]at this;exact this
    refine(H.run Bm B2 b.size _ w hlt Y hown (by rw[O];exact IK hk3 (by decide)) (by rw[O];omega)).mono ?_;rintro e w' ⟨v,ss,rfl,Q,A,hnil,hb⟩;have hp2:=Q.trans K;have hsl:ss.length=es.length:=by rw[hp2.length_eq,IE]
    have V:(ss.mergeSort λx y=>decide (x<=y))=UF (es.map Co):=mergeSort_of_perm hp2;rw[V,hsl]at A;simp only[a3b]at q;by_cases h0:es=[]
    ·subst h0;rw[fw (show([]:List (PV×PV)).isEmpty from rfl)]at q;simp only[Ia]at q;obtain⟨rfl,_,rfl⟩:=q;have hss:ss=[]:=aF hsl;rw[hnil.2 hss];exact⟨_,μ,Φ,rfl,Ro hg hb,.pv _ _ (.sl0 _ _ _ _ λ_=>rfl)⟩
    ·have D : ¬ es.isEmpty:=by simpa using h0
     rw[fo D]at q;simp only[Ia]at q;obtain⟨rfl,_,rfl⟩:=q;have hpos:0<es.length:=by
      cases es with
      | nil=>exact absurd rfl h0
      | cons=>simp
     have M:(UF (es.map Co)).length=es.length:=by unfold UF;rw[aj,IE]
     generalize hl:UF (es.map Co)=l at A M;have hg1:=hg.grow 1;obtain⟨g,cap,cur,rfl,g2,g3,g4,g5,g6,g7⟩:=Dv hg A (λk Z=>hb.block k Z) (xs:=l.map .str) (by rw[IE,M]) hpos;have hfl:flat (l.map PV.str)=l.map PV.str:=by
      clear hl A M g7;unfold flat
      induction l with
      | nil=>rfl
      | cons a l ih=>rw[IG,bM,ih];rfl
     have I:(l.map PV.str).length=es.length:=by rw[IE,M]
     obtain⟨μ',q1,q2,q3⟩:=Mg (w':=w') hg1 (L:=2) (by simp[XC]) (ty:=ty) (sz:=1) (xs:=l.map .str) (B:=g) (C:=cap) (cs:=cur) hb.os hb.tape hb.output hb.size (λk Z=>hb.block k Z) g2 g3 g6 (by rw[I];exact g4) g5
      (λx hx=>by obtain⟨a,_,rfl⟩:=I9.1 hx;rfl)
      (by
       rw[I,g7,hfl];refine⟨by simp,λj u p hu F=> ?_⟩;rw[Im,Cm]at hu F;obtain⟨a,ha,rfl⟩:=hu;obtain⟨a',ha',rfl⟩:=F;rw[ha]at ha';cases ha'
       have:=RP.str (Φ:=Φ) ⟨a.toArray⟩
       simpa [encStr]using this)
      (by
       rw[I,g7];intro u hu;obtain⟨a,_,rfl⟩:=I9.1 hu
       rfl)
     rw[I]at q3;exact⟨_,μ',Φ,rfl,q2,q3⟩
 ·cases r
def Cw:List AV->List AObj->AV×List AObj×List AObj
 | [_],[b,.map es]=>(.pv (.sl 1 false ((UF (es.map Co)).map .str)),[b,.map es],[])
 | _,_=>default
def c9t{P:Program}{f g ty:Nat}(h:YP P f (GL g) (a3b ty)):YP P f (GL g) Cw:=YP.frz h λargs os e=>by
 unfold GL at e;split at e
 ·rename_i g' es;by_cases h0:es=[]
  ·subst h0;exact⟨.pv (.sl 1 true []),[.box [.map 1],.map []],[],.sl 1 true [],[.obj (.box [.map 1]),.obj (.map [])],[],[.box [.map 1],.map []],.sl 1 false [],rfl,rfl,rfl,Sub.sl0 _ _ _,by simp[Cw,UF]⟩
  ·have b : ¬ es.isEmpty:=by simpa using h0
   have a:((UF (es.map Co)).map PV.str).length=es.length:=by unfold UF;rw[IE,aj,IE]
   generalize i:(UF (es.map Co)).map PV.str=l at a;refine⟨.row 2 es.length 0 es.length,[.box [.map 1],.map es],[.row false ty 1 l],.sl 1 false ((l.take es.length).drop 0),[.obj (.box [.map 1]),.obj (.map es),.obj (.row true ty 1 l)],[],[.box [.map 1],.map es],.sl 1 false l,?_,?_,?_,?_,?_⟩
   ·simp only[a3b,fo b,i]
   ·simp[frz,Iq,XC,HM.req,a]
   ·rfl
   ·rw[<- a,bf,ak];exact .refl _
   ·simp only[Cw,i];rfl
 ·cases e
def Un.subL{Φ:Yk}{vs:List Value}{ps qs:List PV}(h:Un Φ vs ps)(k:JM ps qs):Un Φ vs qs:=
 ⟨h.1.trans k.1,λj v y e a=>by
  have g:j<ps.length:=by rw[k.1];exact(Ig.1 a).1
  have b:ps[j]? = some ps[j]:=Ie g
  exact k.2 j _ y b a Φ v (h.2 j v _ e b)⟩
def YP.thaw{P:Program}{f:Nat}{pre g:List AV->List AObj->Bool}{val b:List AV->List AObj->AV×List AObj×List AObj}(h:YP P f pre val)
  (r : ∀ args os,g args os-> ∃ n ps qs s x q y a,JM ps qs∧(Jg args).run (XC os++Ip n .fresh)=some (ps,s)∧(Ns os.length pre val (qs.map .pv)).run s=some (x,q)∧OD os.length (Dh 256 (Iw os.length++Bj [x]) [] q) [x] q=some ([y],a)∧b args os=(y,a.take os.length,a.drop os.length)):YP P f g b:=by
 intro args os K os' ext k l;obtain⟨n,ps,qs,s,x,q,y,a,hs,h2,h3,I,B⟩:=r args os k;rw[l]at B;simp only[Ia]at B;obtain⟨rfl,rfl,rfl⟩:=B;obtain⟨u,hlen2⟩:=Mf I;refine⟨by simp;omega,?_⟩;intro μ Φ w vs D A;have E : ∀ i m,os.length<=i->(Y7 μ Φ (XC os) w).μ0 i m=none:=by intro i m hi;refine D.fresh i m (.inl ?_);rw[Ik];simp[XC];exact hi
 obtain⟨Φ1,f1,f2,f3⟩:=Kr args h2 (D.grow n) A;refine(d5p (L:=os.length) h f2 (f3.subL hs).toRL h3).mono ?_;rintro e w' ⟨v,rfl,μ',Φ',k1,k2,k3,F⟩
 have z:Wy μ' Φ' (#[v]:Array Value) [x]:=⟨rfl,λj v' x' r C=>by
  cases j with
  | zero=>simp at r C;subst r C;exact F
  | succ j=>simp at C⟩
 obtain⟨J,H⟩:=Qb E k3 z u;refine⟨v,_,Φ',rfl,?_,H.2 0 v K rfl rfl⟩;rw[IW];exact J
def W9.of_own{P:Program}{f:Nat}{pre:List AV->List AObj->Bool}{val:List AV->List AObj->AV×List AObj×List AObj}{g:List PV->Bool}{a:List PV->PV}(h:YP P f pre val)
  (s : ∀ ps,g ps-> ∃ qs x ext p σ,JM ps qs∧pre (qs.map .pv) []∧val (qs.map .pv) []=(x,[],ext)∧(frz x).run (XC ext)=some (p,σ)∧Sub p (a ps)):W9 P f g a:=by
 intro ps hps Φ w vs z B i;obtain⟨qs,x,ext,p,σ,h1,h2,h3,C,u⟩:=s ps hps;have A:=Cg z B;refine((h (qs.map .pv) [] x [] ext h2 h3).2 (λ_ _=>none) Φ w vs A (i.subL h1).toRL).mono ?_;rintro e w' ⟨v,μ',Φ',rfl,q,r⟩;obtain⟨Φ1,hle,hg1,hp⟩:=a0g x C q r;refine⟨v,Φ1,rfl,hg1.Φle,hg1.phi,RP.sub u hp,⟨hg1.os,hg1.tape,hg1.output,hg1.size,λk y=>hg1.frame k y (by rintro⟨l,o,h,_⟩;simp[XC]at h)⟩,λb cs j=> ?_⟩;rcases hg1.dom b cs j with h|h|h
 ·exact .inl h
 ·exact .inr h
 ·obtain⟨l,o,h,_⟩:=h;simp[XC]at h
def ZB.of_own{P:Program}{f:Nat}{α β:Type}[EncL α][Enc β]{H6:List AV->List AObj->Bool}{b:List AV->List AObj->AV×List AObj×List AObj}{pre:α->Bool}{F:α->β}(h:YP P f H6 b)
  (e : ∀ a:α,pre a-> ∃ x ext p σ,H6 ((EncL.encL a).map .pv) []∧b ((EncL.encL a).map .pv) []=(x,[],ext)∧(frz x).run (XC ext)=some (p,σ)∧Sub p (Enc.enc (F a))):ZB P f pre F:=
 W9.of_own h λps hps=>by simp only[preT,Ih]at hps;obtain⟨x,ext,p,σ,h1,h2,h3,g⟩:=e (EncL.decL ps) hps.2;exact⟨EncL.encL (EncL.decL ps:α),x,ext,p,σ,EncL.subL ps hps.1,h1,h2,h3,g⟩
def d3r{P:Program}{f ty:Nat}{α:Type}[Enc α](hz:0<Enc.sz α)(h:YP P f (SC (Enc.sz α)) (Ms ty (Enc.sz α))):
  ZB P f (λx:List α×Unit=>decide (x.1.length<=2000000)) (λx:List α×Unit=>x.1):=ZB.of_own h λa ha=>by
 obtain⟨l,u⟩:=a;have ha:l.length<=2000000:=by simpa using ha
 have e:SC (Enc.sz α) ((EncL.encL ((l,u):List α×Unit)).map .pv) []:=by show(((l.map (enc:α->PV)).isEmpty||Enc.sz α==Enc.sz α)&&decide ((l.map (enc:α->PV)).length<=2000000))=true;rw[IE,eY ha];simp
 by_cases h0:l=[]
 ·subst h0;exact⟨.pv (.sl (Enc.sz α) true []),[],.sl (Enc.sz α) true [],[],e,rfl,rfl,Sub.sl _ _ _⟩
 ·have b : ¬ (l.map (enc:α->PV)).isEmpty:=by simpa using h0
  refine⟨.row 0 (l.map (enc:α->PV)).length 0 (l.map (enc:α->PV)).length,[.row false ty (Enc.sz α) (l.map enc)],.sl (Enc.sz α) false (((l.map (enc:α->PV)).take (l.map (enc:α->PV)).length).drop 0),[.obj (.row true ty (Enc.sz α) (l.map enc))],e,?_,?_,?_⟩
  ·show(if (l.map (enc:α->PV)).isEmpty then _ else _)=_;rw[fo b]
  ·simp[frz,Iq,XC,HM.req]
  ·rw[bf,ak];exact .refl _
section
section
variable {P:Program} {T:ZH} {E:U1} {f:Nat} {fn:Func} {ic:IC} {rs:List IRes}
def h6d{c:Ctx}{st:St}{R:Ending->World->Prop}{B nn:Nat}{a:Act}(q:c.w0.heap.size<=B)(k : ∀ b,UK c st a b-> ∃ v,(results fn a.tmps).run P b = .ok v b∧R (.returned v) b):
  ∀ (ds:List Deferred) (w:World),Pq B ds w->UK c st a w->LeavesInM (XR none) nn P fn a.tmps R ds .returning w:=by
 intro ds
 induction ds with
 | nil=>intro w _ hr;exact k w hr
 | cons d ds ih=>
  rintro w ⟨h1,h2⟩ hr;rw[aY]at h1;obtain⟨D,l,k1,g⟩:=h2 d (by simp);refine⟨by simp,.inl ⟨D,_,by rw[k1],run_takeDeferred g,ih _ ⟨h1.2,λs hd'=> ?_⟩ ?_⟩⟩
  ·obtain⟨D',u,h,j⟩:=h2 s (by simp[hd']);refine⟨D',u,h,?_⟩;rw[Iz ?_]
   ·exact j
   ·rintro rfl;rw[k1,<- h]at h1;exact h1.1 hd'
  ·obtain⟨μ,Φ,g1,g2,g3⟩:=hr;refine⟨μ,Φ,g1.grown (.inr λr e es ck i=> ?_) (grownBy_putObj' w D (.deferred none)) q (λr e=> ?_),g2,g3⟩
   ·cases e;rw[g]at i;cases i
   ·cases e;exact⟨l,_,g,rfl⟩
def ZB.ofM{sel:Code->Bool}{α β:Type}[EncL α][Enc β]{pre:α->Bool}{F:α->β}(H:Xa P T)(g:P.follows .mixedOrders)(O:P.funcs[f]? = some fn)(y:d5d P sel fn=some ic)
  (u:Vj (WR P) fn.results.toList=some rs) {J:Nat} (C:fn.ntmps=J) (hX : ∀ (B:Nat) (c:Ctx),c.w0.heap.size=B->(∀ i m,0<=i->c.μ0 i m=none)->h2k (FJ B 4 H g) (λn cd=>Nu P sel fn n=some cd) E c)
  (h : ∀ a,pre a->TE T E 0 (Za rs (Ze (F a))) ic [] (Z7 J (encL a))):ZB P f pre F:=by
 obtain⟨cd,hb,z⟩:=g0v y;subst C;intro ps hps Φ w vs U Y h2;simp only[preT,Ih]at hps;have b:=EncL.subL ps hps.1;have l:Un Φ vs.toList (encL (decL ps:α)):=by
  refine⟨h2.1.trans b.1,λj v x X L=> ?_⟩;have I:j<ps.length:=by rw[b.1];exact(Ig.1 L).1
  exact b.2 j _ _ (Ie I) L _ _ (h2.2 j v _ X (Ie I))
 refine callsIn_wide.1 (callsIn_of_wp_marks (F:=XR none) (n:=4) O hb trivial ?_ rfl);have W:=Cg U Y;have r:vs.size=(encL (decL ps:α)).length:=by have:=l.1;simpa using this
 have k:UK (Y7 (λ_ _=>none) Φ [] w) (Z7 fn.ntmps (encL (decL ps:α))) {tmps:=vs++IR (fn.ntmps - vs.size) undef,defers:=[]} w:=by refine⟨_,Φ,W,?_,rfl⟩;show RL _ _ _ _;rw[IZ,IV,r];exact l.toRL.append (Vy _)
 refine IA (h _ hps.2 P (FJ w.heap.size 4 H g) _ _ (hX w.heap.size _ rfl (λ_ _ _=>rfl)) (λ_ _ _=>rfl) [] .nil _ w k cd z rfl [] ⟨List.nodup_nil,λd hd=>by simp at hd⟩) ?_;rintro e a' w' ⟨hm,he,st,⟨p,q,A,s⟩,hr⟩;rcases he with rfl|rfl
 all_goals
  show LeavesInM _ _ _ _ a'.tmps _ a'.defers .returning w';refine h6d (a:=wd [] a') (c:=Y7 (λ_ _=>none) Φ [] w) (II _) (λw2 D=> ?_) _ w' hm hr;obtain⟨d1,v,Z,v',Φ'',M,S,N,Q,V⟩:=i0r u D q;refine⟨v,Z,v',Φ'',M,S,N,?_,V⟩;have K:=(Enc.sub _ A).2 _ _ Q;rw[s]at K;exact K
end
def a5j:Code->Bool
 | .rangeFunc .. =>true
 | _=>false
end
structure Steps (X X':Nat->Prop) (Φ Φ':Yk) (W W':World):Prop where
 os:W'.os=W.os
 tape:W'.tape=W.tape
 output:W'.output=W.output
 size:W.heap.size<=W'.heap.size
 keep : ∀ b,b<W.heap.size-> ¬ X b->W'.heap[b]? = W.heap[b]?
 le:Φ.le Φ'
 phi:UL Φ' W'
 dom : ∀ b cs,Φ' b=some cs->Φ b=some cs∨X b∨W.heap.size<=b
 own : ∀ b,X' b->(X b∨W.heap.size<=b)∧b<W'.heap.size∧Φ' b=none
structure JOK (J:Yk->(Nat->Prop)->World->Prop):Prop where
 phi : ∀ {Φ X W},J Φ X W->UL Φ W
 glob : ∀ {Φ X W},J Φ X W->GlobOK Φ
 out : ∀ {Φ X W b},J Φ X W->X b->b<W.heap.size∧Φ b=none
 step : ∀ {Φ X W Φ' X' W'},J Φ X W->Steps X X' Φ Φ' W W'->J Φ' X' W'
def e3o(J a:Yk->(Nat->Prop)->World->Prop)(Φ:Yk)(X:Nat->Prop)(g:World)(e:Ending)(W':World):Prop:=∃ Φ',Φ.le Φ'∧(∀ b,X b->W'.heap[b]? = g.heap[b]?)∧((e = .returned (.bool true)∧J Φ' X W')∨(e = .returned (.bool false)∧a Φ' X W'))
def d9y{α:Type}(P:Program)(l:Nat)(a:α->List PV)(xs:List α)(J:Nat->Yk->(Nat->Prop)->World->Prop)(e:Yk->(Nat->Prop)->World->Prop):Prop:=∀ n k x Φ X b (vs:Array Value),xs[k]? = some x->J k Φ X b->Un Φ vs.toList (a x)->YieldAt I8 n P l vs b (e3o (J (k+1)) e Φ X b)
def g1c{α:Type}(P:Program)(g:Nat)(encp:α->List PV)(pre:List (List PV)->Bool)(F:List (List PV)->List α):Prop:=
 (∃ fn,P.funcs[g]? = some fn∧fn.body.isSome∧(fn.name == "runtime.NumGoroutine")=false) ∧
 ∀ pss,pre pss-> ∀ Φ (lb:Array Value) (l:Nat) (J:Nat->Yk->(Nat->Prop)->World->Prop) (Jx:Yk->(Nat->Prop)->World->Prop) (W:World),
  j2l Φ lb.toList pss->(∀ k,JOK (J k))->JOK Jx->d9y P l encp (F pss) J Jx->J 0 Φ (λ_=>False) W ->
  Calls P g (#[.func (.yield l) #[] #[]]++lb) W λe W'=>(∃ v,e = .returned v)∧ ∃ Φ' X',(J (F pss).length Φ' X' W'∨Jx Φ' X' W')
def Good.steps{c:Ctx}{μ:Mu}{Φ Φ':Yk}{σ:ZC}{W W':World}{X X':Nat->Prop}(h:Good c μ Φ σ W)(s:Steps X X' Φ Φ' W W')(j : ∀ b,X b->c.w0.heap.size<=b∧ ∀ l o,σ[l]? = some (.obj o)->blk μ l o≠b):Good c μ Φ' σ W':=by
 refine⟨s.phi,?_,h.apart,h.fresh,h.own,s.os.trans h.os,s.tape.trans h.tape,s.output.trans h.output,IK h.size s.size,?_,h.Φle.trans s.le,h.μle,?_,h.laid⟩
 ·intro l o ho;have e:=h.obj l o ho;have a : ¬ X (blk μ l o):=λk=>(j _ k).2 l o ho rfl
  refine(e.keep (Mu.le.refl _) (λ_=>rfl) s.le ?_ (s.keep _ e.blk_lt a)).1;cases g:Φ' (blk μ l o)with
  | none=>
   cases q:Φ (blk μ l o)with
   | none=>rfl
   | some cs=>rw[s.le _ _ q]at g;cases g
  | some cs=>
   rcases s.dom _ _ g with hd|hd|hd
   ·exact hd.symm
   ·exact absurd hd a
   ·have:=e.blk_lt;omega
 ·intro b h1 h2;have a : ¬ X b:=λk=>by have:=(j _ k).1;omega
  rw[s.keep b (IU h1 h.size) a];exact h.frame b h1 h2
 ·intro b cs i;rcases s.dom b cs i with hd|hd|hd
  ·exact h.dom b cs hd
  ·exact .inr (.inl (j _ hd).1)
  ·exact .inr (.inl (IK h.size hd))
structure JB (B:Nat) (ds:List Deferred) (c:Ctx) (tm:Array Value) (env:List AV) (Φ1:Yk) (n0:Nat) (rec:Loop) (I:ZC->Prop) (Φ:Yk) (X:Nat->Prop) (W:World):Prop where
 ex : ∃ σ μ,I σ∧Good c μ Φ σ W∧Wy μ Φ tm env∧ ∀ b,X b-> ∀ l o,σ[l]? = some (.obj o)->blk μ l o≠b
 xs : ∀ b,X b->n0+2<=b∧b<W.heap.size∧Φ b=none
 hn0:c.w0.heap.size<=n0
 le:Φ1.le Φ
 mks:Pq B ds W
 mkb : ∀ d∈ds,∃ D,d={target:=.collected D,args:=#[]}∧D<n0
 lp:W.heap[n0+1]? = some (.loop rec)
 df:W.heap[n0]? = some (.deferred (some []))
def JB.ok{B:Nat}{ds:List Deferred}{c:Ctx}{tm:Array Value}{env:List AV}{Φ1:Yk}{n0:Nat}{rec:Loop}{I:ZC->Prop}:JOK (JB B ds c tm env Φ1 n0 rec I) where
 phi h:=by obtain⟨σ,μ,_,hg,_⟩:=h.ex;exact hg.phi
 glob h:=by obtain⟨σ,μ,_,hg,_⟩:=h.ex;exact hg.laid.mono hg.Φle
 out h a:=(h.xs _ a).2
 step {Φ X W Φ' X' W'} h s:=by
  obtain⟨σ,μ,h1,h2,h3,h4⟩:=h.ex;have hn : ∀ b,b<n0+2-> ¬ X b:=λb hb a=>by have:=(h.xs _ a).1;omega
  have e:n0+1<W.heap.size:=(Ii.1 h.lp).1;refine⟨⟨σ,μ,h1,h2.steps s λb hb=>⟨by have:=(h.xs _ hb).1;have:=h.hn0;omega,h4 b hb⟩,h3.mono (.refl _) s.le,λb hb l o g=> ?_⟩,λb hb=> ?_,h.hn0,h.le.trans s.le,⟨h.mks.1,λd hd=> ?_⟩,h.mkb,?_,?_⟩
  ·rcases (s.own b hb).1 with a|a
   ·exact h4 b a l o g
   ·have:=(h2.obj l o g).blk_lt;omega
  ·obtain⟨r,q,y⟩:=s.own b hb;refine⟨?_,q,y⟩;rcases r with a|a
   ·exact(h.xs _ a).1
   ·omega
  ·obtain⟨D,u,j,k⟩:=h.mks.2 d hd;obtain⟨D',i,e4⟩:=h.mkb d hd;have e5:D=D':=by rw[j]at i;simpa using i
   refine⟨D,u,j,?_⟩;rw[s.keep D (by omega) (hn D (by omega))];exact k
  ·rw[s.keep _ e (hn _ (by omega))];exact h.lp
  ·rw[s.keep _ (by omega) (hn _ (by omega))];exact h.df
def JB.putLoop{B:Nat}{ds:List Deferred}{c:Ctx}{tm:Array Value}{env:List AV}{Φ1:Yk}{n0:Nat}{rec rec':Loop}{I:ZC->Prop}{Φ:Yk}{X:Nat->Prop}{W:World}(h:JB B ds c tm env Φ1 n0 rec I Φ X W):JB B ds c tm env Φ1 n0 rec' I Φ X (W.putObj (n0+1) (.loop rec')):=by
 obtain⟨σ,μ,h1,h2,h3,h4⟩:=h.ex;have g:n0+1<W.heap.size:=(Ii.1 h.lp).1;have a:=grownBy_putObj' W (n0+1) (Obj.loop rec');refine⟨⟨σ,μ,h1,h2.grown (B:=n0+1) (.inr λr e es ck j=> ?_) a (by have:=h.hn0;omega) (λr e=> ?_),h3,h4⟩,λb hb=> ?_,h.hn0,h.le,⟨h.mks.1,λd hd=> ?_⟩,h.mkb,World.putObj_heap_same g,(Iz (by omega)).trans h.df⟩
 ·cases e;rw[h.lp]at j;cases j
 ·cases e;exact⟨II _,_,h.lp,rfl⟩
 ·obtain⟨k1,k2,k3⟩:=h.xs b hb;exact⟨k1,by have:=a.size;omega,k3⟩
 ·obtain⟨D,q,i,l⟩:=h.mks.2 d hd;obtain⟨D',k,e4⟩:=h.mkb d hd;have e5:D=D':=by rw[i]at k;simpa using k
  exact⟨D,q,i,(Iz (by omega)).trans l⟩
def JB.round{B:Nat}{ds:List Deferred}{c:Ctx}{tm:Array Value}{env:List AV}{Φ1:Yk}{n0:Nat}{rec:Loop}{I I':ZC->Prop}{Φ Φ':Yk}{X:Nat->Prop}{W W':World}{σ k:ZC}{μ μ':Mu}(h:JB B ds c tm env Φ1 n0 rec I Φ X W)
  (i:Good c μ Φ σ W) (s:Wy μ Φ tm env) (u : ∀ b,X b-> ∀ l o,σ[l]? = some (.obj o)->blk μ l o≠b) (a:Good (Y7 μ Φ σ W) μ' Φ' k W') (q:I' k):JB B ds c tm env Φ1 n0 rec I' Φ' X W'∧ ∀ b,X b->W'.heap[b]? = W.heap[b]? :=by
 have g : ∀ b,X b-> ¬ (Y7 μ Φ σ W).own b:=by rintro b hb ⟨l,o,j,e⟩;exact u b hb l o j e
 refine⟨⟨⟨k,μ',q,i.unbase a,s.mono a.μle a.Φle,λb hb l o j e=> ?_⟩,λb hb=> ?_,h.hn0,h.le.trans a.Φle,h.mks.keep i a,h.mkb,i.keeps a h.lp rfl (.inr λes z e=>by cases e),i.keeps a h.df rfl (.inr λes z e=>by cases e)⟩,λb hb=> ?_⟩
 ·rcases a.own l o j with h1|h1
  ·have h1:W.heap.size<=blk μ' l o:=h1
   have:=(h.xs b hb).2.1;omega
  ·rw[e]at h1;exact g b hb h1
 ·obtain⟨k1,y,k3⟩:=h.xs b hb;refine⟨k1,IU y a.size,?_⟩;cases r:Φ' b with
  | none=>rfl
  | some cs=>
   rcases a.dom b cs r with h1|h1|h1
   ·have h1:Φ b=some cs:=h1;rw[k3]at h1;cases h1
   ·have h1:W.heap.size<=b:=h1;omega
   ·exact absurd h1 (g b hb)
 ·exact a.frame b (h.xs b hb).2.1 (g b hb)
def Un.mapRL{μ:Mu}{Φ:Yk}{vs:List Value}{ps:List PV}(h:Un Φ vs ps):RL μ Φ vs (ps.map .pv):=h.toRL
def AtS(a:List Fr)(T:ZH)(E:U1)(k:Nat)(F:St->Prop)(ic:IC)(j n:Nat)(l:List (Nat×AV))(σ:ZC):Prop:=X6 T E k F (.inl (hd ic j).1) ((hd ic j).2++a) ⟨X5 n 0 l,σ⟩
def LC(μ:Mu)(σ:ZC):Nat->Prop:=λb=> ∃ l o,σ[l]? = some (.obj o)∧blk μ l o=b
def d1g(σ:ZC):Prop:= ∀ (l:Nat) o,σ[l]? = some (Slot.obj o)-> ∀ ty sz xs,o ≠ .row true ty sz xs
def Dn.none{μ:Mu}{Φ:Yk}{w:World}{l:Nat}{o:AObj}(h:Dn μ Φ w l o)(hs : ∀ ty sz xs,o ≠ .row true ty sz xs):Φ (blk μ l o)=none:=by
 cases o with
 | box xs=>obtain⟨B,C,S,T,cs,h1,h2,h3,e,a⟩:=h;simpa [blk,h1]using a
 | map es=>obtain⟨B,C,S,mes,ck,h1,h2,h3,e,a,g⟩:=h;simpa [blk,h1]using a
 | row fz ty sz xs=>
  obtain⟨B,C,cs,h1,h2,h3,e,a,g,h7,h8,h9,b⟩:=h;cases fz with
  | true=>exact absurd rfl (hs ty sz xs)
  | false=>simpa [blk,h1]using b
def Steps.of_good{μ μ':Mu}{Φ Φ':Yk}{σ g:ZC}{w w':World}(a:Good (Y7 μ Φ σ w) μ' Φ' g w')(hs:d1g g):Steps (LC μ σ) (LC μ' g) Φ Φ' w w' where
 os:=a.os
 tape:=a.tape
 output:=a.output
 size:=a.size
 keep b h1 h2:=a.frame b h1 h2
 le:=a.Φle
 phi:=a.phi
 dom b cs h:=by
  rcases a.dom b cs h with h1|h1|h1
  ·exact .inl h1
  ·exact .inr (.inr h1)
  ·exact .inr (.inl h1)
 own b hb:=by
  obtain⟨l,o,e,rfl⟩:=hb;refine⟨?_,(a.obj l o e).blk_lt,(a.obj l o e).none (hs l o e)⟩;rcases a.own l o e with h|h
  ·exact .inr h
  ·exact .inl h
def Good.moved{μ:Mu}{Φ Φ':Yk}{σ:ZC}{w w':World}{c:Ctx}(h:Good c μ Φ σ w)(g:GlobOK Φ')(e:Φ.le Φ')(i:UL Φ' w')(hb : ∀ b,LC μ σ b->w'.heap[b]? = w.heap[b]?)(hn : ∀ b,LC μ σ b->Φ' b=none)(hs:d1g σ):Good (Y7 μ Φ' σ w') μ Φ' σ w' where
 phi:=i
 obj l o ho:=by have a:=h.obj l o ho;refine(a.keep (Mu.le.refl _) (λ_=>rfl) e ?_ (hb _ ⟨l,o,ho,rfl⟩)).1;rw[hn _ ⟨l,o,ho,rfl⟩,a.none (hs l o ho)]
 apart:=h.apart
 fresh:=h.fresh
 own l o ho:=.inr ⟨l,o,ho,rfl⟩
 os:=rfl
 tape:=rfl
 output:=rfl
 size:=II _
 frame _ _ _:=rfl
 Φle:=.refl _
 μle:=.refl _
 dom b cs h:=.inl h
 laid:=g
def JB.mid{B:Nat}{ds:List Deferred}{c:Ctx}{tm:Array Value}{env:List AV}{Φ1:Yk}{n0:Nat}{rec rec':Loop}{I:ZC->Prop}{Φ Φ':Yk}{X:Nat->Prop}{W W':World}{σ a:ZC}{μ μ':Mu}(h:JB B ds c tm env Φ1 n0 rec I Φ X W)
  (q:Good c μ Φ σ W) (u:Wy μ Φ tm env) (z : ∀ b,X b-> ∀ l o,σ[l]? = some (.obj o)->blk μ l o≠b) (g:Good (Y7 μ Φ σ W) μ' Φ' a W') :
  JB B ds c tm env Φ1 n0 rec' (λs=>s=a) Φ' X (W'.putObj (n0+1) (.loop rec'))∧(∀ b,X b->(W'.putObj (n0+1) (.loop rec')).heap[b]? = W.heap[b]?)∧Good c μ' Φ' a (W'.putObj (n0+1) (.loop rec'))∧Wy μ' Φ' tm env∧(∀ b,X b-> ∀ l o,a[l]? = some (.obj o)->blk μ' l o≠b):=by
 obtain⟨k1,A⟩:=h.round q u z g (I':=λs=>s=a) rfl;have i : ∀ b,X b-> ¬ (Y7 μ Φ σ W).own b:=by rintro b hb ⟨l,o,k,e⟩;exact z b hb l o k e
 have hsz:n0+1<W'.heap.size:=(Ii.1 k1.lp).1;have j:=grownBy_putObj' W' (n0+1) (Obj.loop rec');refine⟨k1.putLoop,λb hb=> ?_,(q.unbase g).grown (B:=n0+1) (.inr λr e es ck y=> ?_) j (by have:=h.hn0;omega) (λr e=> ?_),u.mono g.μle g.Φle,λb hb l o k e=> ?_⟩
 ·exact(Iz (by have:=(h.xs b hb).1;omega)).trans (A b hb)
 ·cases e;rw[k1.lp]at y;cases y
 ·cases e;exact⟨II _,_,k1.lp,rfl⟩
 ·rcases g.own l o k with h1|h1
  ·have h1:W.heap.size<=blk μ' l o:=h1
   have:=(h.xs b hb).2.1;omega
  ·rw[e]at h1;exact i b hb h1
def c3d{c:Ctx}{μ:Mu}{Φ:Yk}{k:Nat}{ls:List Nat}{env:List AV}{σ:ZC}{w:World}{st':St}(u:Good c μ Φ σ w)(h:CL k ls env σ=some st'):
  ∀ (i:Nat) (o':AObj),st'.heap[i]? = some (.obj o')-> ∃ (l:Nat) (o:AObj),σ[l]? = some (.obj o)∧blk (μ.ren ls) i o'=blk μ l o:=by
 unfold CL at h;split at h
 ·rename_i hc;simp only[Ih,gm]at hc;obtain⟨hc1,hc2⟩:=hc;simp only[Ib,Cm]at h;obtain⟨os,g,env',henv,rfl⟩:=h;obtain⟨h1,h2⟩:=VO g;have j : ∀ l i,fwd ls l=some i-> ∀ n z,μ l n=some z->μ.ren ls i n=some z:=by intro l i hi n z r;simp[Mu.ren,Ls hi,r]
  have b : ∀ (i l:Nat),ls[i]? = some l-> ∀ n,μ.ren ls i n=μ l n:=λi l h n=>by simp[Mu.ren,h]
  intro i o' ho;have ho:os[i]? = some (Slot.obj o'):=ho;have hi:i<ls.length:=by have:=(Ig.1 ho).1;omega
  have:=h2 i ls[i] _ (Ie hi) ho;simp only[Ib]at this;obtain⟨s,hs,a⟩:=this;cases s with
  | fresh=>cases a
  | dead=>simp[Qz]at a
  | obj o=>simp only[Qz,Cm]at a;obtain⟨q,y,e⟩:=a;cases e;exact⟨ls[i],o,hs,(WV j (b i ls[i] (Ie hi)) (u.obj _ o hs) y).2⟩
 ·cases h
def JB.gc{B:Nat}{ds:List Deferred}{c:Ctx}{tm:Array Value}{env:List AV}{Φ1:Yk}{n0 k:Nat}{rec:Loop}{I I':ZC->Prop}{Φ:Yk}{X:Nat->Prop}{W:World}{keep:List Nat}(h:JB B ds c tm env Φ1 n0 rec I Φ X W)(e : ∀ i m,k<=i->c.μ0 i m=none)
  (r : ∀ σ,I σ-> ∃ a,HZ k keep ⟨env,σ⟩=some a∧a.env=env∧I' a.heap):JB B ds c tm env Φ1 n0 rec I' Φ X W:=by
 obtain⟨σ,μ,h1,h2,h3,h4⟩:=h.ex;obtain⟨a,j,u,y⟩:=r σ h1;obtain⟨s,g⟩:=Qb e h2 (RB h3) j;rw[u]at g;refine⟨⟨a.heap,_,y,s,g,λb hb l o q=> ?_⟩,h.xs,h.hn0,h.le,h.mks,h.mkb,h.lp,h.df⟩;obtain⟨l',o',k1,z⟩:=c3d h2 j l o q;rw[z];exact h4 b hb l' o' k1
def d1t{P:Program}{T:ZH}{B nn:Nat}{g:Operand}{ps:Array Tmp}{assign body:Code}{d:IOp}{gf:Nat}{ls:List Nat}{pss:List (List PV)}{α:Type}{encp:α->List PV}{pre:List (List PV)->Bool}{F:List (List PV)->List α}
  {icB:IC} {c:Ctx} {k0:Nat} {keep sl:List Nat} {S st:St} {a:Act} {w:World} {Q:X9} {icA:IC} {slA:List Nat} {Mid:Nat->α->St->Prop} (hT:Xa P T) (hmix:P.follows .mixedOrders) (hnn:1<=nn)
  (hr:UK c st a w) (hk0 : ∀ i m,k0<=i->c.μ0 i m=none) (hB:B<=c.w0.heap.size) (hg:Y4 g=some d) (hev:ev st.env d = .fn gf [] (ls.map λl=>.ptr l 0)) (hnd:ls.Nodup) (hlen:ls.length=pss.length)
  (hbox : ∀ (j:Nat) l ps,ls[j]? = some l->pss[j]? = some ps->st.heap[l]? = some (.obj (.box (ps.map .pv)))) (hgc:HZ k0 keep ⟨st.env,f8h ls st.heap⟩=some S)
  (hI:g1c P gf encp pre F) (hpre:pre pss) (hsz : ∀ x,(encp x).length=ps.size)
  (I:Nat->ZC->Prop) (Ix:ZC->Prop) (h0:I 0 S.heap) (hag:Tr P assign icA) (hrefA:VH assign) (hbd:Tr P body icB) (href:VH body)
  (hround : ∀ k x σ,(F pss)[k]? = some x->I k σ->X6 T (λn S' _=>n=99∧Mid k x S') σ.length (λ_=>False) (.inl icA) [.seq (.ext 99 slA)] ⟨a1g ps.toList ((encp x).map .pv) S.env,σ⟩)
  (hbody : ∀ k x st,(F pss)[k]? = some x->Mid k x st->X6 T (λn S' _=>n=99∧ ∃ S2,HZ k0 keep ⟨S.env,S'.heap⟩=some S2∧S2.env=S.env∧I (k+1) S2.heap) st.heap.length (λst=>Ix st.heap) (.inl icB) [.seq (.ext 99 sl)] st)
  (hQ : ∀ σ a' w',I (F pss).length σ->a'.defers=[]->UK c ⟨S.env,σ⟩ a' w'->Q .normal a' w')
  (hQx : ∀ σ a' w',Ix σ->a'.defers=[]->UK c ⟨S.env,σ⟩ a' w'->Q .ret a' w'):(FJ B nn hT hmix).W (.rangeFunc g ps assign body) Q a w:=by
 intro hd0 ds hm;obtain⟨⟨fn0,hf1,hf2,hf3⟩,hI⟩:=hI;obtain⟨μ,Φ,hgd,he,_⟩:=hr
 have hcl:=Yn he hg;rw[hev]at hcl;obtain⟨lb,hlb,hlbn,hlbr⟩ : ∃ lb:Array Value,a.eval g = .func (.func gf) #[] lb∧lb.size=ls.length∧ ∀ (j:Nat) v x,lb[j]? = some v->(ls.map λl=>AV.ptr l 0)[j]? = some x->R μ Φ v x:=by
  generalize hq:a.eval g=q at hcl;cases hcl with
  | fn f cs ds xs ys hn hm h k=>
   have:cs = #[]:=by simpa using hn
   subst this;exact⟨ds,rfl,by simpa using hm,k⟩
 obtain⟨Φ1,m1,m2,m3⟩:=h2b ls pss hgd hnd hlen hbox;have hcaps:j2l Φ1 lb.toList pss:=by
  refine⟨by simp[hlbn,hlen],λj v p hv hp=> ?_⟩;have hj:=(Ig.1 hp).1;have hl:ls[j]? = some (ls[j]'(by omega)):=Ie (by omega);obtain⟨Bk,C,Sz,cs,e1,e2,e3,e4⟩:=m3 j _ p hl hp;have hv':lb[j]? = some v:=by simpa using hv
  have:=hlbr j v (.ptr (ls[j]'(by omega)) 0) hv' (by simp[hl]);cases this with
  | ptr l o B' C' S' h=>rw[e1]at h;cases h;exact⟨Bk,cs,rfl,e2,e3,e4⟩
 have he1:Wy μ Φ1 a.tmps st.env:=he.mono (.refl _) m1;have hgc2 : ∃ μ',Good c μ' Φ1 S.heap w∧Wy μ' Φ1 a.tmps S.env:=by obtain⟨k1,k2⟩:=Qb hk0 m2 (RB he1) hgc;exact⟨_,k1,k2⟩
 obtain⟨μ1,hg1,he2⟩:=hgc2;have hsz0:c.w0.heap.size<=w.heap.size:=hgd.size;have hmB : ∀ d∈ds,∃ D,d={target:=.collected D,args:=#[]}∧D<w.heap.size:=λd hd=>by obtain⟨D,_,e1,e2⟩:=hm.2 d hd;exact⟨D,e1,(Ii.1 e2).1⟩
 clear hgd he he1 m1 m2 m3 hlbr hcl hbox hgc;refine wpIn_rangeFunc ?_;intro fn hfn;obtain⟨W1,hW1⟩ : ∃ W1,(w.alloc (.deferred (some []))).alloc (.loop {state:=.ready,pending:=none,fn,tmps:=a.tmps,params:=ps,assign:=assign,body,defers:=w.heap.size})=W1:=⟨_,rfl⟩
 have hL1:W1.heap[w.heap.size+1]? = some (.loop {state:=.ready,pending:=none,fn,tmps:=a.tmps,params:=ps,assign:=assign,body,defers:=w.heap.size}):=by rw[<- hW1];have:=bB (w.alloc (.deferred (some []))) (.loop {state:=.ready,pending:=none,fn,tmps:=a.tmps,params:=ps,assign:=assign,body,defers:=w.heap.size});rwa [World.size_alloc]at this
 have hK1:W1.heap[w.heap.size]? = some (.deferred (some [])):=by rw[<- hW1];exact(Below.heap_alloc _ _ _ (by simp)).trans (bB w _)
 have hb1:Below w.heap.size w W1:=by rw[<- hW1];exact((Below.refl _ w).alloc (II _) _).alloc (by simp) _
 have hJ0:JB B ds c a.tmps S.env Φ1 w.heap.size {state:=.ready,pending:=none,fn,tmps:=a.tmps,params:=ps,assign:=assign,body,defers:=w.heap.size} (I 0) Φ1 (λ_=>False) W1:=by refine⟨⟨S.heap,μ1,h0,hg1.below hb1 (.refl _) (λb cs hc=>by obtain⟨T',fz,hh⟩:=hg1.phi b cs hc;exact⟨T',fz,(hb1.block b (Ii.1 hh).1).trans hh⟩) (λb cs h=>.inl h),he2,λb hb=>hb.elim⟩,λb hb=>hb.elim,hsz0,.refl _,⟨hm.1,λd hd=> ?_⟩,hmB,hL1,hK1⟩;obtain⟨D,e0,e1,e2⟩:=hm.2 d hd;exact⟨D,e0,e1,(hb1.block D (Ii.1 e2).1).trans e2⟩
 refine⟨w.heap.size+1,[{target:=.collected w.heap.size,args:=#[]}],W1,{target:=.fn (.func gf) lb,args:=#[.func (.yield (w.heap.size+1)) #[] #[]]},W1,gf,
  #[.func (.yield (w.heap.size+1)) #[] #[]]++lb,W1,?_,?_,?_,?_,?_,?_⟩
 ·rw[<- hW1];exact run_enterLoop_outer _ _ _ _ _
 ·simp only[resolve,b2i,hlb];simp[go_sem]
 ·intro f' hf';trivial
 ·simp[invoke,go_sem,Jv hf1 hf2 hf3]
 ·intro _;exact hnn
 ·refine callsIn_wide.2 ((hI pss hpre Φ1 lb (w.heap.size+1)
   (λk=>JB B ds c a.tmps S.env Φ1 w.heap.size {state:=.ready,pending:=none,fn,tmps:=a.tmps,params:=ps,assign:=assign,body,defers:=w.heap.size} (I k))
   (JB B ds c a.tmps S.env Φ1 w.heap.size {state:=.done,pending:=some .ret,fn,tmps:=a.tmps,params:=ps,assign:=assign,body,defers:=w.heap.size} Ix) W1 hcaps (λk=>JB.ok) JB.ok ?_ hJ0).mono ?_)
  ·intro n k x Φ2 X W vs hx hj hvs;have hsize:vs.size=ps.size:=by have:=hvs.1;rw[hsz]at this;simpa using this
   have hy:=run_yield (P:=P) (args:=vs) hj.lp hsize;refine⟨fn,_,_,body,hy,roundIn_of_wpIn hfn ?_⟩;have e:(ps.zip vs).foldl (λt (q:Nat×Value)=>t.setIfInBounds q.1 q.2) a.tmps=a5s ps.toList vs.toList a.tmps:=by rw[<- Array.foldl_toList,Array.toList_zip];exact e1o _ _ _
   rw[e];obtain⟨σ,μ2,i1,i2,i3,i4⟩:=hj.ex;have hrelA:UK (Y7 μ2 Φ2 σ W) ⟨a1g ps.toList ((encp x).map .pv) S.env,σ⟩ {tmps:=a5s ps.toList vs.toList a.tmps,defers:=[]} W:=⟨μ2,Φ2,i2.rebase,e1y _ _ _ i3 hvs.mapRL,rfl⟩
   have hrunA:=hround k x σ hx i1 P
    (e9j (some (w.heap.size+1)) n (λ_ a' W'=> ∃ st',Mid k x st'∧UK (Y7 μ2 Φ2 σ W) st' a' W') hT hmix) (λn cd=>n=99∧cd=g9n "n") (Y7 μ2 Φ2 σ W)
    (by rintro n cd ⟨rfl,rfl⟩ st' a' W' q hr' hE;exact⟨_,hE.2,hr'⟩)
    (λi m hi=>i2.fresh i m (.inl (Ik.2 hi))) [.seq (g9n "n")] (.seq (.ext ⟨rfl,rfl⟩) .nil) _ W hrelA assign hag.x
   refine IA (d8e hrunA hrefA) λe a1 W1' h=> ?_
   cases e with
   | ret=>obtain⟨_,st',hF,_⟩:=h;exact hF.elim
   | exit id=>obtain⟨h,_⟩:=h;rcases h with h|h <;> cases h
   | goto t=>obtain⟨h,_⟩:=h;rcases h with h|h <;> cases h
   | panic ch=>obtain⟨h,_⟩:=h;rcases h with h|h <;> cases h
   | outgrown=>obtain⟨h,_⟩:=h;rcases h with h|h <;> cases h
   | normal=>
   obtain⟨⟨env',σ'⟩,hmid,⟨μ3,Φ3,jA,heA,hdA⟩⟩:=h;obtain⟨hjL,hXk,g3,he3,hn3⟩:=hj.mid (rec':={state:=.busy,pending:=none,fn,tmps:=a.tmps,params:=ps,assign:=assign,body,defers:=w.heap.size}) i2 i3 i4 jA;obtain⟨kA,_⟩:=hj.round i2 i3 i4 jA (I':=λs=>s=σ') rfl;obtain⟨tm1,df1⟩:=a1;simp only at hdA;subst hdA;show ∃ w₂,(Instr.beginRound (w.heap.size+1)).run P W1' = .ok () w₂∧body.wpIn (XR (some (w.heap.size+1))) n P _ {tmps:=tm1,defers:=[]} w₂;refine⟨_,run_beginRound kA.lp rfl,?_⟩;have hj2:=hjL;generalize W1'.putObj (w.heap.size+1) (.loop {state:=.busy,pending:=none,fn,tmps:=a.tmps,params:=ps,assign:=assign,body,defers:=w.heap.size})=W2 at hj2 hXk g3 hjL ⊢;have hle3:Φ2.le Φ3:=jA.Φle;have hrel:UK (Y7 μ3 Φ3 σ' W2) ⟨env',σ'⟩ {tmps:=tm1,defers:=[]} W2:=⟨μ3,Φ3,g3.rebase,heA,rfl⟩
   have hrun:=hbody k x ⟨env',σ'⟩ hx hmid P
    (e9j (some (w.heap.size+1)) n (λ_ a' W'=> ∃ σ'' env'',UK (Y7 μ3 Φ3 σ' W2) ⟨env'',σ''⟩ a' W'∧ ∃ S2,HZ k0 keep ⟨S.env,σ''⟩=some S2∧S2.env=S.env∧I (k+1) S2.heap) hT hmix) (λn cd=>n=99∧cd=g9n "n") (Y7 μ3 Φ3 σ' W2)
    (by rintro n cd ⟨rfl,rfl⟩ st' a' W' q hr' hE;exact⟨_,_,hr',hE.2⟩)
    (λi m hi=>g3.fresh i m (.inl (Ik.2 hi))) [.seq (g9n "n")] (.seq (.ext ⟨rfl,rfl⟩) .nil) _ W2 hrel body hbd.x
   refine IA (d8e hrun href) λe a' W' h=> ?_
   cases e with
   | normal=>
    obtain⟨σ'',env'',⟨μ4,Φ4,j1,j2,j3⟩,j4⟩:=h;obtain⟨k0',k2⟩:=hj2.round g3 he3 hn3 j1 (I':=λs=> ∃ S2,HZ k0 keep ⟨S.env,s⟩=some S2∧S2.env=S.env∧I (k+1) S2.heap) j4;have k1:=k0'.gc (I':=I (k+1)) hk0 λs hs=>hs
    refine⟨_,_,run_endRound none k1.lp,Φ4,hle3.trans j1.Φle,λb hb=> ?_,.inl ⟨rfl,k1.putLoop⟩⟩;exact(Iz (by have:=(hj.xs b hb).1;omega)).trans ((k2 b hb).trans (hXk b hb))
   | ret=>obtain⟨_,st',hF,⟨μ4,Φ4,j1,j2,j3⟩⟩:=h;obtain⟨k1,k2⟩:=hj2.round g3 he3 hn3 j1 hF;refine⟨_,_,run_endRound (some .ret) k1.lp,Φ4,hle3.trans j1.Φle,λb hb=> ?_,.inr ⟨rfl,k1.putLoop⟩⟩;exact(Iz (by have:=(hj.xs b hb).1;omega)).trans ((k2 b hb).trans (hXk b hb))
   | exit id=>obtain⟨h,_⟩:=h;rcases h with h|h <;> cases h
   | goto t=>obtain⟨h,_⟩:=h;rcases h with h|h <;> cases h
   | panic ch=>obtain⟨h,_⟩:=h;rcases h with h|h <;> cases h
   | outgrown=>obtain⟨h,_⟩:=h;rcases h with h|h <;> cases h
  ·have hmk : ∀ {rec:Loop} {Iσ:ZC->Prop} {Φ':Yk} {X':Nat->Prop} {W':World},JB B ds c a.tmps S.env Φ1 w.heap.size rec Iσ Φ' X' W'->Pq B ({target:=.collected w.heap.size,args:=#[]}::ds) W':=by
    intro rec Iσ Φ' X' W' hj;refine⟨aY.2 ⟨λhin=> ?_,hj.mks.1⟩,λd' hd'=> ?_⟩
    ·obtain⟨D',z1,z2⟩:=hj.mkb _ hin;simp only[Deferred.mk.injEq,Target.collected.injEq]at z1;omega
    ·rcases bC.1 hd' with rfl|hd'
     ·exact⟨w.heap.size,by omega,rfl,hj.df⟩
     ·exact hj.mks.2 d' hd'
   rintro e W2 ⟨⟨v,rfl⟩,Φ',X',hj|hj⟩
   ·have hj':=hj.putLoop (rec':={state:=.exhausted,pending:=none,fn,tmps:=a.tmps,params:=ps,assign:=assign,body,defers:=w.heap.size});obtain⟨σ,μ3,k1,k2,k3,_⟩:=hj'.ex;exact⟨none,_,run_endLoop hj.lp (by simp),hmk hj',hQ σ _ _ k1 rfl ⟨μ3,Φ',k2,k3,rfl⟩⟩
   ·have hj':=hj.putLoop (rec':={state:=.exhausted,pending:=some .ret,fn,tmps:=a.tmps,params:=ps,assign:=assign,body,defers:=w.heap.size});obtain⟨σ,μ3,k1,k2,k3,_⟩:=hj'.ex;exact⟨some .ret,_,run_endLoop hj.lp (by simp),wpIn_ret ⟨hmk hj',hQx σ _ _ k1 rfl ⟨μ3,Φ',k2,k3,rfl⟩⟩⟩
def CB(P:Program):Code->Option (IOp×List Nat×IC×IC)
 | .rangeFunc g ps a b=>if VH a=true∧VH b then(Y4 g).bind λd=>(UE P a).bind λe=>(UE P b).map λic=>(d,ps.toList,e,(DX [] [] ic []).1)else none
 | _=>none
def d2v{P:Program}{cd:Code}{d:IOp}{ps:List Nat}{i ic:IC}(h:CB P cd=some (d,ps,i,ic)):
  ∃ g e a b,cd = .rangeFunc g e a b∧Y4 g=some d∧e.toList=ps∧Tr P a i∧Tr P b ic∧VH a∧VH b:=by
 unfold CB at h;split at h
 ·rename_i g e a b;split at h
  ·rename_i hn;simp only[Ib,Cm,Ia]at h;obtain⟨d',h1,ia',h2,ic',h3,rfl,rfl,rfl,rfl⟩:=h;exact⟨g,e,a,b,rfl,h1,rfl,PD h2,c5b (PD h3) _ _ _,hn.1,hn.2⟩
  ·cases h
 ·cases h
def d2f{α:Type}(T:ZH)(z:Nat)(d:IOp)(A:Nat)(ps:List Nat)(u h:IC)(b:α->List PV)(pre:List (List PV)->Bool)(F:List (List PV)->List α)(st:St)(q:XE->St->Prop):Prop:=
 ∃ (g:List Nat) (a:List (List PV)) (keep r sl:List Nat) (S:St) (I:Nat->ZC->Prop) (y:ZC->Prop) (e:Nat->α->St->Prop),
  ev st.env d = .fn A [] (g.map λl=>.ptr l 0)∧g.Nodup∧g.length=a.length∧(∀ (j:Nat) l ps,g[j]? = some l->a[j]? = some ps->st.heap[l]? = some (.obj (.box (ps.map .pv)))) ∧
  HZ z keep ⟨st.env,f8h g st.heap⟩=some S∧pre a∧I 0 S.heap ∧
  (∀ k x σ,(F a)[k]? = some x->I k σ->X6 T (λn s _=>n=99∧e k x s) σ.length (λ_=>False) (.inl u) [.seq (.ext 99 r)] ⟨a1g ps ((b x).map .pv) S.env,σ⟩) ∧
  (∀ k x st,(F a)[k]? = some x->e k x st->X6 T (λn s _=>n=99∧ ∃ i,HZ z keep ⟨S.env,s.heap⟩=some i∧i.env=S.env∧I (k+1) i.heap) st.heap.length (λst=>y st.heap) (.inl h) [.seq (.ext 99 sl)] st) ∧
  (∀ σ,I (F a).length σ->q .normal ⟨S.env,σ⟩)∧(∀ σ,y σ->q .ret ⟨S.env,σ⟩)
def a7u{P:Program}{T:ZH}{α:Type}{C D B:Nat}{d:IOp}{ps:List Nat}{r l:IC}{h:α->List PV}{pre:List (List PV)->Bool}{F:List (List PV)->List α}{cd:Code}
  (A:Xa P T) (j:P.follows .mixedOrders) (E:g1c P D h pre F) (u : ∀ x,(h x).length=ps.length) (z:CB P cd=some (d,ps,r,l))
  {c:Ctx} (hB:c.w0.heap.size=B) (H : ∀ i m,C<=i->c.μ0 i m=none) {st:St} {a:Act} {w:World} {q:XE->St->Prop} (hr:UK c st a w) (L:d2f T C d D ps r l h pre F st q) :
  (FJ B 4 A j).W cd (λe a' w'=> ∃ x st',e=x.ex∧q x st'∧UK c st' a' w') a w:=by
 obtain⟨g,psA,aA,b,rfl,h1,h2,h3,X,Y,O⟩:=d2v z;obtain⟨ls,pss,keep,slA,sl,S,I,Ix,Mid,Q,J,N,U,e5,V,M,K,y,Z,s⟩:=L;subst h2;exact d1t A j (by omega) hr H (by omega) h1 Q J N U e5 E V (λx=>by rw[u];simp) I Ix M h3 Y X O K y (λσ a' w' hi hd k=>⟨.normal,_,rfl,Z σ hi,k⟩) (λσ a' w' hi hd k=>⟨.ret,_,rfl,s σ hi,k⟩)
def c4n(L:List (Nat×AV)): ∀ (n i j:Nat),(X5 n i L)[j]? = if j<n then some (((L.find? (·.1==i+j)).map (·.2)).getD .junk)else none:=by
 intro n
 induction n with
 | zero=>intro i j;simp[X5]
 | succ n ih=>
  intro i j;cases j with
  | zero=>simp[X5]
  | succ j=>simp only[X5,List.getElem?_cons_succ,ih,Nat.add_lt_add_iff_right];rw[show i+1+j=i+(j+1) by omega]
def c2k(L:List (Nat×AV))(n i:Nat):(X5 n i L).length=n:=by
 induction n generalizing i with
 | zero=>rfl
 | succ n ih=>simp[X5,ih]
def f2c{L:List (Nat×AV)}{j:Nat}{x:AV}(h:((L.find? (·.1==j)).map (·.2)).getD .junk=x):x = .junk∨(j,x)∈L:=by
 cases e:L.find? (·.1==j)with
 | none=>rw[e]at h;exact .inl h.symm
 | some q=>
  rw[e]at h;have h1:=List.find?_some e;have h2:=List.mem_of_find?_eq_some e;obtain⟨a,b⟩:=q;have h1:a=j:=by simpa using h1
  have h:b=x:=h;subst h1 h;exact .inr h2
def b1l{μ:Mu}{Φ:Yk}{t:Array Value}{n:Nat}{L:List (Nat×AV)}(hn:t.size=n)(h : ∀ p∈L,∀ v,t[p.1]? = some v->R μ Φ v p.2):Wy μ Φ t (X5 n 0 L):=by
 refine⟨by rw[c2k];simpa using hn,λj v x b a=> ?_⟩;rw[c4n]at a;split at a
 ·simp only[Ic,aT]at a;rcases f2c a with rfl|hm
  ·exact .junk v
  ·exact h (j,x) hm v (by simpa using b)
 ·cases a
def f2f{μ:Mu}{Φ:Yk}{t:Array Value}{n:Nat}{L:List (Nat×AV)}(h:Wy μ Φ t (X5 n 0 L)):t.size=n∧ ∀ (i:Nat) x,i<n->((L.find? (·.1==i)).map (·.2))=some x-> ∃ v,t[i]? = some v∧R μ Φ v x:=by
 have h1:t.size=n:=by have:=h.1;rw[c2k]at this;simpa using this
 refine⟨h1,λi x hi b=> ?_⟩;have a:t[i]? = some t[i]:=Ij (by omega);exact⟨_,a,h.2 i _ x (by simp) (by rw[c4n,fw hi,aT,b];rfl)⟩
def e5t{Φ:Yk}{B:Nat}{cs:Array Value}{ps:List PV}(h:Φ B=some cs)(hr:Un Φ cs.toList ps)(ho:XZ cs.toList):RP Φ (.pointer (some ⟨B,0,none⟩)) (.rptr ps):=by
 have g:cs.size=ps.length:=by have:=hr.1;simpa using this
 refine .rptr B 0 cs ps (λj=>cs.getD j undef) h (λj p b=> ?_) (λj p b=> ?_)
 ·have a:j<cs.size:=by rw[g];exact(Ig.1 b).1
  have e:cs.getD j undef=cs[j]:=by simp[dN,a]
  rw[aT,e];exact⟨Ij a,ho _ (by simp)⟩
 ·have a:j<cs.size:=by rw[g];exact(Ig.1 b).1
  have e:cs.getD j undef=cs[j]:=by simp[dN,a]
  show RP Φ (cs.getD j undef) p;rw[e];exact hr.2 j _ p (by simp[a]) b
section
section
variable {P:Program} {T:ZH} {c:Ctx} {nn:Nat}
def d7y(g:Xa P T){ops:Array Oper}{Q:X9}{b L:Nat}{rest os:List Oper}{ps:List PI}{st st':St}{a:Act}{w:World}(hm : ∀ o∈os,o∈ops.toList)(j:WS P ops L os=some ps)(hr:UK c st a w)
  (h:DD T b ps st=some st') (i : ∀ a' w',UK c st' a' w'->wpListIn (XR none) nn P ops Q rest a' w'):wpListIn (XR none) nn P ops Q (os++rest) a w:=by
 have hd:a.defers=[]:=by obtain⟨μ,Φ,hg,he,hd⟩:=hr;exact hd
 have:=c3v (rd:=none) (nn:=nn) (ds:=[]) (Q:=Q) (rest:=rest) g os ps L st st' a w hm j hr h (λa' w' e=>by
  have hd':a'.defers=[]:=by obtain⟨μ,Φ,hg,he,hd⟩:=e;exact hd
  rw[Ck hd']
  exact i a' w' e)
 rwa [Ck hd]at this
def h6c(g:Xa P T){id:Nat}{ops:Array Oper}{Q:X9}{b L:Nat}{ps:List PI}{st st':St}{a:Act}{w:World}(j:WS P ops L ops.toList=some ps)(hr:UK c st a w)(h:DD T b ps st=some st')
  (i : ∀ a' w',UK c st' a' w'->Q .normal a' w'):(Code.region id ops false).wpIn (XR none) nn P Q a w:=by
 refine wpIn_region_list ?_
 have:=d7y (c:=c) (nn:=nn) (Q:=Q) (rest:=[]) g (λo ho=>ho) j hr h (λa' w' e=>i a' w' e)
 rwa [aV]at this
def f6u{ops:Array Oper}{Q:X9}{rest:List Oper}{o:Oper}{a:Act}{w:World}{l d j:Nat}{xs:Array Operand}{ts:Array TypeId}{vs:Array Value}{R:Ending->World->Prop}
  (ho:o.op = .call {callee:=.value (.tmp j),args:=xs,argTypes:=ts}) (u:o.guard=none) (hd:o.dst=some d) (k:a.eval (.tmp j) = .func (.yield l) #[] #[]) (A:xs.map a.eval=vs)
  (z:YieldAt I8 (nn - 1) P l vs w R) (q : ∀ e w',R e w'-> ∃ v,e = .returned v∧wpListIn (XR none) nn P ops Q rest (a.put (some d) v) w'):wpListIn (XR none) nn P ops Q (o::rest) a w:=by
 obtain⟨fn,i,assign,g,s,r⟩:=z;unfold wpListIn;simp only[cz,u,gq];have b:(execOp a.eval o).run P w = .ok (.round l fn i assign g) w:=by subst A;simp only[execOp,ho,resolve,I6,aR,I4,k];simpa [invoke,callFunc,Deferred.ofValue]using s
 refine⟨λ_ _=>trivial,?_⟩;rw[Rk (λc=>by rw[ho];simp),b,Oper.uponIn_round];refine⟨λh=>by simp[XR,I8]at h,r.mono ?_⟩;intro e w' hr;obtain⟨v,rfl,y⟩:=q e w' hr;rw[hd];exact y
def b8w{ops:Array Oper}{Q:X9}{rest:List Oper}{o:Oper}{a:Act}{w:World}{f d:Nat}{xs:Array Operand}{ts:Array TypeId}{vs:Array Value}{R:Ending->World->Prop}{fn:Func}
  (ho:o.op = .call {callee:=.value (.func f),args:=xs,argTypes:=ts}) (hg:o.guard=none) (hd:o.dst=some d) (hf:P.funcs[f]? = some fn) (hb:fn.body.isSome) (hn:(fn.name == "runtime.NumGoroutine")=false) (hx:xs.map a.eval=vs)
  (hY:Calls P f vs w R) (hK : ∀ e w',R e w'-> ∃ v,e = .returned v∧wpListIn (XR none) nn P ops Q rest (a.put (some d) v) w'):wpListIn (XR none) nn P ops Q (o::rest) a w:=by
 unfold wpListIn;simp only[cz,hg,gq];have hrun:(execOp a.eval o).run P w = .ok (.enter f vs) w:=by subst hx;simp only[execOp,ho,resolve,I6,aR,I4];have he:a.eval (.func f) = .func (.func f) #[] #[]:=rfl;simp only[he];simpa [invoke,Deferred.ofValue]using Jv (args:=xs.map a.eval) hf hb hn
 refine⟨λ_ _=>trivial,?_⟩;rw[Rk (λc=>by rw[ho];simp),hrun,Oper.uponIn_enter];refine⟨λh=>by simp[XR,I8]at h,(callsIn_wide.2 hY).mono ?_⟩;intro e w' hr;obtain⟨v,rfl,hk⟩:=hK e w' hr;rw[hd];exact hk
end
end
section
def Cc(P:Program)(T:ZH)(ops:Array Oper)(os:List Oper)(st:St):Option St:=(WS P ops 0 os).bind λps=>DD T st.heap.length ps (grow st (news ps))
section
variable {P:Program} {T:ZH} {c:Ctx} {nn:Nat}
def RJ(b:Xa P T){ops:Array Oper}{Q:X9}{rest os:List Oper}{st st':St}{a:Act}{w:World}(hm : ∀ o∈os,o∈ops.toList)(h:Cc P T ops os st=some st')(hr:UK c st a w)
  (e : ∀ a' w',UK c st' a' w'->wpListIn (XR none) nn P ops Q rest a' w'):wpListIn (XR none) nn P ops Q (os++rest) a w:=by
 unfold Cc at h;rw[Ib]at h;obtain⟨ps,h1,h2⟩:=h;exact d7y b hm h1 (hr.grow _) h2 e
def FO(b:Xa P T){id:Nat}{ops:Array Oper}{Q:X9}{st st':St}{a:Act}{w:World}(h:Cc P T ops ops.toList st=some st')(hr:UK c st a w)
  (e : ∀ a' w',UK c st' a' w'->Q .normal a' w'):(Code.region id ops false).wpIn (XR none) nn P Q a w:=by
 unfold Cc at h;rw[Ib]at h;obtain⟨ps,h1,h2⟩:=h;exact h6c b h1 (hr.grow _) h2 e
end
def d6a:AV->Bool
 | .pv _ | .yld _ | .junk=>true
 | _=>false
def h3u{μ μ':Mu}{Φ Φ':Yk}{v:Value}{x:AV}(h:R μ Φ v x)(b:d6a x)(a:Φ.le Φ'):R μ' Φ' v x:=by
 cases h with
 | pv v p h=>exact .pv v p (h.mono a)
 | junk v=>exact .junk v
 | yld l=>exact .yld l
 | _=>cases b
def g9t{μ μ':Mu}{Φ Φ':Yk}{t:Array Value}{n:Nat}{L b:List (Nat×AV)}(k:Wy μ Φ t (X5 n 0 L))(a:Φ.le Φ')(h : ∀ p∈b,p.1<n∧((L.find? (·.1==p.1)).map (·.2))=some p.2∧d6a p.2=true):Wy μ' Φ' t (X5 n 0 b):=by
 obtain⟨h1,h2⟩:=f2f k;refine b1l h1 λp i v g=> ?_
 obtain⟨k1,j,k3⟩:=h p i;obtain⟨u,e,hr⟩:=h2 p.1 _ k1 j;rw[e]at g;cases g;exact h3u hr k3 a
def La{μ μ':Mu}{Φ Φ':Yk}{σ e:ZC}{W W':World}{X:Nat->Prop}(g:Good (Y7 μ Φ σ W) μ' Φ' e W')(hs:d1g e)(a : ∀ b,X b->b<W.heap.size∧Φ b=none)(hn : ∀ b,X b-> ¬ LC μ σ b):
  Steps (λb=>X b∨LC μ σ b) (λb=>X b∨LC μ' e b) Φ Φ' W W'∧ ∀ b,X b->W'.heap[b]? = W.heap[b]? :=by
 have s:=Steps.of_good g hs;refine⟨⟨s.os,s.tape,s.output,s.size,λb h1 h2=>s.keep b h1 λh=>h2 (.inr h),s.le,s.phi,λb cs h=> ?_,λb h=> ?_⟩,λb h=>s.keep b (a b h).1 (hn b h)⟩
 ·rcases s.dom b cs h with h|h|h
  ·exact .inl h
  ·exact .inr (.inl (.inr h))
  ·exact .inr (.inr h)
 ·rcases h with h|h
  ·refine⟨.inl (.inl h),IU (a b h).1 s.size,?_⟩;cases i:Φ' b with
   | none=>rfl
   | some cs=>
    rcases s.dom b cs i with hq|hq|hq
    ·rw[(a b h).2]at hq;cases hq
    ·exact absurd hq (hn b h)
    ·have:=(a b h).1;omega
  ·obtain⟨h1,h2,h3⟩:=s.own b h;exact⟨h1.imp_left .inr,h2,h3⟩
def Steps.drop{X X' Y:Nat->Prop}{Φ Φ':Yk}{W W':World}(s:Steps X X' Φ Φ' W W')(h : ∀ b,Y b->X' b):Steps X Y Φ Φ' W W':=⟨s.os,s.tape,s.output,s.size,s.keep,s.le,s.phi,s.dom,λb hb=>s.own b (h b hb)⟩
def EO(μ:Mu):LC μ []=λ_=>False:=by funext b;exact propext ⟨λ⟨l,o,h,_⟩=>by simp at h,λh=>h.elim⟩
def a8a{μ μ':Mu}{Φ Φ':Yk}{a:ZC}{W W':World}{X:Nat->Prop}(g:Good (Y7 μ Φ [] W) μ' Φ' a W')(hs:d1g a)(i : ∀ b,X b->b<W.heap.size∧Φ b=none):
  Steps X (λb=>X b∨LC μ' a b) Φ Φ' W W'∧(∀ b,X b->W'.heap[b]? = W.heap[b]?)∧ ∀ b,X b-> ¬ LC μ' a b:=by
 obtain⟨h1,h2⟩:=La g hs i (λb _ h=>by rw[EO]at h;exact h);refine⟨?_,h2,λb hb ⟨l,o,j,e⟩=> ?_⟩
 ·have e:(λb=>X b∨LC μ [] b)=X:=by funext b;rw[EO];exact propext ⟨λh=>h.elim id False.elim,.inl⟩
  rw[e]at h1;exact h1
 ·rcases g.own l o j with h|h
  ·have h:W.heap.size<=blk μ' l o:=h
   have:=(i b hb).1;omega
  ·have h:LC μ [] (blk μ' l o):=h;rw[EO]at h;exact h
end
section
instance:Enc Unit where
 sz:=0
 enc _:=.tup []
 dec _:=()
 is p:=match p with | .tup []=>true|_=>false
 is_enc _:=rfl
 dec_enc _:=rfl
 sub p h:=by
  cases p with
  | tup xs=>cases xs with
   | nil=>exact⟨⟨rfl,λj x y h1 h2=>by cases h1.symm.trans h2;exact λΦ v h=>h⟩,λΦ v h=>h⟩
   | cons _ _=>cases h
  | _=>cases h
def AV.asPV:AV->PV
 | .pv p=>p
 | _=>.nilp
def f3t(n:Nat)(os:List AObj):List PV:=match os.drop n with
 | .box cs::_=>cs.map AV.asPV
 | _=>[]
def j4u(args:List AV):List PV:=(args.drop 1).map AV.asPV
def c3n(l:List PV):(l.map AV.pv).map AV.asPV=l:=by rw[bH];exact List.map_id l
def Zz{S:Type}[EncL S](s:S):AObj:=.box ((encL s).map .pv)
def ZG{α:Type}[EncL α](a:α):List AV:=.ptr 0 0::(encL a).map .pv
section
variable {S α β:Type} [EncL S] [EncL α] [Enc β]
set_option linter.unusedSectionVars false
open Classical in
noncomputable def Ua(mk:α->List AV)(b e:List AObj)(pre:S->α->Bool)(args:List AV)(os:List AObj):Bool:=decide (∃ s a,args=mk a∧os=b++Zz s::e∧pre s a)
def h7k(un:List AV->α)(n:Nat)(F:S->α->β×S)(args:List AV)(os:List AObj):PV:=enc (F (decL (f3t n os)) (un args)).1
def f9a(un:List AV->α)(n:Nat)(F:S->α->β×S)(args:List AV)(os:List AObj):List AV:=(encL (F (decL (f3t n os)) (un args)).2).map .pv
def UT(un:List AV->α)(a b:List AObj)(F:S->α->β×S)(args:List AV)(os:List AObj):AV×List AObj×List AObj:=(.pv (h7k un a.length F args os),a++ .box (f9a un a.length F args os)::b,[])
open Classical in
def d8c{mk:α->List AV}{b e:List AObj}{pre:S->α->Bool}{args:List AV}{os:List AObj}(s:S)(a:α)(h1:args=mk a)(h2:os=b++Zz s::e)(h:pre s a):Ua mk b e pre args os:=by unfold Ua;exact eY ⟨s,a,h1,h2,h⟩
open Classical in
def PG{mk:α->List AV}{b e:List AObj}{pre:S->α->Bool}{args:List AV}{os:List AObj}(h:Ua mk b e pre args os): ∃ s a,args=mk a∧os=b++Zz s::e∧pre s a:=by unfold Ua at h;exact fZ h
def b9k(mk:α->List AV)(un:List AV->α):Prop:= ∀ a,un (mk a)=a
def Xv{α:Type}[EncL α](args:List AV):α:=decL (j4u args)
def ZQ:b9k (ZG:α->List AV) Xv:=λa=>by unfold Xv j4u ZG;rw[List.drop_succ_cons,ak,c3n,EncL.dec_encL]
def Ex(a b:List AObj)(s:S):(decL (f3t a.length (a++Zz s::b)):S)=s:=by unfold f3t;rw[List.drop_append_of_le_length (II _),List.drop_length,aW];show decL (((encL s).map AV.pv).map AV.asPV)=s;rw[c3n,EncL.dec_encL]
def Es{mk:α->List AV}{b e:List AObj}{un:List AV->α}(hm:b9k mk un)(F:S->α->β×S)(s:S)(a:α):h7k un b.length F (mk a) (b++Zz s::e)=enc (F s a).1:=by unfold h7k;rw[Ex,hm a]
def En{mk:α->List AV}{b e:List AObj}{un:List AV->α}(hm:b9k mk un)(F:S->α->β×S)(s:S)(a:α):f9a un b.length F (mk a) (b++Zz s::e)=(encL (F s a).2).map .pv:=by unfold f9a;rw[Ex,hm a]
def Yy(P:Program)(f:Nat)(mk:α->List AV)(un:List AV->α)(a b:List AObj)(pre:S->α->Bool)(F:S->α->β×S):Prop:=YP P f (Ua mk a b pre) (UT un a b F)
def ZW(a b:List AObj)(y:β)(s:S)(r:AV×List AObj×List AObj):Prop:= ∃ p,r.1 = .pv p∧Ze y p∧r.2=(a++Zz s::b,[])
def NI{y:β}{s:S}{p:PV}{cs:List AV}(h:Ze y p)(hc:cs=(encL s).map .pv):ZW [] [] y s (.pv p,[.box cs],[]):=⟨p,rfl,h,by rw[hc];rfl⟩
def Yy.of{P:Program}{T:ZH}{f:Nat}{fn:Func}{ic:IC}{rs:List IRes}{mk:α->List AV}{b i:List AObj}{pre:S->α->Bool}{un:List AV->α}{F:S->α->β×S}(hm:b9k mk un)(Q:Xa P T)(r:P.follows .mixedOrders)(E:P.funcs[f]? = some fn)(B:a4i P fn=some ic)
  (A:Vj (WR P) fn.results.toList=some rs) {y:Nat} (K:fn.ntmps=y) {k:Nat} (hk:b.length+1+i.length=k) (h : ∀ s a,pre s a->Zh T k (ZA k rs (ZW b i (F s a).1 (F s a).2)) ic [] (Yr y (mk a) (b++Zz s::i))):Yy P f mk un b i pre F:=by
 classical
 have M : ∀ s a,pre s a-> ∃ p,Zh T k (λst=>c9l k st rs=some (.pv p,b++Zz (F s a).2::i,[])) ic [] (Yr y (mk a) (b++Zz s::i))∧Ze (F s a).1 p:=λs a ha=>by obtain⟨x,st',h1,h2,⟨r1,r2⟩,h3,p,q,E,hr⟩:=h s a ha;simp only at q hr;subst q hr;exact⟨p,⟨x,st',h1,h2,h3⟩,E⟩
 let g:S->α->PV:=λs a=>if q:pre s a then(M s a q).choose else .nilp
 have L : ∀ s a,pre s a->Zh T k (λst=>c9l k st rs=some (.pv (g s a),b++Zz (F s a).2::i,[])) ic [] (Yr y (mk a) (b++Zz s::i))∧Ze (F s a).1 (g s a):=λs a ha=>by simp only[g,gU ha];exact(M s a ha).choose_spec
 have H:YP P f (Ua mk b i pre) (λargs os=>(.pv (g (decL (f3t b.length os)) (un args)),b++ .box (f9a un b.length F args os)::i,[])):=by
  refine h5q Q r E B A K λargs os q=> ?_
  obtain⟨s,a,rfl,rfl,ha⟩:=PG q;have O:(b++Zz s::i).length=k:=by rw[List.length_append,List.length_cons];omega
  refine⟨g s a,g s a,b++Zz (F s a).2::i,[],?_,Sub.refl _,?_⟩
  ·rw[O];exact(L s a ha).1
  ·rw[Ex b i,hm a,En hm];rfl
 intro args os x os' ext j l;obtain⟨s,a,rfl,rfl,ha⟩:=PG j;simp only[UT,Ia]at l;obtain⟨rfl,rfl,rfl⟩:=l;refine⟨by simp,?_⟩;intro μ Φ w vs D J;refine((H (mk a) (b++Zz s::i) _ _ _ j rfl).2 μ Φ w vs D J).mono ?_;rintro e w' ⟨v,μ',Φ',rfl,C,u⟩;refine⟨v,μ',Φ',rfl,C,?_⟩;rw[Ex,hm a]at u;rw[Es hm];obtain⟨I,z⟩:=(L s a ha).2;cases u with
 | pv _ _ u=>refine .pv _ _ ?_;have N:=(Enc.sub _ I).2 _ _ u;rw[z]at N;exact N
def Yy.weaken{P:Program}{f:Nat}{mk:α->List AV}{j g:List AObj}{pre b:S->α->Bool}{F i:S->α->β×S}{un:List AV->α}(hm:b9k mk un)(h:Yy P f mk un j g pre F)(k : ∀ s a,b s a->pre s a)(l : ∀ s a,b s a->F s a=i s a):Yy P f mk un j g b i:=by
 refine YP.congr h (λargs os e=> ?_) (λargs os e=> ?_)
 ·obtain⟨s,a,rfl,rfl,ha⟩:=PG e;exact d8c s a rfl rfl (k s a ha)
 ·obtain⟨s,a,rfl,rfl,ha⟩:=PG e;unfold UT;rw[Es hm,Es hm,En hm,En hm,l s a ha]
def Yy.none{P:Program}{f:Nat}{mk:α->List AV}{un:List AV->α}{g e:List AObj}{pre:S->α->Bool}{F:S->α->β×S}(h : ∀ s a,pre s a=false):Yy P f mk un g e pre F:=by intro args os x os' ext b hval;obtain⟨s,a,_,_,ha⟩:=PG b;rw[h s a]at ha;cases ha
def Ki(mk:α->List AV)(un:List AV->α)(a b:List AObj)(pre:S->α->Bool)(F:S->α->β×S)(args:List AV)(os:List AObj)(K:β->S->Prop):Prop:=Ua mk a b pre args os=true∧ ∃ y,AV.pv (h7k un a.length F args os)=AV.pv (enc y)∧ ∃ s,AObj.box (f9a un a.length F args os)=AObj.box ((encL s).map .pv)∧K y s
def XW{mk:α->List AV}{un:List AV->α}(hm:b9k mk un){b e:List AObj}{pre:S->α->Bool}{F:S->α->β×S}{args:List AV}{os:List AObj}{K:β->S->Prop}(s:S)(a:α)(h1:args=mk a)(h2:os=b++Zz s::e)(g:pre s a)(k:K (F s a).1 (F s a).2):Ki mk un b e pre F args os K:=⟨d8c s a h1 h2 g,(F s a).1,by rw[h1,h2,Es hm],(F s a).2,by rw[h1,h2,En hm],k⟩
end
end
section
structure SameT (L:List Nat) (a a':Act):Prop where
 size:a'.tmps.size=a.tmps.size
 defers:a'.defers=a.defers
 tmp : ∀ t,t ∉ L->a'.tmps[t]? = a.tmps[t]?
end
end Go.Pl
