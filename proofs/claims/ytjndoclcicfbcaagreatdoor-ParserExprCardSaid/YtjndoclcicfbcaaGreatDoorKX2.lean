/-
  Texts of mine that belong together (packed by pack.py), for every input: PlT, PlU, PlX, PlY, PlZ, PlSb, PlWp, PlDt, PlTy, PlSh, PlSo, PlGm, PlFw, PlGn, PlFz, PlRb, PlMr, PlRg, PlMs, PlDl, PlWd, PlCi, PlOf, PlSk, PlRw, PlCk, PlRh, PlRi, PlRj, PlAu, PlRv, PlRk, PlRy, PlYa, PlRz, PlSt, PlKs, PlCl, PlMc, PlIv.
-/
import Derived.Test.YtjndoclcicfbcaaGreatDoorChecked
import Derived.Test.YtjndoclcicfbcaaGreatDoorKX1
import Derived.KernelRfl
import Derived.Lib.ConvBytes
import Derived.Sort.OwnSorted
import Derived.OrdersIn
import Derived.TacticsIn
import Derived.RangeFuncNested
import Derived.RangeFuncWrites
import Derived.RangeFuncLeaves
import Derived.RangeFuncBound
import Derived.RangeFuncRecord
import Derived.Maps.RangeRun
import Derived.Laws.IdiomRangeMap
import Derived.MapKept
import Derived.Laws.IdiomCopy
import Derived.Sort.KeysCollected
import Derived.Shelf.LaysM
import Derived.Shelf.Strconv.Itoa1
import Derived.Shelf.Strconv.Itoa2
import Derived.Lib.Walk
import Derived.Lib.ItoaWalk
import Derived.Lib.ItoaMem
import Derived.Lib.AppendIntMem
import Derived.Lib.BufferKept
import Derived.Lib.OwnKind
import Derived.Lib.Slices
import Derived.Lib.Hide
import Derived.OwnWalk
import Derived.WalkKit
import Derived.BigCall
import Derived.BigGuard
import Derived.CellFam
import Derived.Sort.LoopGhostIn
import Derived.OrdersHeld
import Derived.Deep.LoopGhost
open Array renaming getElem?_eq_some_iff->Ih,getElem?_eq_getElem->Il,getD_eq_getD_getElem?->Im,getElem?_setIfInBounds_ne->Ip,toList_replicate->IL,toList_append->IV,replicate->IW,all_eq_true->bL,getElem_mem->bM,mem_filter->bX,getD->dD
open Bool renaming and_eq_true->Ii,false_eq_true->aN,not_eq_true'->aQ,or_eq_true->bg
open Function renaming comp_def->aR
open Go renaming wpIn_mono->Iz
open Go.Act renaming put->aT,eval->bY
open Go.Ending renaming returned->I4
open Go.Exit renaming inBlock->IU
open Go.Fence renaming wide->aD
open Go.Lib renaming bytesWorld->aJ
open Go.Pl.HM renaming run->Iy,runF->IE,run_of_runF->I8,run_bind->aL
open Go.Pl.Mu.le renaming refl->aS
open Go.Region renaming ready->aX,wanted->bD,binds->cZ
open Go.Result renaming andThen->IY,andThen_ok->I9
open Go.Sem renaming run_bind->aC,run_pure->aV
open Go.Sort renaming grow->aW,ahead->az
open Go.World renaming putObj_heap_other->IA,alloc_heap_new->aH,alloc_eq->au,drew_eq->bC,freeze->bF,alloc->bQ,drew->bi
open List renaming getElem?_eq_getElem->Ib,getElem?_eq_some_iff->Ig,getElem?_eq_none_iff->Ij,range->Ik,map_cons->Iq,replicate->Ir,getElem?_set_ne->Iu,getElem?_set_self->IB,getElem?_map->II,getElem?_set->IJ,take_append_drop->IQ,length_map->IR,mem_append->IX,mem_of_getElem?->IZ,mem_cons->I1,map_append->I5,getElem?_append_left->I6,mem_map->I7,ext_getElem?->aB,mem_filter->aF,nodup_cons->aG,getElem_of_mem->aI,length->aK,getD->aM,getElem?_append_right->aO,perm_ext_iff_of_nodup->aP,eq_of_mem_replicate->aU,nodup_range->aZ,getElem?_cons_succ->af,append_nil->ah,nil_append->ai,getElem?_eq_none->aj,getElem?_append->ax,pairwise_append->bA,all_cons->bB,getElem?_range->bE,map_nil->bG,pairwise_cons->bI,flatMap_cons->bK,nodup_append->bN,mem_range->bq,nodup_nil->bu,drop_zero->bv,map_map->cK,map->cO
open Nat renaming le_refl->Iw,le_trans->IM,lt_of_lt_of_le->IP,zero_add->aY,lt_or_ge->bH,mul_one->bT,add_assoc->bz
open Option renaming map_eq_some_iff->Cm,bind_eq_some_iff->Ic,map_some->IG,bind_some->IK,isSome_iff_exists->ae,getD_some->bW
open Option.some renaming injEq->Ie,inj->dM
open Prod.mk renaming injEq->Ia
set_option linter.unusedVariables false
set_option linter.unusedSimpArgs false
set_option linter.defProp false
namespace Go.Pl
open Go.RowKit
inductive IRes where
 | tmp (t:Nat)
 | cell (ag:Bool) (n:Nat) (t:Nat)
def XM(P:Program):ResultVar->Option IRes
 | .tmp t=>some (.tmp t)
 | .cell a t=>if (P.underlying t).isSome then(P.info? t).map λi=>.cell (Ve P t) i.size a else none
def a0v(st:St):IRes->Option AV
 | .tmp t=>some (ev st.env (.t t))
 | .cell ag n t=>match ev st.env (.t t)with
  | .ptr l o=>match st.heap[l]? with
   | some (.obj (.box cs))=>Nq ag n cs o
   | _=>none
  | _=>none
def FY(qs:List PV):PV:=match qs with|[q]=>q|qs=>.tup qs
def fin(st:St)(rs:List IRes):Option PV:=(Wz (a0v st) rs).bind λvs=>((KM vs).run st.heap).bind λ(qs,_)=>some (FY qs)
def PH(T:ZO)(n:Nat)(ic:IC)(nt:Nat)(rs:List IRes)(ps:List PV):Option PV:=
 (W9 T 0 n ic ⟨ps.map .pv++Ir (nt - ps.length) .undef,[]⟩).bind λ(x,st)=>match x with
  | .exit _=>none
  | _=>fin st rs
def CF{Φ:Ye}{w:World}(a:GlobOK Φ)(h:Qg Φ w):Good (entry (λ_ _=>none) Φ [] w) (λ_ _=>none) Φ [] w:=⟨h,λl o h=>by simp at h,λl l' o o' _ h=>by simp at h,λ_ _ _=>rfl,λl o h=>by simp at h,rfl,rfl,rfl,Iw _,λ_ _ _=>rfl,Ye.le.refl _,aS _,λb cs h=>.inl h,a⟩
def Wl{μ:Mu}{Φ:Ye}(n:Nat):RL μ Φ (Ir n Go.undef) (Ir n .undef):=
 ⟨by simp,λj v x b a=>by
  have h1:=aU (IZ b);have h2:=aU (IZ a);subst h1 h2
  exact .undef⟩
def g8p{P:Program}{c:Ctx}{μ:Mu}{Φ:Ye}{st:St}{a:Act}{w:World}{k:ResultVar}{s:IRes}{x:AV}(z:Good c μ Φ st.heap w)(r:XN μ Φ a.tmps st.env)(g:XM P k=some s)(hr:a0v st s=some x):
  ∃ v,(match k with | .tmp t=>(pure (a.tmps.getD t undef):Sem Value) | .cell b t=>do loadVar t (<- asAddr (a.tmps.getD b undef))).run P w = .ok v w∧R μ Φ v x:=by
 cases k with
 | tmp t=>simp[XM]at g;subst g;simp only[a0v,Ie]at hr;subst hr;exact⟨_,rfl,Yj r (x:=.tmp t) rfl⟩
 | cell b t=>
  simp only[XM]at g;split at g
  ·rename_i hu;rw[Cm]at g;obtain⟨i,hi,rfl⟩:=g;simp only[a0v]at hr;have h:=Yj r (x:=.tmp b) rfl;split at hr
   ·rename_i l o A;rw[A]at h;split at hr
    ·rename_i cs j;have e:R μ Φ (a.tmps.getD b undef) (.ptr l o):=h;generalize y:a.tmps.getD b undef=q at e;cases e with
     | ptr _ _ B C S hm=>obtain⟨us,T,h1,h2,h3,u⟩:=a7n z j hm;obtain⟨v,k1,D⟩:=e0r (P:=P) hu hi u h2 h3 hr;refine⟨v,?_,D⟩;simp only[aC,y,asAddr,aV,I9];simpa using k1
    ·cases hr
   ·cases hr
  ·cases g
def KN{P:Program}{c:Ctx}{μ:Mu}{Φ:Ye}{st:St}{a:Act}{w:World}{fn:Func}{rs:List IRes}{vs:List AV}(D:Good c μ Φ st.heap w)(E:XN μ Φ a.tmps st.env)(A:Wz (XM P) fn.results.toList=some rs)
  (l:Wz (a0v st) rs=some vs) : ∃ z:List Value,(results fn a.tmps).run P w = .ok (if h:z.toArray.size=1 then z.toArray[0]else .tuple z.toArray) w∧RL μ Φ z vs:=by
 obtain⟨h1,h2⟩:=VM A;obtain⟨k1,F⟩:=VM l;have i : ∀ j (g:j<fn.results.size),∃ v,(match fn.results[j]with | .tmp t=>(pure (a.tmps.getD t undef):Sem Value) | .cell b t=>do loadVar t (<- asAddr (a.tmps.getD b undef))).run P w = .ok v w∧ ∀ x,vs[j]? = some x->R μ Φ v x:=by
  intro j g;have s:j<rs.length:=by simp at h1;omega
  have q:j<vs.length:=by omega
  obtain⟨v,B,C⟩:=g8p D E (h2 j fn.results[j] rs[j] (by simp[g]) (Ib s)) (F j rs[j] vs[j] (Ib s) (Ib q));refine⟨v,B,λx k=> ?_⟩;rw[Ib q]at k;cases k;exact C
 refine⟨(Ik fn.results.size).map λj=>if g:j<fn.results.size then(i j g).choose else undef,?_,?_,?_⟩
 ·have hm:=c0h (P:=P) (w:=w) (f:=λH=>(match H with | .tmp t=>(pure (a.tmps.getD t undef):Sem Value) | .cell b t=>do loadVar t (<- asAddr (a.tmps.getD b undef)))) (xs:=fn.results)
   (ys:=(Ik fn.results.size).map λj=>if g:j<fn.results.size then(i j g).choose else undef) (by simp) (by
    intro j x y k u;have g:j<fn.results.size:=(Ih.1 k).1;rw[II,bE g]at u;simp only[IG,Ie]at u;rw[dif_pos g]at u;subst u;have e:fn.results[j]=x:=(Ih.1 k).2;subst e
    exact(i j g).choose_spec.1)
  unfold results;rw[aC];exact congrArg (λ(r:Result (Array Value))=>r.andThen λvs w'=>(pure (if h:vs.size=1 then vs[0]else .tuple vs):Sem Value).run P w') hm
 ·simp at h1 ⊢;omega
 ·intro j v x l k;have g:j<fn.results.size:=by have:=(Ig.1 l).1;simpa using this
  rw[II,bE g]at l;simp only[IG,Ie]at l;rw[dif_pos g]at l;subst l;exact(i j g).choose_spec.2 x k
def e0n{P:Program}{T:ZO}{f:Nat}{fn:Func}{cd:Code}{ic:IC}{rs:List IRes}{pre:List PV->Bool}{val:List PV->PV}(K:YC P T)(s:P.follows .mixedOrders=true)(O:P.funcs[f]? = some fn)(hb:fn.body=some cd)(E:Tr P cd ic)
  (H:Wz (XM P) fn.results.toList=some rs) (h : ∀ ps,pre ps=true-> ∃ n,PH T n ic fn.ntmps rs ps=some (val ps)):VB P f pre val:=by
 intro ps N Φ w vs M V A;obtain⟨n,g⟩:=h ps N;generalize val ps=r at g ⊢;unfold PH at g;rw[Ic]at g;obtain⟨⟨x,st⟩,hc,a⟩:=g;refine calls_of_wp O hb ?_;have S:=CF M V;have z:vs.size=ps.length:=by have:=A.1;simpa using this
 have B:VL (entry (λ_ _=>none) Φ [] w) ⟨ps.map .pv++Ir (fn.ntmps - ps.length) .undef,[]⟩ {tmps:=vs++IW (fn.ntmps - vs.size) undef,defers:=[]} w:=by refine⟨_,Φ,S,?_,rfl⟩;show RL _ _ _ _;rw[IV,IL,z];exact A.toRL.append (Wl _)
 refine wp_mono (b5i K s (k:=0) (λ_ _ _=>rfl) E hc B) ?_;rintro e a' w' ⟨rfl,μ,Φ',y,D,hd'⟩;have done:fin st rs=some r->a'.defers=[]∧ ∃ v,(results fn a'.tmps).run P w' = .ok v w'∧ ∃ v' i,I4 v = .returned v'∧Ye.le Φ i∧Qg i w'∧RP i v' r∧Below w.heap.size w w'∧ ∀ b cs,i b=some cs->Φ b=some cs∨w.heap.size<=b:=by
  intro a;refine⟨hd',?_⟩;unfold fin at a;simp only[Ic,Ie]at a;obtain⟨xs,hxs,⟨qs,σ2⟩,hfr,hq⟩:=a;obtain⟨J,F,C⟩:=KN y D H hxs;obtain⟨Φ2,f1,f2,f3⟩:=Kz xs hfr y C;refine⟨_,F,_,Φ2,rfl,f2.Φle,f2.phi,?_,⟨f2.os,f2.tape,f2.output,f2.size,λk Q=>f2.frame k Q (by rintro⟨l,o,h,_⟩;simp at h)⟩,?_⟩
  ·rw[<- hq]
   match J,qs,f3 with
   | [],[],_=>exact .tup _ _ rfl (λj v x h=>by simp at h)
   | [u],[q],f3=>exact f3.2 0 u q rfl rfl
   | U::u2::J,q1::q2::qs,f3=>
    have e : ¬ ((U::u2::J).toArray.size=1):=by simp
    rw[dif_neg e];exact .tup _ _ (by have:=f3.1;simpa using this) (λj v x W L=>f3.2 j v x (by simpa using W) L)
   | [],_::_,f3=>have:=f3.1;simp at this
   | _::_,[],f3=>have:=f3.1;simp at this
   | [_],_::_::_,f3=>have:=f3.1;simp at this
   | _::_::_,[_],f3=>have:=f3.1;simp at this
  ·intro b cs I;rcases f2.dom b cs I with h|h|h
   ·exact .inl h
   ·exact .inr h
   ·obtain⟨l,o,h,_⟩:=h;simp at h
 cases x with
 | normal=>exact done a
 | ret=>exact done a
 | exit id=>simp at a
section
abbrev Cs:=List (Bool×Bool)
def Bl:Cs->Prop
 | []=>True
 | (b,d)::r=>b=d∧Bl r
def JI: ∀ {a b:Cs},Bl (a++b)->Bl a∧Bl b:=by
 intro a
 induction a with
 | nil=>intro b h;exact⟨trivial,h⟩
 | cons x a ih=>intro b h;obtain⟨y,z⟩:=x;exact⟨⟨h.1,(ih h.2).1⟩,(ih h.2).2⟩
def HM.sr{α:Type}:HM α->ZN->List Bool->Option (α×ZN×List Nat×List Nat×List Bool×Cs)
 | .ret a,σ,ds=>some (a,σ,[],[],ds,[])
 | .fail,_,_=>none
 | .get l k,σ,ds=>match σ[l]? with
  | some (.obj o)=>((k o).sr σ ds).map λ(a,σ',R,W,r)=>(a,σ',l::R,W,r)
  | _=>none
 | .put l o k,σ,ds=>match σ[l]? with
  | some (.obj _)=>(k.sr (σ.set l (.obj o)) ds).map λ(a,σ',R,W,r)=>(a,σ',R,l::W,r)
  | _=>none
 | .new l o k,σ,ds=>match σ[l]? with
  | some .fresh=>(k.sr (σ.set l (.obj o)) ds).map λ(a,σ',R,W,r)=>(a,σ',R,l::W,r)
  | _=>none
 | .ask b k,σ,ds=>match ds with
  | []=>none
  | d::ds=>((k d).sr σ ds).map λ(a,σ',R,W,ds',cs)=>(a,σ',R,W,ds',(b,d)::cs)
 | .req b k,σ,ds=>(k.sr σ ds).map λ(a,σ',R,W,ds',cs)=>(a,σ',R,W,ds',(b,true)::cs)
def HM.sr_ok{α:Type}(m:HM α): ∀ {σ:ZN} {ds:List Bool} {a:α} {q:ZN} {R W:List Nat} {g:List Bool} {cs:Cs},m.sr σ ds=some (a,q,R,W,g,cs)->Bl cs->m.runF σ=some (a,q,R,W):=by
 induction m with
 | ret a=>intro σ ds b q R W g cs h _;simp only[HM.sr,Ie,Ia]at h;obtain⟨rfl,rfl,rfl,rfl,_,_⟩:=h;rfl
 | fail=>intro σ ds b q R W g cs h _;simp[HM.sr]at h
 | get l k ih=>
  intro σ ds b q R W g cs h hc;simp only[HM.sr]at h;split at h
  ·rename_i o ho;rw[Cm]at h;obtain⟨⟨r,σ1,R1,W1,i,j⟩,h1,h2⟩:=h;simp only[Ia]at h2;obtain⟨rfl,rfl,rfl,rfl,rfl,rfl⟩:=h2;simp[IE,ho,ih o h1 hc]
  ·cases h
 | put l o k ih=>
  intro σ ds b q R W g cs h hc;simp only[HM.sr]at h;split at h
  ·rename_i o' ho;rw[Cm]at h;obtain⟨⟨r,σ1,R1,W1,i,j⟩,h1,h2⟩:=h;simp only[Ia]at h2;obtain⟨rfl,rfl,rfl,rfl,rfl,rfl⟩:=h2;simp[IE,ho,ih h1 hc]
  ·cases h
 | new l o k ih=>
  intro σ ds b q R W g cs h hc;simp only[HM.sr]at h;split at h
  ·rename_i ho;rw[Cm]at h;obtain⟨⟨r,σ1,R1,W1,i,j⟩,h1,h2⟩:=h;simp only[Ia]at h2;obtain⟨rfl,rfl,rfl,rfl,rfl,rfl⟩:=h2;simp[IE,ho,ih h1 hc]
  ·cases h
 | ask b k ih=>
  intro σ ds x q R W g cs h hc;cases ds with
  | nil=>simp[HM.sr]at h
  | cons d ds=>simp only[HM.sr]at h;rw[Cm]at h;obtain⟨⟨r,σ1,R1,W1,i,j⟩,h1,h2⟩:=h;simp only[Ia]at h2;obtain⟨rfl,rfl,rfl,rfl,rfl,rfl⟩:=h2;obtain⟨e,hc⟩:=hc;show(k _).runF σ=_;rw[e];exact ih d h1 hc
 | req b k ih=>intro σ ds x q R W g cs h hc;simp only[HM.sr]at h;rw[Cm]at h;obtain⟨⟨r,σ1,R1,W1,i,j⟩,h1,h2⟩:=h;simp only[Ia]at h2;obtain⟨rfl,rfl,rfl,rfl,rfl,rfl⟩:=h2;obtain⟨e,hc⟩:=hc;show(match b with|true=>k.runF σ|false=>none)=_;rw[e];exact ih h1 hc
def e9w(env:List AV)(g:Option (Nat×Bool))(ds:List Bool):Option (Bool×List AV×List Bool×Cs):=
 match g with
 | none=>some (true,env,ds,[])
 | some (s,b)=>match env[s]? with
  | some (.pv (.bool v))=>match ds with
   | []=>none
   | d::ds=>some (d==b,env.set s (.pv (.bool d)),ds,[(v,d)])
  | some .undef=>some (false,env,ds,[])
  | _=>none
def c3i{env a:List AV}{g:Option (Nat×Bool)}{ds l:List Bool}{r:Bool}{cs:Cs}(h:e9w env g ds=some (r,a,l,cs))(hc:Bl cs):WC env g=some r∧a=env:=by
 unfold e9w at h;split at h
 ·simp only[Ie,Ia]at h;obtain⟨rfl,rfl,_,_⟩:=h;exact⟨rfl,rfl⟩
 ·rename_i s b;split at h
  ·rename_i v i;split at h
   ·cases h
   ·rename_i d ds;simp only[Ie,Ia]at h;obtain⟨rfl,rfl,rfl,rfl⟩:=h;obtain⟨rfl,_⟩:=hc;refine⟨by simp[WC,i],?_⟩;apply aB;intro j;rw[IJ];split
    ·rename_i e;subst e
     have:=(Ig.1 i).1;rw[if_pos this,i]
    ·rfl
  ·rename_i i;simp only[Ie,Ia]at h;obtain⟨rfl,rfl,rfl,rfl⟩:=h;exact⟨by simp[WC,i],rfl⟩
  ·cases h
def f6b(T:ZO)(a:Nat)(p:PI)(st:St)(ds:List Bool):Option (St×List Nat×List Nat×List Bool×Cs):=
 match e9w st.env p.gd ds with
 | none=>none
 | some (false,env,ds,c)=>some (⟨Y5 env p.dst .undef,st.heap⟩,[],[],ds,c)
 | some (true,env,ds,c)=>((VA T (a+p.L) env p.op).sr st.heap ds).map λ(v,σ,R,W,ds,cs)=>(⟨Y5 env p.dst v,σ⟩,R,W,ds,c++cs)
def f5n{T:ZO}{a:Nat}{p:PI}{st st':St}{ds i:List Bool}{R W:List Nat}{cs:Cs}(h:f6b T a p st ds=some (st',R,W,i,cs))(hc:Bl cs):Vr T a p st=some (st',R,W):=by
 unfold f6b at h;split at h
 ·cases h
 ·rename_i env g c b;simp only[Ie,Ia]at h;obtain⟨rfl,rfl,rfl,rfl,rfl⟩:=h;obtain⟨h1,rfl⟩:=c3i b hc;simp[Vr,h1]
 ·rename_i env g c b;rw[Cm]at h;obtain⟨⟨v,σ,R1,W1,ds2,cs1⟩,h1,h2⟩:=h;simp only[Ia]at h2;obtain⟨rfl,rfl,rfl,rfl,rfl⟩:=h2;obtain⟨e,j⟩:=JI hc;obtain⟨k1,rfl⟩:=c3i b e;simp[Vr,k1,HM.sr_ok _ h1 j]
def f5t(T:ZO)(a:Nat):List (Nat×PI)->St->List Bool->Option (St×List FP×List Bool×Cs)
 | [],st,ds=>some (st,[],ds,[])
 | (i,p)::r,st,ds=>match f6b T a p st ds with
  | none=>none
  | some (st',R,W,ds',c)=>(f5t T a r st' ds').map λ(st'',tr,ds'',cs)=>(st'',(i,R,W)::tr,ds'',c++cs)
def d7s{T:ZO}{a:Nat}: ∀ {l:List (Nat×PI)} {st st':St} {ds b:List Bool} {e:List FP} {cs:Cs},f5t T a l st ds=some (st',e,b,cs)->Bl cs->runF T a l st=some (st',e):=by
 intro l
 induction l with
 | nil=>intro st st' ds b e cs h _;simp only[f5t,Ie,Ia]at h;obtain⟨rfl,rfl,_,_⟩:=h;rfl
 | cons q l ih=>
  intro st st' ds b e cs h hc;obtain⟨i,p⟩:=q;simp only[f5t]at h;split at h
  ·cases h
  ·rename_i st1 R W ds1 c h1;rw[Cm]at h;obtain⟨⟨st2,tr2,ds2,cs2⟩,h2,h3⟩:=h;simp only[Ia]at h3;obtain⟨rfl,rfl,rfl,rfl⟩:=h3;obtain⟨g,j⟩:=JI hc;simp[runF,f5n h1 g,ih h2 j]
def Ef(T:ZO)(ps:List PI)(deps:Option (List (List Nat)))(st:St)(ds:List Bool):Option (St×List Bool×Cs):=
 match f5t T st.heap.length (Ba ps) (grow st (news ps)) ds with
 | none=>none
 | some (st',tr,ds',cs)=>match deps with
  | none=>some (st',ds',cs)
  | some d=>match b2t d tr with
   | true=>some (st',ds',cs)
   | false=>none
def a2n{T:ZO}{ps:List PI}{deps:Option (List (List Nat))}{st st':St}{ds a:List Bool}{cs:Cs}(h:Ef T ps deps st ds=some (st',a,cs))(hc:Bl cs):Jl T ps deps st=some st':=by
 unfold Ef at h;split at h
 ·cases h
 ·rename_i st1 tr ds1 cs1 h1;split at h
  ·simp only[Ie,Ia]at h;obtain⟨rfl,rfl,rfl⟩:=h
   have:=EL (d7s h1 hc);rw[A8]at this;exact this
  ·rename_i d;split at h
   ·rename_i b;simp only[Ie,Ia]at h;obtain⟨rfl,rfl,rfl⟩:=h;simp[Jl,d7s h1 hc,b]
   ·cases h
def Ov(env:List AV)(c:IOp)(d:Bool):List AV:=
 match c with
 | .t s=>env.set s (.pv (.bool d))
 | .c _=>env
def UT{env:List AV}{c:IOp}{d:Bool}(h:ev env c = .pv (.bool d)):Ov env c d=env:=by
 cases c with
 | c p=>rfl
 | t s=>
  apply aB;intro j;simp only[Ov];rw[IJ];split
  ·rename_i e;subst e;by_cases hs:s<env.length
   ·rw[if_pos hs,Ib hs];simp[ev,aM,Ib hs]at h;rw[h]
   ·rw[if_neg hs,aj (by omega)]
  ·rfl
def csr(T:ZO):IC->St->List Bool->Option (XE×St×List Bool×Cs)
 | .skip,st,ds=>some (.normal,st,ds,[])
 | .reg ps d,st,ds=>(Ef T ps d st ds).map λ(st',ds',cs)=>(.normal,st',ds',cs)
 | .seq a b,st,ds=>match csr T a st ds with
  | none=>none
  | some (.normal,st',ds',cs)=>(csr T b st' ds').map λ(x,st'',ds'',cs')=>(x,st'',ds'',cs++cs')
  | some (x,st',ds',cs)=>some (x,st',ds',cs)
 | .cond c a b,st,ds=>match ev st.env c with
  | .pv (.bool v)=>match ds with
   | []=>none
   | true::ds=>(csr T a ⟨Ov st.env c true,st.heap⟩ ds).map λ(x,st',ds',cs)=>(x,st',ds',(v,true)::cs)
   | false::ds=>(csr T b ⟨Ov st.env c false,st.heap⟩ ds).map λ(x,st',ds',cs)=>(x,st',ds',(v,false)::cs)
  | _=>none
 | .block id b,st,ds=>(csr T b st ds).map λ(x,st',r)=>(match x with | .exit i=>(match i==id with|true=>.normal|false=>.exit i)|x=>x,st',r)
 | .loop _ _,_,_=>none
 | .exit id,st,ds=>some (.exit id,st,ds,[])
 | .ret,st,ds=>some (.ret,st,ds,[])
 | .ext _ _,_,_=>none
def j7e{T:ZO}{k n:Nat}: ∀ {ic:IC} {st st':St} {ds g:List Bool} {x:XE} {cs:Cs},csr T ic st ds=some (x,st',g,cs)->Bl cs->W9 T k n ic st=some (x,st'):=by
 intro ic
 induction ic with
 | skip=>intro st st' ds g x cs h _;simp only[csr,Ie,Ia]at h;obtain⟨rfl,rfl,_,_⟩:=h;rfl
 | reg ps d=>intro st st' ds g x cs h hc;simp only[csr,Cm]at h;obtain⟨⟨st1,l,j⟩,h1,h2⟩:=h;simp only[Ia]at h2;obtain⟨rfl,rfl,rfl,rfl⟩:=h2;simp[W9,a2n h1 hc]
 | seq a b iha ihb=>
  intro st st' ds g x cs h hc;simp only[csr]at h;split at h
  ·cases h
  ·rename_i st1 l j h1;rw[Cm]at h;obtain⟨⟨y,st2,r,q⟩,h2,h3⟩:=h;simp only[Ia]at h3;obtain⟨rfl,rfl,rfl,rfl⟩:=h3;obtain⟨z,A⟩:=JI hc;simp[W9,iha h1 z,ihb h2 A]
  ·rename_i y st1 l j u h1;simp only[Ie,Ia]at h;obtain⟨rfl,rfl,rfl,rfl⟩:=h;simp only[W9,iha h1 hc,IK]
   all_goals
    cases y with
    | normal=>exact absurd rfl (u _ _ _)
    | _=>rfl
 | cond c a b iha ihb=>
  intro st st' ds g x cs h hc;simp only[csr]at h;split at h
  ·rename_i v s;split at h
   ·cases h
   ·rw[Cm]at h;obtain⟨⟨y,st2,r,q⟩,h2,h3⟩:=h;simp only[Ia]at h3;obtain⟨rfl,rfl,rfl,rfl⟩:=h3;obtain⟨rfl,hc⟩:=hc;rw[UT s]at h2;simp[W9,s,iha h2 hc]
   ·rw[Cm]at h;obtain⟨⟨y,st2,r,q⟩,h2,h3⟩:=h;simp only[Ia]at h3;obtain⟨rfl,rfl,rfl,rfl⟩:=h3;obtain⟨rfl,hc⟩:=hc;rw[UT s]at h2;simp[W9,s,ihb h2 hc]
  ·cases h
 | block id b ih=>
  intro st st' ds g x cs h hc;simp only[csr,Cm]at h;obtain⟨⟨y,st1,l,j⟩,h1,h2⟩:=h;simp only[Ia]at h2;obtain⟨rfl,rfl,rfl,rfl⟩:=h2;simp only[W9,ih h1 hc,IG];cases y with
  | exit i=>
   by_cases e:i=id
   ·subst e;simp
   ·have B:(i==id)=false:=by simpa using e
    have C : ¬ XE.exit i=XE.exit id:=λh=>e (by cases h;rfl)
    simp[B,C]
  | _=>simp
 | ext n sl=>intro st st' ds g x cs h _;simp[csr]at h
 | loop keep b ih=>intro st st' ds g x cs h _;simp[csr]at h
 | exit id=>intro st st' ds g x cs h _;simp only[csr,Ie,Ia]at h;obtain⟨rfl,rfl,_,_⟩:=h;rfl
 | ret=>intro st st' ds g x cs h _;simp only[csr,Ie,Ia]at h;obtain⟨rfl,rfl,_,_⟩:=h;rfl
def a6j{f g:St->Option (XE×St)}(a : ∀ st r,f st=some r->g st=some r): ∀ (n:Nat) {m:Nat} {st:St} {r:XE×St},n<=m->OB n f st=some r->OB m g st=some r:=by
 intro n
 induction n with
 | zero=>intro m st r _ h;simp[OB]at h
 | succ n ih=>
  intro m st r hm h;cases m with
  | zero=>omega
  | succ m=>
   simp only[OB,Ic]at h ⊢;obtain⟨⟨y,st1⟩,h1,h2⟩:=h;refine⟨(y,st1),a _ _ h1,?_⟩;cases y with
   | normal=>exact ih (by omega) h2
   | _=>exact h2
def DZ{T:ZO}{k n m:Nat}(e:n<=m): ∀ {ic:IC} {st:St} {r:XE×St},W9 T k n ic st=some r->W9 T k m ic st=some r:=by
 intro ic
 induction ic with
 | seq a b iha ihb=>
  intro st r h;simp only[W9,Ic]at h ⊢;obtain⟨⟨y,st1⟩,h1,h2⟩:=h;refine⟨(y,st1),iha h1,?_⟩;cases y with
  | normal=>exact ihb h2
  | _=>exact h2
 | cond c a b iha ihb=>
  intro st r h;simp only[W9]at h ⊢;generalize ev st.env c=v at h ⊢;split at h
  ·exact iha h
  ·exact ihb h
  ·cases h
 | block id b ih=>intro st r h;simp only[W9,Cm]at h ⊢;obtain⟨y,h1,h2⟩:=h;exact⟨y,ih h1,h2⟩
 | loop keep b ih=>intro st r h;simp only[W9]at h ⊢;refine a6j (λst r h=> ?_) n e h;simp only[Ic]at h ⊢;obtain⟨st1,h1,h2⟩:=h;exact⟨st1,h1,ih h2⟩
 | _=>intro st r h;exact h
def Uy(T:ZO)(k:Nat)(ic:IC)(st:St)(x:XE)(st':St):Prop:= ∃ n,W9 T k n ic st=some (x,st')
section
variable {T:ZO} {k:Nat} {st st1 st2 st':St} {x:XE}
theorem Uy.seq{a b:IC}(h1:Uy T k a st .normal st1)(h2:Uy T k b st1 x st'):Uy T k (.seq a b) st x st':=by obtain⟨n,h1⟩:=h1;obtain⟨m,h2⟩:=h2;refine⟨max n m,?_⟩;simp[W9,DZ (Nat.le_max_left n m) h1,DZ (Nat.le_max_right n m) h2]
theorem Uy.seqx{a b:IC}(h1:Uy T k a st x st1)(e:x ≠ .normal):Uy T k (.seq a b) st x st1:=by
 obtain⟨n,h1⟩:=h1;refine⟨n,?_⟩;simp only[W9,h1,IK]
 all_goals
  cases x with
  | normal=>exact absurd rfl e
  | _=>rfl
theorem Uy.block{id:Nat}{b:IC}(h:Uy T k b st x st1):Uy T k (.block id b) st (if x = .exit id then .normal else x) st1:=by obtain⟨n,h⟩:=h;exact⟨n,by simp[W9,h]⟩
theorem Uy.cond{c:IOp}{a b:IC}{d:Bool}(hc:ev st.env c = .pv (.bool d))(h:Uy T k (bif d then a else b) st x st1):Uy T k (.cond c a b) st x st1:=by obtain⟨n,h⟩:=h;refine⟨n,?_⟩;cases d <;> simp only[W9,hc] <;> exact h
theorem Uy.round{keep:List Nat}{b:IC}(g:Gd k keep st=some st1)(h1:Uy T k b st1 .normal st2)(h2:Uy T k (.loop keep b) st2 x st'):Uy T k (.loop keep b) st x st':=by obtain⟨n,h1⟩:=h1;obtain⟨m,h2⟩:=h2;refine⟨max n m+1,?_⟩;simp only[W9]at h2 ⊢;simp only[OB,g,IK,DZ (T:=T) (k:=k) (m:=max n m+1) (by omega) h1];refine a6j (λst r h=> ?_) m (by omega) h2;simp only[Ic]at h ⊢;obtain⟨a,h3,e⟩:=h;exact⟨a,h3,DZ (by omega) e⟩
theorem Uy.last{keep:List Nat}{b:IC}(a:Gd k keep st=some st1)(h1:Uy T k b st1 x st')(e:x ≠ .normal):Uy T k (.loop keep b) st x st':=by
 obtain⟨n,h1⟩:=h1;refine⟨n+1,?_⟩;simp only[W9,OB,a,IK,DZ (T:=T) (k:=k) (m:=n+1) (by omega) h1]
 all_goals
  cases x with
  | normal=>exact absurd rfl e
  | _=>rfl
end
def j6l(st:St)(rs:List IRes):Option (PV×Cs):=(Wz (a0v st) rs).bind λvs=>((KM vs).sr st.heap []).map λ(qs,_,_,_,_,cs)=>(FY qs,cs)
def Ym(nt:Nat)(ps:List PV):St:=⟨ps.map .pv++Ir (nt - ps.length) .undef,[]⟩
end
def Og(k:Nat)(ls:List Nat)(env:List AV)(σ:ZN):Option (List AV×List AObj):=
 match ls.take k==Ik k&&a0u ls with
 | true=>(Wz (λl=>(σ[l]?).bind λs=>(a0a s).bind λo=>o.ren (fwd ls)) ls).bind λos=>(MI (fwd ls) env).map λa=>(a,os)
 | false=>none
def c3p{ρ:Nat->Option Nat}{σ:ZN}: ∀ {ls:List Nat} {os:List AObj},Wz (λl=>(σ[l]?).bind λs=>(a0a s).bind λo=>o.ren ρ) ls=some os->Wz (λl=>(σ[l]?).bind (QI ρ)) ls=some (os.map .obj)
 | [],os,h=>by simp[Wz]at h;subst h;rfl
 | l::ls,os,h=>by
  simp only[Wz,Ic,Cm]at h;obtain⟨o,⟨s,h1,o1,h2,h3⟩,os',h4,rfl⟩:=h;cases s with
  | fresh=>simp[a0a]at h2
  | dead=>simp[a0a]at h2
  | obj ob=>simp only[a0a,Ie]at h2;subst h2;simp[Wz,h1,QI,h3,c3p h4]
def Ap{k:Nat}{ls:List Nat}{env a:List AV}{σ:ZN}{os:List AObj}(h:Og k ls env σ=some (a,os)):CG k ls env σ=some ⟨a,os.map .obj⟩∧k<=os.length:=by
 unfold Og at h;split at h
 ·rename_i hc;simp only[Ic,Cm]at h;obtain⟨os',g,env2,b,e⟩:=h;cases e;refine⟨?_,?_⟩
  ·unfold CG;rw[if_pos hc];have:Wz (λl=>(σ[l]?).bind (QI (fwd ls))) ls=some (os.map .obj):=c3p g;rw[this];simp[b]
  ·rw[<- (VM g).1];simp only[Ii,beq_iff_eq]at hc
   have:=congrArg aK hc.1;simp at this;omega
 ·cases h
def h8n(vs:List AV):AV:=match vs with|[v]=>v|vs=>.tup vs
def finO(k:Nat)(st:St)(rs:List IRes):Option (AV×List AObj×List AObj):=(Wz (a0v st) rs).bind λvs=>(Og k (Hd 256 (Ik k++Ho vs) [] st.heap) vs st.heap).map λ(vs',os)=>(h8n vs',os.take k,os.drop k)
def M9(T:ZO)(n:Nat)(ic:IC)(nt:Nat)(rs:List IRes)(args:List AV)(os:List AObj):Option (AV×List AObj×List AObj):=
 (W9 T os.length n ic ⟨args++Ir (nt - args.length) .undef,Xl os⟩).bind λ(x,st)=>match x with
  | .exit _=>none
  | _=>finO os.length st rs
def g0b{P:Program}{T:ZO}{f:Nat}{fn:Func}{cd:Code}{ic:IC}{rs:List IRes}{pre:List AV->List AObj->Bool}{val:List AV->List AObj->AV×List AObj×List AObj}(V:YC P T)(r:P.follows .mixedOrders=true)(Y:P.funcs[f]? = some fn)(hb:fn.body=some cd)(N:Tr P cd ic)
  (Q:Wz (XM P) fn.results.toList=some rs) (h : ∀ args os,pre args os=true-> ∃ n,M9 T n ic fn.ntmps rs args os=some (val args os)):Y4 P f pre val:=by
 intro args os x M ext l E;obtain⟨n,g⟩:=h args os l;rw[E]at g;unfold M9 at g;rw[Ic]at g;obtain⟨⟨y,st⟩,hc,a⟩:=g;have k:finO os.length st rs=some (x,M,ext)∧ ∀ i,y ≠ .exit i:=by
  cases y with
  | normal=>exact⟨a,λi h=>by cases h⟩
  | ret=>exact⟨a,λi h=>by cases h⟩
  | exit id=>simp at a
 clear a;obtain⟨a,X⟩:=k;unfold finO at a;simp only[Ic,Cm]at a;obtain⟨xs,hxs,⟨ys,F⟩,hpk,e⟩:=a;simp only[Ia]at e;obtain⟨rfl,rfl,rfl⟩:=e;obtain⟨I,hlen2⟩:=Ap hpk;refine⟨by simp;omega,?_⟩;intro μ Φ w vs U A;refine calls_of_wp Y hb ?_;have z:vs.size=args.length:=by have:=A.1;simpa using this
 have C:VL (entry μ Φ (Xl os) w) ⟨args++Ir (fn.ntmps - args.length) .undef,Xl os⟩ {tmps:=vs++IW (fn.ntmps - vs.size) undef,defers:=[]} w:=by refine⟨μ,Φ,U,?_,rfl⟩;show RL _ _ _ _;rw[IV,IL,z];exact A.append (Wl _)
 have S : ∀ i m,os.length<=i->(entry μ Φ (Xl os) w).μ0 i m=none:=by intro i m hi;refine U.fresh i m (.inl ?_);rw[Ij];simp[Xl];exact hi
 refine wp_mono (b5i V r S N hc C) ?_;rintro e a' w' ⟨rfl,μ',Φ',s,K,hd'⟩;have done:a'.defers=[]∧ ∃ v,(results fn a'.tmps).run P w' = .ok v w'∧ ∃ v' B D,I4 v = .returned v'∧Good (entry μ Φ (Xl os) w) B D (Xl (F.take os.length++F.drop os.length)) w'∧R B D v' (h8n ys):=by
  refine⟨hd',?_⟩;obtain⟨H,O,J⟩:=KN s K Q hxs;have L:XN μ' Φ' H.toArray xs:=by simpa [XN]using J
  obtain⟨k1,b⟩:=Vu S s L I;refine⟨_,O,_,μ'.ren (Hd 256 (Ik os.length++Ho xs) [] st.heap),Φ',rfl,?_,?_⟩
  ·rw[IQ];exact k1
  ·replace b:RL (μ'.ren (Hd 256 (Ik os.length++Ho xs) [] st.heap)) Φ' H ys:=by simpa [XN]using b
   match H,ys,b with
   | [],[],_=>exact .tup _ _ rfl (λj v x h=>by simp at h)
   | [u],[q],b=>exact b.2 0 u q rfl rfl
   | Z::u2::H,q1::q2::qs,b=>
    have e : ¬ ((Z::u2::H).toArray.size=1):=by simp
    rw[dif_neg e];exact .tup _ _ (by have:=b.1;simpa using this) (λj v x hv W=>b.2 j v x (by simpa using hv) W)
   | [],_::_,b=>have:=b.1;simp at this
   | _::_,[],b=>have:=b.1;simp at this
   | [_],_::_::_,b=>have:=b.1;simp at this
   | _::_::_,[_],b=>have:=b.1;simp at this
 cases y with
 | normal=>exact done
 | ret=>exact done
 | exit id=>exact absurd rfl (X id)
def ZT(nt:Nat)(args:List AV)(os:List AObj):St:=⟨args++Ir (nt - args.length) .undef,Xl os⟩
def e5f{T:ZO}{ic:IC}{nt:Nat}{rs:List IRes}{args:List AV}{os:List AObj}{r:AV×List AObj×List AObj}{x:XE}{st:St}(h:Uy T os.length ic (ZT nt args os) x st)(a:(match x with | .exit _=>false|_=>true)=true)(b:finO os.length st rs=some r):
  ∃ n,M9 T n ic nt rs args os=some r:=by
 obtain⟨n,h⟩:=h;refine⟨n,?_⟩;unfold M9;rw[show(⟨args++Ir (nt - args.length) .undef,Xl os⟩:St)=ZT nt args os from rfl,h];cases x with
 | exit id=>simp at a
 | _=>simpa using b
section
inductive Fr where
 | seq (b:IC)|blk (id:Nat)|lp (keep:List Nat) (b:IC)
def We(T:ZO)(k:Nat):List Fr->XE->St->XE->St->Prop
 | [],x,st,x',st'=>x=x'∧st=st'
 | .seq b::K,.normal,st,x',st'=> ∃ y a,Uy T k b st y a∧We T k K y a x' st'
 | .seq _::K,x,st,x',st'=>We T k K x st x' st'
 | .blk id::K,x,st,x',st'=>We T k K (if x = .exit id then .normal else x) st x' st'
 | .lp keep b::K,.normal,st,x',st'=> ∃ y a,Uy T k (.loop keep b) st y a∧We T k K y a x' st'
 | .lp _ _::K,x,st,x',st'=>We T k K x st x' st'
def j6p(T:ZO)(k:Nat)(ic:IC)(K:List Fr)(st:St)(b:XE)(st':St):Prop:= ∃ y a,Uy T k ic st y a∧We T k K y a b st'
def Zk(T:ZO)(k:Nat)(F:St->Prop)(ic:IC)(K:List Fr)(st:St):Prop:= ∃ x st',j6p T k ic K st x st'∧(match x with | .exit _=>false|_=>true)=true∧F st'
inductive Gone where
 | head (keep:List Nat) (b:IC) (K:List Fr) (st:St)
 | done (st:St)
def go(T:ZO):Nat->IC ⊕ XE->List Fr->St->List Bool->Option (Gone×List Bool×Cs)
 | 0,_,_,_,_=>none
 | n+1,.inl ic,K,st,ds=>match ic with
  | .skip=>go T n (.inr .normal) K st ds
  | .reg ps d=>match Ef T ps d st ds with
   | none=>none
   | some (st',ds',cs)=>(go T n (.inr .normal) K st' ds').map λ(g,ds'',cs')=>(g,ds'',cs++cs')
  | .seq a b=>go T n (.inl a) (.seq b::K) st ds
  | .cond c a b=>match ev st.env c with
   | .pv (.bool v)=>match ds with
    | []=>none
    | true::ds=>(go T n (.inl a) K ⟨Ov st.env c true,st.heap⟩ ds).map λ(g,ds',cs)=>(g,ds',(v,true)::cs)
    | false::ds=>(go T n (.inl b) K ⟨Ov st.env c false,st.heap⟩ ds).map λ(g,ds',cs)=>(g,ds',(v,false)::cs)
   | _=>none
  | .block id b=>go T n (.inl b) (.blk id::K) st ds
  | .loop keep b=>some (.head keep b K st,ds,[])
  | .exit id=>go T n (.inr (.exit id)) K st ds
  | .ret=>go T n (.inr .ret) K st ds
  | .ext _ _=>none
 | n+1,.inr x,K,st,ds=>match K,x with
  | [],.exit _=>none
  | [],_=>some (.done st,ds,[])
  | .seq b::K,.normal=>go T n (.inl b) K st ds
  | .lp keep b::K,.normal=>some (.head keep b K st,ds,[])
  | .blk id::K,.exit i=>match i==id with
   | true=>go T n (.inr .normal) K st ds
   | false=>go T n (.inr (.exit i)) K st ds
  | _::K,x=>go T n (.inr x) K st ds
def Gone.Good(T:ZO)(k:Nat)(F:St->Prop):Gone->Prop
 | .head keep b K st=>Zk T k F (.loop keep b) K st
 | .done st=>F st
def FN(T:ZO)(k:Nat)(F:St->Prop):IC ⊕ XE->List Fr->St->Prop
 | .inl ic,K,st=>Zk T k F ic K st
 | .inr x,K,st=> ∃ a st',We T k K x st a st'∧(match a with | .exit _=>false|_=>true)=true∧F st'
section
variable {T:ZO} {k:Nat} {F:St->Prop}
theorem Zk.ofX{ic:IC}{K:List Fr}{st a:St}{x:XE}(h:Uy T k ic st x a)(e:FN T k F (.inr x) K a):Zk T k F ic K st:=by obtain⟨b,st',h1,h2,h3⟩:=e;exact⟨b,st',⟨x,a,h,h1⟩,h2,h3⟩
theorem j2f: ∀ (n:Nat) {f:IC ⊕ XE} {K:List Fr} {st:St} {ds s:List Bool} {g:Gone} {cs:Cs},go T n f K st ds=some (g,s,cs)->Bl cs->g.Good T k F->FN T k F f K st:=by
 intro n
 induction n with
 | zero=>intro f K st ds s g cs h;simp[go]at h
 | succ n ih=>
  intro f K st ds s g cs h hc q;cases f with
  | inl ic=>
   cases ic with
   | ext i sl=>simp[go]at h
   | skip=>exact Zk.ofX ⟨0,rfl⟩ (ih h hc q)
   | reg ps d=>
    simp only[go]at h;split at h
    ·cases h
    ·rename_i l ds1 cs1 h1;rw[Cm]at h;obtain⟨⟨E,z,u⟩,h2,h3⟩:=h;simp only[Ia]at h3;obtain⟨rfl,rfl,rfl⟩:=h3;obtain⟨B,D⟩:=JI hc;exact Zk.ofX (x:=.normal) ⟨0,by simp[W9,a2n h1 B]⟩ (ih h2 D q)
   | seq a b=>
    obtain⟨j,st',⟨y,l,h1,h2⟩,h3,r⟩:=ih h hc q;refine⟨j,st',?_,h3,r⟩;cases y with
    | normal=>obtain⟨H,C,I,J⟩:=h2;exact⟨H,C,h1.seq I,J⟩
    | exit i=>exact⟨_,l,h1.seqx (by simp),h2⟩
    | ret=>exact⟨_,l,h1.seqx (by simp),h2⟩
   | cond c a b=>
    simp only[go]at h;split at h
    ·rename_i v A;split at h
     ·cases h
     ·rw[Cm]at h;obtain⟨⟨E,z,u⟩,h2,h3⟩:=h;simp only[Ia]at h3;obtain⟨rfl,rfl,rfl⟩:=h3;obtain⟨rfl,hc⟩:=hc;rw[UT A]at h2;obtain⟨j,st',⟨y,l,h1,h2⟩,h3,r⟩:=ih h2 hc q;exact⟨j,st',⟨y,l,Uy.cond A h1,h2⟩,h3,r⟩
     ·rw[Cm]at h;obtain⟨⟨E,z,u⟩,h2,h3⟩:=h;simp only[Ia]at h3;obtain⟨rfl,rfl,rfl⟩:=h3;obtain⟨rfl,hc⟩:=hc;rw[UT A]at h2;obtain⟨j,st',⟨y,l,h1,h2⟩,h3,r⟩:=ih h2 hc q;exact⟨j,st',⟨y,l,Uy.cond A h1,h2⟩,h3,r⟩
    ·cases h
   | block id b=>obtain⟨j,st',⟨y,l,h1,h2⟩,h3,r⟩:=ih h hc q;exact⟨j,st',⟨_,l,h1.block,h2⟩,h3,r⟩
   | loop keep b=>simp only[go,Ie,Ia]at h;obtain⟨rfl,_,_⟩:=h;exact q
   | exit id=>exact Zk.ofX ⟨0,rfl⟩ (ih h hc q)
   | ret=>exact Zk.ofX ⟨0,rfl⟩ (ih h hc q)
  | inr x=>
   cases K with
   | nil=>
    cases x with
    | exit i=>simp[go]at h
    | normal=>simp only[go,Ie,Ia]at h;obtain⟨rfl,_,_⟩:=h;exact⟨_,_,⟨rfl,rfl⟩,rfl,q⟩
    | ret=>simp only[go,Ie,Ia]at h;obtain⟨rfl,_,_⟩:=h;exact⟨_,_,⟨rfl,rfl⟩,rfl,q⟩
   | cons fr K=>
    cases fr with
    | seq b=>
     cases x with
     | normal=>obtain⟨j,st',⟨y,l,h1,h2⟩,h3,r⟩:=ih (f:=.inl b) h hc q;exact⟨j,st',⟨y,l,h1,h2⟩,h3,r⟩
     | exit i=> 
      obtain⟨j,st',h1,h2⟩:=ih (f:=.inr _) (K:=K) (by simpa only[go]using h) hc q;exact⟨j,st',by simpa [We]using h1,h2⟩
     | ret=> 
      obtain⟨j,st',h1,h2⟩:=ih (f:=.inr _) (K:=K) (by simpa only[go]using h) hc q;exact⟨j,st',by simpa [We]using h1,h2⟩
    | lp keep b=>
     cases x with
     | normal=>simp only[go,Ie,Ia]at h;obtain⟨rfl,_,_⟩:=h;obtain⟨j,st',⟨y,l,h1,h2⟩,h3,r⟩:=q;exact⟨j,st',⟨y,l,h1,h2⟩,h3,r⟩
     | exit i=> 
      obtain⟨j,st',h1,h2⟩:=ih (f:=.inr _) (K:=K) (by simpa only[go]using h) hc q;exact⟨j,st',by simpa [We]using h1,h2⟩
     | ret=> 
      obtain⟨j,st',h1,h2⟩:=ih (f:=.inr _) (K:=K) (by simpa only[go]using h) hc q;exact⟨j,st',by simpa [We]using h1,h2⟩
    | blk id=>
     cases x with
     | normal=> 
      obtain⟨j,st',h1,h2⟩:=ih (f:=.inr _) (K:=K) (by simpa only[go]using h) hc q;exact⟨j,st',by simpa [We]using h1,h2⟩
     | ret=> 
      obtain⟨j,st',h1,h2⟩:=ih (f:=.inr _) (K:=K) (by simpa only[go]using h) hc q;exact⟨j,st',by simpa [We]using h1,h2⟩
     | exit i=>
      simp only[go]at h;split at h
      ·rename_i e;have e:i=id:=by simpa using e
       subst e;obtain⟨j,st',h1,h2⟩:=ih (f:=.inr _) h hc q;exact⟨j,st',by simpa [We]using h1,h2⟩
      ·rename_i e;have e : ¬ i=id:=by simpa using e
       obtain⟨j,st',h1,h2⟩:=ih (f:=.inr _) h hc q;exact⟨j,st',by simpa [We,e]using h1,h2⟩
theorem Zk.loop{keep:List Nat}{b:IC}{K:List Fr}{st S:St}(g:Gd k keep st=some S)(h:Zk T k F b (.lp keep b::K) S):Zk T k F (.loop keep b) K st:=by
 obtain⟨l,st',⟨y,a,h1,h2⟩,h3,j⟩:=h;refine⟨l,st',?_,h3,j⟩;cases y with
 | normal=>obtain⟨q,e,s,r⟩:=h2;exact⟨q,e,Uy.round g h1 s,r⟩
 | exit i=>exact⟨_,a,Uy.last g h1 (by simp),h2⟩
 | ret=>exact⟨_,a,Uy.last g h1 (by simp),h2⟩
def goG(T:ZO)(k n:Nat)(ic:IC)(K:List Fr)(st:St)(ds:List Bool):Option ((IC×List Fr)×St×Cs):=
 match go T n (.inl ic) K st ds with
 | some (.head keep b K' st',[],cs)=>(Gd k keep st').map λS=>((b,.lp keep b::K'),S,cs)
 | _=>none
theorem Zk.step{n:Nat}{a:IC×List Fr}{ic:IC}{K:List Fr}{st S:St}{ds:List Bool}{cs:Cs}(h:goG T k n ic K st ds=some (a,S,cs))(hc:Bl cs)(hn:Zk T k F a.1 a.2 S):Zk T k F ic K st:=by
 unfold goG at h;split at h
 ·rename_i keep b K' st' cs' e;rw[Cm]at h;obtain⟨S',h1,h2⟩:=h;simp only[Ia]at h2;obtain⟨rfl,rfl,rfl⟩:=h2;exact j2f n e hc (hn.loop h1)
 ·cases h
def goF(T:ZO)(n:Nat)(ic:IC)(K:List Fr)(st:St)(rs:List IRes)(ds:List Bool):Option (PV×Cs):=
 match go T n (.inl ic) K st ds with
 | some (.done st',[],cs)=>(j6l st' rs).map λ(r,cs')=>(r,cs++cs')
 | _=>none
theorem d0h{ic:IC}{nt:Nat}{rs:List IRes}{ps:List PV}{r:PV}(h:Zk T 0 (λst=>fin st rs=some r) ic [] (Ym nt ps)): ∃ n,PH T n ic nt rs ps=some r:=by
 obtain⟨x,st,⟨y,st1,⟨n,h1⟩,h2⟩,h3,h4⟩:=h;obtain⟨rfl,rfl⟩:=h2;refine⟨n,?_⟩;unfold PH;rw[show(⟨ps.map .pv++Ir (nt - ps.length) .undef,[]⟩:St)=Ym nt ps from rfl,h1];cases y with
 | exit id=>simp at h3
 | _=>simpa using h4
theorem c0y{ic:IC}{nt:Nat}{rs:List IRes}{args:List AV}{os:List AObj}{r:AV×List AObj×List AObj}(h:Zk T os.length (λst=>finO os.length st rs=some r) ic [] (ZT nt args os)): ∃ n,M9 T n ic nt rs args os=some r:=by
 obtain⟨x,st,⟨y,st1,h1,h2⟩,h3,h4⟩:=h;obtain⟨rfl,rfl⟩:=h2;refine e5f h1 ?_ h4;cases y with
 | exit id=>simp at h3
 | _=>rfl
end
def CX:IC->List Fr->List (IC×List Fr)
 | .seq a b,K=>CX a (.seq b::K)++CX b K
 | .cond _ a b,K=>CX a K++CX b K
 | .block id b,K=>CX b (.blk id::K)
 | .loop keep b,K=>(b,.lp keep b::K)::CX b (.lp keep b::K)
 | _,_=>[]
def hd(ic:IC)(j:Nat):IC×List Fr:=(CX ic []).getD j (.skip,[])
def Wx:Nat->Nat->List (Nat×AV)->List AV
 | 0,_,_=>[]
 | n+1,i,l=>((l.find? (·.1==i)).map (·.2)).getD .junk::Wx n (i+1) l
def At(T:ZO)(k:Nat)(F:St->Prop)(ic:IC)(j n:Nat)(l:List (Nat×AV))(σ:ZN):Prop:=Zk T k F (hd ic j).1 (hd ic j).2 ⟨Wx n 0 l,σ⟩
end
def e1m:ResultVar->Nat
 | .tmp t=>t
 | .cell a _=>a
def Ox(P:Program)(f:Func):Option IC:=(f.body.bind (Um P)).map λx=>(DU [] (f.results.toList.map e1m) x []).1
def OI{P:Program}{f:Func}{ic:IC}(h:Ox P f=some ic): ∃ cd,f.body=some cd∧Tr P cd ic:=by unfold Ox at h;rw[Cm]at h;obtain⟨x,h1,rfl⟩:=h;rw[Ic]at h1;obtain⟨cd,h2,h3⟩:=h1;exact⟨cd,h2,b7n (AY h3) _ _ _⟩
def Cu{P:Program}{T:ZO}{f:Nat}{fn:Func}{ic:IC}{rs:List IRes}{pre:List PV->Bool}{val:List PV->PV}(i:YC P T)(a:P.follows .mixedOrders=true)(j:P.funcs[f]? = some fn)(e:Ox P fn=some ic)
  (g:Wz (XM P) fn.results.toList=some rs) {nt:Nat} (b:fn.ntmps=nt) (h : ∀ ps,pre ps=true->Zk T 0 (λst=>fin st rs=some (val ps)) ic [] (Ym nt ps)):VB P f pre val:=by
 obtain⟨cd,h1,h2⟩:=OI e;subst b;exact e0n i a j h1 h2 g λps k=>d0h (h ps k)
def i2x{P:Program}{T:ZO}{f:Nat}{fn:Func}{ic:IC}{rs:List IRes}{pre:List AV->List AObj->Bool}{val:List AV->List AObj->AV×List AObj×List AObj}(i:YC P T)(a:P.follows .mixedOrders=true)(j:P.funcs[f]? = some fn)(e:Ox P fn=some ic)
  (g:Wz (XM P) fn.results.toList=some rs) {nt:Nat} (b:fn.ntmps=nt) (h : ∀ args os,pre args os=true->Zk T os.length (λst=>finO os.length st rs=some (val args os)) ic [] (ZT nt args os)):Y4 P f pre val:=by
 obtain⟨cd,h1,h2⟩:=OI e;subst b;exact g0b i a j h1 h2 g λargs os k=>c0y (h args os k)
def YG(l:List (Nat×Den)):ZO:=λf=>(l.find? (λp=>p.1==f)).map (·.2)
structure EntOK (P:Program) (f:Nat) (D:Den):Prop where
 fn : ∃ fn,P.funcs[f]? = some fn∧fn.body.isSome=true∧(fn.name == "runtime.NumGoroutine")=false
 den:d8n P f D
def Zb{P:Program}:YC P (YG []):=λf D h=>by simp[YG]at h
def b7o{P:Program}{f:Nat}{D:Den}{l:List (Nat×Den)}(h:EntOK P f D)(k:YC P (YG l)):YC P (YG ((f,D)::l)):=by
 intro g E a;simp only[YG,List.find?_cons]at a;split at a
 ·rename_i e;simp only[IG,Ie]at a;have e:f=g:=by simpa using e
  subst e a;exact⟨h.fn,h.den⟩
 ·exact k g E a
def ent{P:Program}{f:Nat}{D:Den}{fn:Func}(hf:P.funcs[f]? = some fn)(hb:(fn.body.isSome&& !(fn.name == "runtime.NumGoroutine"))=true)(h:d8n P f D):EntOK P f D:=by simp only[Ii,aQ]at hb;exact⟨⟨fn,hf,hb.1,hb.2⟩,h⟩
def Xd{n:Int}(h1 : -9223372036854775808<=n)(h2:n<=9223372036854775807):IntKind.i64.wrap n=n:=by unfold IntKind.wrap;simp[IntKind.bits,IntKind.signed];split <;> omega
def nums(ns:List Int):List PV:=ns.map (.int .i64)
@[simp] theorem FM (ns : List Int) : (nums ns).length = ns.length := by simp [nums]
@[simp] theorem j5c : nums [] = [] := rfl
@[simp] theorem Wi (ns : List Int) : (nums ns).map PV.asInt = ns := by
 induction ns with
 | nil=>rfl
 | cons n ns ih=>exact congrArg (n:: ·) ih
def PV.isNum:PV->Bool
 | .int .i64 _=>true
 | _=>false
@[simp] theorem g0i (ns : List Int) : (nums ns).all PV.isNum = true := by
 induction ns with
 | nil=>rfl
 | cons n ns ih=>exact ih
def a1o(ns:List Int)(v:Int):((nums ns).any λx=>x.asInt==v)=ns.any (· == v):=by simp[nums,List.any_map,aR,PV.asInt]
def O0{xs:List PV}(h:xs.all PV.isNum=true): ∃ ns,xs=nums ns:=by
 induction xs with
 | nil=>exact⟨[],rfl⟩
 | cons x xs ih=>
  simp only[bB,Ii]at h;obtain⟨ns,rfl⟩:=ih h.2;cases x with
  | int k n=>cases k <;> first|exact⟨n::ns,rfl⟩|simp[PV.isNum]at h
  | _=>simp[PV.isNum]at h
def h4x{ns:List Int}{k:Nat}(h:k<ns.length):(nums ns).getD k default = .int .i64 ns[k]:=by simp[nums,aM,h]
def Ar{ns:List Int}{k:Nat}(h:k<ns.length):(nums ns).getD (k:Int).toNat default = .int .i64 ns[k]:=by rw[Int.toNat_natCast];exact h4x h
def next{k:Nat}(h:k<9223372036854775807):IntKind.i64.wrap ((k:Int)+1)=((k+1:Nat):Int):=by rw[Xd (by omega) (by omega)];omega
inductive Sub:PV->PV->Prop
 | refl (p:PV):Sub p p
 | nil (sz sz':Nat) (t t':Bool) (h:t'=true->t=true):Sub (.sl sz t []) (.sl sz' t' [])
 | cap (sz:Nat) (xs:List PV):Sub (.sl sz true xs) (.sl sz false xs)
 | agg (xs ys:List PV) (hn:xs.length=ys.length) (h : ∀ (j:Nat) x y,xs[j]? = some x->ys[j]? = some y->Sub x y):Sub (.agg xs) (.agg ys)
 | tup (xs ys:List PV) (hn:xs.length=ys.length) (h : ∀ (j:Nat) x y,xs[j]? = some x->ys[j]? = some y->Sub x y):Sub (.tup xs) (.tup ys)
def RP.sub{Φ:Ye}{p q:PV}(h:Sub p q): ∀ {v:Value},RP Φ v p->RP Φ v q:=by
 induction h with
 | refl p=>intro v h;exact h
 | nil sz sz' t t' h=>
  intro v k;cases k with
  | sl0 a c _ _ ht=>exact .sl0 a c sz' t' λe=>ht (h e)
  | sl b off cs c _ _ _ u hb hc ht hs hu hr=>exact .sl0 _ c sz' t' λe=>ht (h e)
 | cap sz xs=>
  intro v k;cases k with
  | sl0 a c _ _ ht=>exact .sl0 a c sz false λe=>by cases e
  | sl b off cs c _ _ _ u hb hc ht hs hu hr=>exact .sl b off cs c sz false xs u hb hc (λe=>by cases e) hs hu hr
 | agg xs ys hn h ih=>
  intro v k;cases k with
  | agg cs _ hn' ho hr=>
   refine .agg cs ys (hn'.trans hn) ho λj v y l g=> ?_
   have i:j<xs.length:=by rw[hn];exact(Ig.1 g).1
   exact ih j _ _ (Ib i) g (hr j v _ l (Ib i))
 | tup xs ys hn h ih=>
  intro v k;cases k with
  | tup cs _ hn' hr=>
   refine .tup cs ys (hn'.trans hn) λj v y l g=> ?_
   have i:j<xs.length:=by rw[hn];exact(Ig.1 g).1
   exact ih j _ _ (Ib i) g (hr j v _ l (Ib i))
def Sub.pair{a b c d:PV}(h:Sub a c)(k:Sub b d):Sub (.tup [a,b]) (.tup [c,d]):=
 .tup _ _ rfl λj x y e g=>match j with
  | 0=>by cases e;cases g;exact h
  | 1=>by cases e;cases g;exact k
  | j+2=>by simp at e
def Sub.agg_nil:Sub (.agg []) (.agg []):=.refl _
def Sub.agg_cons{a b:PV}{xs ys:List PV}(h:Sub a b)(k:Sub (.agg xs) (.agg ys)):Sub (.agg (a::xs)) (.agg (b::ys)):=by
 have i:xs.length=ys.length:=by cases k with|refl=>rfl|agg _ _ hn _=>exact hn
 refine .agg _ _ (by simp[i]) λj x y g e=> ?_
 cases j with
 | zero=>cases g;cases e;exact h
 | succ j=>
  simp only[af]at g e;cases k with
  | refl=>rw[g]at e;cases e;exact .refl _
  | agg _ _ hn hk=>exact hk j x y g e
def Sub.sl(sz:Nat)(t:Bool)(xs:List PV):Sub (.sl sz t xs) (.sl sz false xs):=by cases t;exact .refl _;exact .cap _ _
def Sub.sl0(sz sz':Nat)(t:Bool):Sub (.sl sz t []) (.sl sz' false []):=.nil _ _ _ _ λe=>by cases e
def Y4.congr{P:Program}{f:Nat}{pre pre':List AV->List AObj->Bool}{val val':List AV->List AObj->AV×List AObj×List AObj}(h1:Y4 P f pre val)(h : ∀ a o,pre' a o=true->pre a o=true)(e : ∀ a o,pre' a o=true->val a o=val' a o):Y4 P f pre' val':=λargs os x b ext k g=>h1 args os x b ext (h _ _ k) ((e _ _ k).trans g)
def h7a:AV->Bool
 | .ptr _ _=>true
 | .fn _ (_::_) _=>true
 | .fn _ _ (_::_)=>true
 | _=>false
def Od:List Nat->HM Unit
 | []=>.ret ()
 | l::ls=>.get l fun
  | .box xs=>match xs.any h7a with
   | true=>Od ls
   | false=>(KM xs).bind λps=>.put l (.box (ps.map .pv)) (Od ls)
  | _=>Od ls
def Good.rebox{c:Ctx}{μ:Mu}{Φ:Ye}{σ:ZN}{w:World}{l:Nat}{xs ys:List AV}(h:Good c μ Φ σ w)(ho:σ[l]? = some (.obj (.box xs)))(r : ∀ (B C S T:Nat) (cs:Array Value),μ l 0=some (B,C,S)->w.heap[B]? = some (.cells cs T (0,0))->RL μ Φ cs.toList xs->RL μ Φ cs.toList ys):Good c μ Φ (σ.set l (.obj (.box ys))) w:=by
 have j:l<σ.length:=(Ig.1 ho).1;have b : ∀ l' o',(σ.set l (.obj (.box ys)))[l']? = some (.obj o')-> ∃ o,σ[l']? = some (.obj o)∧blk μ l' o=blk μ l' o':=by
  intro l' o' a;by_cases e:l=l'
  ·subst e;rw[IB j]at a;cases a;exact⟨_,ho,rfl⟩
  ·rw[Iu e]at a;exact⟨_,a,rfl⟩
 refine⟨h.phi,?_,?_,?_,?_,h.os,h.tape,h.output,h.size,h.frame,h.Φle,h.μle,h.dom,h.laid⟩
 ·intro l' o' a;by_cases e:l=l'
  ·subst e;rw[IB j]at a;cases a;obtain⟨B,C,S,T,cs,k1,q,k3,u,z⟩:=h.obj _ _ ho;exact⟨B,C,S,T,cs,k1,q,r B C S T cs k1 q k3,u,z⟩
  ·rw[Iu e]at a;exact h.obj _ _ a
 ·intro l1 l2 o1 o2 g h1 h2;obtain⟨y,k,i⟩:=b _ _ h1;obtain⟨p2,s,A⟩:=b _ _ h2;rw[<- i,<- A];exact h.apart _ _ _ _ g k s
 ·intro l' n a;refine h.fresh l' n ?_;by_cases e:l=l'
  ·subst e;rw[IB j]at a;rcases a with a|a <;> cases a
  ·rwa [Iu e]at a
 ·intro l' o' a;obtain⟨y,k,i⟩:=b _ _ a;rw[<- i];exact h.own _ _ k
def a5q: ∀ (xs:List AV) {σ g:ZN} {ps:List PV} {l:Nat} {ys:List AV},(KM xs).run σ=some (ps,g)->σ[l]? = some (.obj (.box ys))->g[l]? = some (.obj (.box ys)):=by
 have s : ∀ (x:AV) {σ g:ZN} {p:PV} {l:Nat} {ys:List AV},(frz x).run σ=some (p,g)->σ[l]? = some (.obj (.box ys))->g[l]? = some (.obj (.box ys)):=by
  refine λx=>AV.rec (motive_1:=λx=> ∀ {σ g:ZN} {p:PV} {l:Nat} {ys:List AV},(frz x).run σ=some (p,g)->σ[l]? = some (.obj (.box ys))->g[l]? = some (.obj (.box ys)))
   (motive_2:=λxs=> ∀ {σ g:ZN} {ps:List PV} {l:Nat} {ys:List AV},(KM xs).run σ=some (ps,g)->σ[l]? = some (.obj (.box ys))->g[l]? = some (.obj (.box ys))) ?_ ?_ ?_ ?_ ?_ ?_ ?_ ?_ ?_ ?_ ?_ ?_ ?_ x
  ·intro p σ g i l ys h ho;simp only[frz,Iy,Ie,Ia]at h;obtain⟨_,rfl⟩:=h;exact ho
  ·intro σ g i l ys h ho;simp[frz,Iy]at h
  ·intro σ g i l ys h ho;simp[frz,Iy]at h
  ·intro xs j σ g i l ys h ho;simp only[frz,aL,Ic,Iy,Ie,Ia]at h;obtain⟨⟨ps,σ1⟩,h1,_,rfl⟩:=h;exact j h1 ho
  ·intro xs j σ g i l ys h ho;simp only[frz,aL,Ic,Iy,Ie,Ia]at h;obtain⟨⟨ps,σ1⟩,h1,_,rfl⟩:=h;exact j h1 ho
  ·intro a b σ g i l ys h ho;simp[frz,Iy]at h
  ·intro r n lo hi σ g i l ys h ho;simp only[frz,Iy]at h;split at h
   ·rename_i o k;cases o with
    | box=>simp[Iy]at h
    | map=>simp[Iy]at h
    | row fz ty sz xs=>
     simp only[Iy]at h;split at h
     ·rw[k]at h;simp only[Iy,Ie,Ia]at h;obtain⟨_,rfl⟩:=h;by_cases e:r=l
      ·subst e;rw[k]at ho;cases ho
      ·rw[Iu e];exact ho
     ·cases h
   ·cases h
  ·intro a b c d σ g i l ys h ho;simp[frz,Iy]at h
  ·intro a σ g i l ys h ho;simp[frz,Iy]at h
  ·intro f fst cap h1 h2 σ g i l ys h ho;cases fst with
   | nil=>cases cap with
    | nil=>simp only[frz,Iy,Ie,Ia]at h;obtain⟨_,rfl⟩:=h;exact ho
    | cons=>simp[frz,Iy]at h
   | cons=>simp[frz,Iy]at h
  ·intro a σ g i l ys h ho;simp[frz,Iy]at h
  ·intro σ g i l ys h ho;simp only[KM,Iy,Ie,Ia]at h;obtain⟨_,rfl⟩:=h;exact ho
  ·intro x xs u q σ g i l ys h ho;simp only[KM,aL,Ic,Iy,Ie,Ia]at h;obtain⟨⟨p,σ1⟩,h1,⟨ps,σ2⟩,h2,_,rfl⟩:=h;exact q h2 (u h1 ho)
 intro xs
 induction xs with
 | nil=>intro σ g ps l ys h ho;simp only[KM,Iy,Ie,Ia]at h;obtain⟨_,rfl⟩:=h;exact ho
 | cons x xs j=>intro σ g ps l ys h ho;simp only[KM,aL,Ic,Iy,Ie,Ia]at h;obtain⟨⟨p,σ1⟩,h1,⟨qs,σ2⟩,h2,_,rfl⟩:=h;exact j h2 (s x h1 ho)
def f1x{c:Ctx}{μ:Mu}{w:World}: ∀ (ls:List Nat) {Φ:Ye} {σ e:ZN},(Od ls).run σ=some ((),e)->Good c μ Φ σ w-> ∃ Φ',Φ.le Φ'∧Good c μ Φ' e w:=by
 intro ls
 induction ls with
 | nil=>intro Φ σ e h hg;simp only[Od,Iy,Ie,Ia,true_and]at h;subst h;exact⟨Φ,Ye.le.refl _,hg⟩
 | cons l ls ih=>
  intro Φ σ e h hg;simp only[Od,Iy]at h;split at h
  ·rename_i o ho;cases o with
   | row=>exact ih h hg
   | map=>exact ih h hg
   | box xs=>
    cases hb:xs.any h7a with
    | true=>simp only[hb]at h;exact ih h hg
    | false=>
    simp only[hb,aL,Ic]at h;obtain⟨⟨ps,σ1⟩,h1,h2⟩:=h;simp only[Iy,a5q xs h1 ho]at h2;obtain⟨B,C,S,T,cs,k1,q,k3,k4,k5⟩:=hg.obj _ _ ho;obtain⟨Φ1,hle,hg1,hR⟩:=Kz xs h1 hg k3;have g:Good c μ Φ1 (σ1.set l (.obj (.box (ps.map .pv)))) w:=by
     refine hg1.rebox (a5q xs h1 ho) λB' C' S' T' cs' a b _=> ?_
     rw[k1]at a;cases a;rw[q]at b;cases b
     exact⟨by simpa using hR.1,λj v x r i=>by
      rw[II]at i;obtain⟨p,k,rfl⟩:=Cm.1 i
      exact .pv _ _ (hR.2 j v p r k)⟩
    obtain⟨Φ2,hle2,hg3⟩:=ih h2 g;exact⟨Φ2,hle.trans hle2,hg3⟩
  ·cases h
def c8l(k:Nat)(st:St)(rs:List IRes):Option (AV×List AObj×List AObj):=(Wz (a0v st) rs).bind λvs=>((KM vs).run st.heap).bind λ(qs,σ1)=>((Od (Ik k)).run σ1).bind λ(_,σ)=>(Og k (Hd 256 (Ik k) [] σ) [] σ).map λ(_,os)=>(.pv (FY qs),os.take k,os.drop k)
def h3o{P:Program}{T:ZO}{f:Nat}{fn:Func}{cd:Code}{ic:IC}{rs:List IRes}{pre:List AV->List AObj->Bool}{val:List AV->List AObj->AV×List AObj×List AObj}(S:YC P T)(k:P.follows .mixedOrders=true)(V:P.funcs[f]? = some fn)(hb:fn.body=some cd)(K:Tr P cd ic)
  (M:Wz (XM P) fn.results.toList=some rs) (h : ∀ args os,pre args os=true-> ∃ x st,Uy T os.length ic (ZT fn.ntmps args os) x st∧(match x with | .exit _=>false|_=>true)=true∧ ∃ p E b ext,c8l os.length st rs=some (.pv p,b,ext)∧Sub p E∧val args os=(.pv E,b,ext)):Y4 P f pre val:=by
 intro args os x b ext g C;obtain⟨y,st,⟨n,hc⟩,hy,p,E,os1,ext1,hfin,hsub,hval'⟩:=h args os g;rw[C]at hval';simp only[Ia]at hval';obtain⟨rfl,rfl,rfl⟩:=hval';unfold c8l at hfin;simp only[Ic,Cm]at hfin;obtain⟨xs,hxs,⟨qs,σ0⟩,hfz,⟨u0,σ1⟩,hfb,⟨ys,D⟩,hpk,e⟩:=hfin;simp only[Ia,AV.pv.injEq]at e;obtain⟨rfl,rfl,rfl⟩:=e;obtain⟨F,hlen2⟩:=Ap hpk;refine⟨by simp;omega,?_⟩;intro μ Φ w vs Q s;refine calls_of_wp V hb ?_;have r:vs.size=args.length:=by have:=s.1;simpa using this
 have A:VL (entry μ Φ (Xl os) w) ⟨args++Ir (fn.ntmps - args.length) .undef,Xl os⟩ {tmps:=vs++IW (fn.ntmps - vs.size) undef,defers:=[]} w:=by refine⟨μ,Φ,Q,?_,rfl⟩;show RL _ _ _ _;rw[IV,IL,r];exact s.append (Wl _)
 have O : ∀ i m,os.length<=i->(entry μ Φ (Xl os) w).μ0 i m=none:=by intro i m hi;refine Q.fresh i m (.inl ?_);rw[Ij];simp[Xl];exact hi
 refine wp_mono (b5i S k O K hc A) ?_;rintro e a' w' ⟨rfl,μ',Φ',l,I,hd'⟩;have done:a'.defers=[]∧ ∃ v,(results fn a'.tmps).run P w' = .ok v w'∧ ∃ v' z B,I4 v = .returned v'∧Good (entry μ Φ (Xl os) w) z B (Xl (D.take os.length++D.drop os.length)) w'∧R z B v' (.pv E):=by
  refine⟨hd',?_⟩;obtain⟨N,L,H⟩:=KN l I M hxs;obtain⟨Φ0,hle0,hg0,hR0⟩:=Kz xs hfz l H;obtain⟨Φ1,hle1,hg1⟩:=f1x _ hfb hg0;have a:=hR0.mono hle1;have J:XN μ' Φ1 (#[]:Array Value) ([]:List AV):=⟨rfl,λj v x h=>by simp at h⟩
  obtain⟨k1,k2⟩:=Vu O hg1 J F;refine⟨_,L,_,μ'.ren (Hd 256 (Ik os.length) [] σ1),Φ1,rfl,?_,?_⟩
  ·rw[IQ];exact k1
  ·refine .pv _ _ (RP.sub hsub ?_)
   match N,qs,a with
   | [],[],_=>exact .tup _ _ rfl (λj v x h=>by simp at h)
   | [u],[q],a=>exact a.2 0 u q rfl rfl
   | W::u2::N,q1::q2::qs,a=>
    have e : ¬ ((W::u2::N).toArray.size=1):=by simp
    rw[dif_neg e];exact .tup _ _ (by have:=a.1;simpa using this) (λj v x X U=>a.2 j v x (by simpa using X) U)
   | [],_::_,a=>have:=a.1;simp at this
   | _::_,[],a=>have:=a.1;simp at this
   | [_],_::_::_,a=>have:=a.1;simp at this
   | _::_::_,[_],a=>have:=a.1;simp at this
 cases y with
 | normal=>exact done
 | ret=>exact done
 | exit id=>cases hy
def g6b{P:Program}{T:ZO}{f:Nat}{fn:Func}{ic:IC}{rs:List IRes}{pre:List AV->List AObj->Bool}{val:List AV->List AObj->AV×List AObj×List AObj}(q:YC P T)(b:P.follows .mixedOrders=true)(r:P.funcs[f]? = some fn)(i:Ox P fn=some ic)
  (j:Wz (XM P) fn.results.toList=some rs) {nt:Nat} (g:fn.ntmps=nt) (h : ∀ args os,pre args os=true-> ∃ p e a ext,Zk T os.length (λst=>c8l os.length st rs=some (.pv p,a,ext)) ic [] (ZT nt args os)∧Sub p e∧val args os=(.pv e,a,ext)):Y4 P f pre val:=by
 obtain⟨cd,h1,h2⟩:=OI i;subst g;refine h3o q b r h1 h2 j λargs os u=> ?_
 obtain⟨p,e,a,ext,⟨x,st,⟨y,st1,z,s⟩,k,A⟩,hs,l⟩:=h args os u;obtain⟨rfl,rfl⟩:=s;exact⟨_,_,z,k,p,e,a,ext,A,hs,l⟩
inductive Mk where
 | nil|lit (m:Mk)|ask (a b:Mk)|req (m:Mk)|ans (d:Bool) (m:Mk)
def HM.w{α:Type}:HM α->ZN->List Nat->List Nat->Mk->(α->ZN->List Nat->List Nat->Mk->Prop)->Prop
 | .ret a,σ,R,W,m,k=>k a σ R W m
 | .fail,_,_,_,_,_=>False
 | .get l f,σ,R,W,m,k=>match σ[l]? with|some (.obj o)=>(f o).w σ (R++[l]) W m k|_=>False
 | .put l o f,σ,R,W,m,k=>match σ[l]? with|some (.obj _)=>f.w (σ.set l (.obj o)) R (W++[l]) m k|_=>False
 | .new l o f,σ,R,W,m,k=>match σ[l]? with|some .fresh=>f.w (σ.set l (.obj o)) R (W++[l]) m k|_=>False
 | .ask b f,σ,R,W,m,k=>match m with
  | .ask m1 m2=>if b=true then(f true).w σ R W m1 k else(f false).w σ R W m2 k
  | .lit m=>match b with|true=>(f true).w σ R W m k|false=>(f false).w σ R W m k
  | .ans d m=>b=d∧(f d).w σ R W m k
  | _=>False
 | .req b f,σ,R,W,m,k=>match m with
  | .req m=>b=true∧f.w σ R W m k
  | .lit m=>match b with|true=>f.w σ R W m k|false=>False
  | _=>False
def HM.w_ok{α:Type}(h:HM α): ∀ {σ:ZN} {R W:List Nat} {m:Mk} {k:α->ZN->List Nat->List Nat->Mk->Prop},h.w σ R W m k-> ∃ a e R' W' g,h.runF σ=some (a,e,R',W')∧k a e (R++R') (W++W') g:=by
 induction h with
 | ret a=>intro σ R W m k h;exact⟨a,σ,[],[],m,rfl,by simp only[ah];exact h⟩
 | fail=>intro σ R W m k h;exact h.elim
 | get l f ih=>
  intro σ R W m k h;simp only[HM.w]at h;split at h
  ·rename_i o ho;obtain⟨a,e,R',W',g,h1,h2⟩:=ih o h;exact⟨a,e,l::R',W',g,by simp[IE,ho,h1],by simpa using h2⟩
  ·exact h.elim
 | put l o f ih=>
  intro σ R W m k h;simp only[HM.w]at h;split at h
  ·rename_i o' ho;obtain⟨a,e,R',W',g,h1,h2⟩:=ih h;exact⟨a,e,R',l::W',g,by simp[IE,ho,h1],by simpa using h2⟩
  ·exact h.elim
 | new l o f ih=>
  intro σ R W m k h;simp only[HM.w]at h;split at h
  ·rename_i ho;obtain⟨a,e,R',W',g,h1,h2⟩:=ih h;exact⟨a,e,R',l::W',g,by simp[IE,ho,h1],by simpa using h2⟩
  ·exact h.elim
 | ask b f ih=>
  intro σ R W m k h;cases m with
  | ask m1 m2=>
   simp only[HM.w]at h;cases b with
   | true=>rw[if_pos rfl]at h;obtain⟨a,e,R',W',g,h1,h2⟩:=ih true h;exact⟨a,e,R',W',g,by simpa [IE]using h1,h2⟩
   | false=>rw[if_neg (by simp)]at h;obtain⟨a,e,R',W',g,h1,h2⟩:=ih false h;exact⟨a,e,R',W',g,by simpa [IE]using h1,h2⟩
  | lit m=>
   cases b with
   | true=>obtain⟨a,e,R',W',g,h1,h2⟩:=ih true h;exact⟨a,e,R',W',g,by simpa [IE]using h1,h2⟩
   | false=>obtain⟨a,e,R',W',g,h1,h2⟩:=ih false h;exact⟨a,e,R',W',g,by simpa [IE]using h1,h2⟩
  | ans d m=>obtain⟨rfl,h⟩:=h;obtain⟨a,e,R',W',g,h1,h2⟩:=ih _ h;exact⟨a,e,R',W',g,by simpa [IE]using h1,h2⟩
  | nil=>exact h.elim
  | req m=>exact h.elim
 | req b f ih=>
  intro σ R W m k h;cases m with
  | req m=>obtain⟨rfl,h⟩:=h;obtain⟨a,e,R',W',g,h1,h2⟩:=ih h;exact⟨a,e,R',W',g,by simpa [IE]using h1,h2⟩
  | lit m=>
   cases b with
   | true=>obtain⟨a,e,R',W',g,h1,h2⟩:=ih h;exact⟨a,e,R',W',g,by simpa [IE]using h1,h2⟩
   | false=>exact h.elim
  | nil=>exact h.elim
  | ask m1 m2=>exact h.elim
  | ans d m=>exact h.elim
def f8r(T:ZO)(a:Nat)(p:PI)(st:St)(m:Mk)(k:St->List Nat->List Nat->Mk->Prop):Prop:=
 match p.gd with
 | none=>(VA T (a+p.L) st.env p.op).w st.heap [] [] m λv σ R W m=>k ⟨Y5 st.env p.dst v,σ⟩ R W m
 | some (s,b)=>match st.env[s]? with
  | some (.pv (.bool v))=>match m with
   | .ask m1 m2=>if v=true
    then(match true==b with
     | true=>(VA T (a+p.L) (st.env.set s (.pv (.bool true))) p.op).w st.heap [] [] m1 λv σ R W m=>k ⟨Y5 (st.env.set s (.pv (.bool true))) p.dst v,σ⟩ R W m
     | false=>k ⟨Y5 (st.env.set s (.pv (.bool true))) p.dst .undef,st.heap⟩ [] [] m1)
    else(match false==b with
     | true=>(VA T (a+p.L) (st.env.set s (.pv (.bool false))) p.op).w st.heap [] [] m2 λv σ R W m=>k ⟨Y5 (st.env.set s (.pv (.bool false))) p.dst v,σ⟩ R W m
     | false=>k ⟨Y5 (st.env.set s (.pv (.bool false))) p.dst .undef,st.heap⟩ [] [] m2)
   | .lit m=>match v==b with
    | true=>(VA T (a+p.L) st.env p.op).w st.heap [] [] m λv σ R W m=>k ⟨Y5 st.env p.dst v,σ⟩ R W m
    | false=>k ⟨Y5 st.env p.dst .undef,st.heap⟩ [] [] m
   | .ans d m=>v=d∧(match d==b with
     | true=>(VA T (a+p.L) (st.env.set s (.pv (.bool d))) p.op).w st.heap [] [] m λv σ R W m=>k ⟨Y5 (st.env.set s (.pv (.bool d))) p.dst v,σ⟩ R W m
     | false=>k ⟨Y5 (st.env.set s (.pv (.bool d))) p.dst .undef,st.heap⟩ [] [] m)
   | _=>False
  | some .undef=>k ⟨Y5 st.env p.dst .undef,st.heap⟩ [] [] m
  | _=>False
def Sr{env:List AV}{s:Nat}{v:AV}(h:env[s]? = some v):env.set s v=env:=by
 apply aB;intro j;rw[IJ];split
 ·rename_i e;subst e;rw[if_pos (Ig.1 h).1,h]
 ·rfl
def f2i{T:ZO}{l:Nat}{p:PI}{st:St}{m:Mk}{k:St->List Nat->List Nat->Mk->Prop}(h:f8r T l p st m k): ∃ st' R W i,Vr T l p st=some (st',R,W)∧k st' R W i:=by
 unfold f8r at h;unfold Vr;split at h
 ·rename_i j;obtain⟨a,σ',R',W',i,h1,h2⟩:=HM.w_ok _ h;exact⟨⟨Y5 st.env p.dst a,σ'⟩,R',W',i,by simp[WC,j,h1],by simpa using h2⟩
 ·rename_i s b j;split at h
  ·rename_i v g;split at h
   ·rename_i m1 m2;cases v with
    | true=>
     rw[if_pos rfl,Sr g]at h;split at h
     ·rename_i e;obtain⟨a,σ',R',W',i,h1,h2⟩:=HM.w_ok _ h;exact⟨⟨Y5 st.env p.dst a,σ'⟩,R',W',i,by simp[WC,j,g,e,h1],by simpa using h2⟩
     ·rename_i e;exact⟨⟨Y5 st.env p.dst .undef,st.heap⟩,[],[],_,by simp[WC,j,g,e],h⟩
    | false=>
     rw[if_neg (by simp),Sr g]at h;split at h
     ·rename_i e;obtain⟨a,σ',R',W',i,h1,h2⟩:=HM.w_ok _ h;exact⟨⟨Y5 st.env p.dst a,σ'⟩,R',W',i,by simp[WC,j,g,e,h1],by simpa using h2⟩
     ·rename_i e;exact⟨⟨Y5 st.env p.dst .undef,st.heap⟩,[],[],_,by simp[WC,j,g,e],h⟩
   ·split at h
    ·rename_i e;obtain⟨a,σ',R',W',i,h1,h2⟩:=HM.w_ok _ h;exact⟨⟨Y5 st.env p.dst a,σ'⟩,R',W',i,by simp only[WC,j,g,e];simp[h1],by simpa using h2⟩
    ·rename_i e;exact⟨⟨Y5 st.env p.dst .undef,st.heap⟩,[],[],_,by simp only[WC,j,g,e],h⟩
   ·obtain⟨rfl,h⟩:=h;rw[Sr g]at h;split at h
    ·rename_i e;obtain⟨a,σ',R',W',i,h1,h2⟩:=HM.w_ok _ h;exact⟨⟨Y5 st.env p.dst a,σ'⟩,R',W',i,by simp only[WC,j,g,e];simp[h1],by simpa using h2⟩
    ·rename_i e;exact⟨⟨Y5 st.env p.dst .undef,st.heap⟩,[],[],_,by simp only[WC,j,g,e],h⟩
   ·exact h.elim
  ·rename_i g;exact⟨⟨Y5 st.env p.dst .undef,st.heap⟩,[],[],m,by simp[WC,j,g],h⟩
  ·exact h.elim
def g9k(T:ZO)(a:Nat):List (Nat×PI)->St->List FP->Mk->(St->List FP->Mk->Prop)->Prop
 | [],st,tr,m,k=>k st tr m
 | (i,p)::r,st,tr,m,k=>f8r T a p st m λst R W m=>g9k T a r st (tr++[(i,R,W)]) m k
def g7b{T:ZO}{a:Nat}: ∀ {l:List (Nat×PI)} {st:St} {e:List FP} {m:Mk} {k:St->List FP->Mk->Prop},g9k T a l st e m k-> ∃ st' b s,runF T a l st=some (st',b)∧k st' (e++b) s:=by
 intro l
 induction l with
 | nil=>intro st e m k h;exact⟨st,[],m,rfl,by simpa [g9k]using h⟩
 | cons q l ih=>intro st e m k h;obtain⟨i,p⟩:=q;obtain⟨st1,R,W,m1,h1,h2⟩:=f2i h;obtain⟨j,g,u,h3,r⟩:=ih h2;exact⟨j,(i,R,W)::g,u,by simp[runF,h1,h3],by simpa using r⟩
def i9m(T:ZO)(ps:List PI)(deps:Option (List (List Nat)))(st:St)(m:Mk)(k:St->Mk->Prop):Prop:=
 g9k T st.heap.length (Ba ps) (grow st (news ps)) [] m λst a m=>match deps with
  | none=>k st m
  | some d=>match b2t d a with|true=>k st m|false=>False
def g6x{T:ZO}{ps:List PI}{deps:Option (List (List Nat))}{st:St}{m:Mk}{k:St->Mk->Prop}(h:i9m T ps deps st m k): ∃ st' e,Jl T ps deps st=some st'∧k st' e:=by
 obtain⟨a,tr,b,h1,h2⟩:=g7b h;rw[ai]at h2;split at h2
 ·have:=EL h1;rw[A8]at this;exact⟨a,b,this,h2⟩
 ·rename_i d;split at h2
  ·rename_i ht;exact⟨a,b,by simp[Jl,h1,ht],h2⟩
  ·exact h2.elim
def goW(T:ZO):Nat->IC ⊕ XE->List Fr->St->Mk->(Gone->Mk->Prop)->Prop
 | 0,_,_,_,_,_=>False
 | n+1,.inl ic,K,st,m,k=>match ic with
  | .skip=>goW T n (.inr .normal) K st m k
  | .reg ps d=>i9m T ps d st m λst m=>goW T n (.inr .normal) K st m k
  | .seq a b=>goW T n (.inl a) (.seq b::K) st m k
  | .cond c a b=>match ev st.env c with
   | .pv (.bool v)=>match m with
    | .ask m1 m2=>if v=true then goW T n (.inl a) K ⟨Ov st.env c true,st.heap⟩ m1 k else goW T n (.inl b) K ⟨Ov st.env c false,st.heap⟩ m2 k
    | .lit m=>match v with
     | true=>goW T n (.inl a) K st m k
     | false=>goW T n (.inl b) K st m k
    | .ans d m=>v=d∧(match d with
     | true=>goW T n (.inl a) K ⟨Ov st.env c true,st.heap⟩ m k
     | false=>goW T n (.inl b) K ⟨Ov st.env c false,st.heap⟩ m k)
    | _=>False
   | _=>False
  | .block id b=>goW T n (.inl b) (.blk id::K) st m k
  | .loop keep b=>k (.head keep b K st) m
  | .exit id=>goW T n (.inr (.exit id)) K st m k
  | .ret=>goW T n (.inr .ret) K st m k
  | .ext _ _=>False
 | n+1,.inr x,K,st,m,k=>match K,x with
  | [],.exit _=>False
  | [],_=>k (.done st) m
  | .seq b::K,.normal=>goW T n (.inl b) K st m k
  | .lp keep b::K,.normal=>k (.head keep b K st) m
  | .blk id::K,.exit i=>match i==id with
   | true=>goW T n (.inr .normal) K st m k
   | false=>goW T n (.inr (.exit i)) K st m k
  | _::K,x=>goW T n (.inr x) K st m k
def i4m{T:ZO}{r:Nat}{F:St->Prop}{P:Gone->Mk->Prop}(s : ∀ g m,P g m->g.Good T r F): ∀ (n:Nat) {f:IC ⊕ XE} {K:List Fr} {st:St} {m:Mk},goW T n f K st m P->FN T r F f K st:=by
 intro n
 induction n with
 | zero=>intro f K st m h;exact h.elim
 | succ n ih=>
  intro f K st m h;cases f with
  | inl ic=>
   cases ic with
   | skip=>exact Zk.ofX ⟨0,rfl⟩ (ih h)
   | reg ps d=>obtain⟨k,z,h1,h2⟩:=g6x h;exact Zk.ofX (x:=.normal) ⟨0,by simp[W9,h1]⟩ (ih h2)
   | seq a b=>
    obtain⟨j,st',⟨y,k,h1,h2⟩,h3,l⟩:=ih (f:=.inl a) h;refine⟨j,st',?_,h3,l⟩;cases y with
    | normal=>obtain⟨A,u,D,C⟩:=h2;exact⟨A,u,h1.seq D,C⟩
    | exit i=>exact⟨_,k,h1.seqx (by simp),h2⟩
    | ret=>exact⟨_,k,h1.seqx (by simp),h2⟩
   | cond c a b=>
    have fin : ∀ v,ev st.env c = .pv (.bool v)->FN T r F (.inl (if v=true then a else b)) K st->FN T r F (.inl (.cond c a b)) K st:=by intro v q B;obtain⟨j,st',⟨y,k,h1,h2⟩,h3,l⟩:=B;refine⟨j,st',⟨y,k,Uy.cond q ?_,h2⟩,h3,l⟩;cases v <;> exact h1
    simp only[goW]at h;split at h
    ·rename_i v q;cases m with
     | ask z m2=>
      refine fin v q ?_;cases v with
      | true=>rw[if_pos rfl];simp only[if_true]at h;rw[UT q]at h;exact ih (f:=.inl a) h
      | false=>rw[if_neg (by simp)];simp only[aN,if_false]at h;rw[UT q]at h;exact ih (f:=.inl b) h
     | lit m=>
      refine fin v q ?_;cases v with
      | true=>exact ih (f:=.inl a) h
      | false=>exact ih (f:=.inl b) h
     | ans d m=>
      obtain⟨rfl,h⟩:=h;refine fin v q ?_;cases v with
      | true=>rw[UT q]at h;exact ih (f:=.inl a) h
      | false=>rw[UT q]at h;exact ih (f:=.inl b) h
     | nil=>exact h.elim
     | req m=>exact h.elim
    ·exact h.elim
   | block id b=>obtain⟨j,st',⟨y,k,h1,h2⟩,h3,l⟩:=ih (f:=.inl b) h;exact⟨j,st',⟨_,k,h1.block,h2⟩,h3,l⟩
   | loop keep b=>exact s _ _ h
   | exit id=>exact Zk.ofX ⟨0,rfl⟩ (ih h)
   | ret=>exact Zk.ofX ⟨0,rfl⟩ (ih h)
   | ext n sl=>exact h.elim
  | inr x=>
   cases K with
   | nil=>
    cases x with
    | exit i=>exact h.elim
    | normal=>exact⟨_,_,⟨rfl,rfl⟩,rfl,s _ _ h⟩
    | ret=>exact⟨_,_,⟨rfl,rfl⟩,rfl,s _ _ h⟩
   | cons fr K=>
    cases fr with
    | seq b=>
     cases x with
     | normal=>obtain⟨j,st',⟨y,k,h1,h2⟩,h3,l⟩:=ih (f:=.inl b) h;exact⟨j,st',⟨y,k,h1,h2⟩,h3,l⟩
     | exit i=>obtain⟨j,st',h1,h2⟩:=ih (f:=.inr (.exit i)) (K:=K) h;exact⟨j,st',by simpa [We]using h1,h2⟩
     | ret=>obtain⟨j,st',h1,h2⟩:=ih (f:=.inr .ret) (K:=K) h;exact⟨j,st',by simpa [We]using h1,h2⟩
    | lp keep b=>
     cases x with
     | normal=>obtain⟨j,st',⟨y,k,h1,h2⟩,h3,l⟩:=s _ _ h;exact⟨j,st',⟨y,k,h1,h2⟩,h3,l⟩
     | exit i=>obtain⟨j,st',h1,h2⟩:=ih (f:=.inr (.exit i)) (K:=K) h;exact⟨j,st',by simpa [We]using h1,h2⟩
     | ret=>obtain⟨j,st',h1,h2⟩:=ih (f:=.inr .ret) (K:=K) h;exact⟨j,st',by simpa [We]using h1,h2⟩
    | blk id=>
     cases x with
     | normal=>obtain⟨j,st',h1,h2⟩:=ih (f:=.inr .normal) (K:=K) h;exact⟨j,st',by simpa [We]using h1,h2⟩
     | ret=>obtain⟨j,st',h1,h2⟩:=ih (f:=.inr .ret) (K:=K) h;exact⟨j,st',by simpa [We]using h1,h2⟩
     | exit i=>
      simp only[goW]at h;split at h
      ·rename_i e;have e:i=id:=by simpa using e
       subst e;obtain⟨j,st',h1,h2⟩:=ih (f:=.inr .normal) (K:=K) h;exact⟨j,st',by simpa [We]using h1,h2⟩
      ·rename_i e;have e : ¬ i=id:=by simpa using e
       obtain⟨j,st',h1,h2⟩:=ih (f:=.inr (.exit i)) (K:=K) h;exact⟨j,st',by simpa [We,e]using h1,h2⟩
def i0m(st:St)(rs:List IRes)(m:Mk)(r:PV):Prop:=match Wz (a0v st) rs with
 | some vs=>(KM vs).w st.heap [] [] m λqs _ _ _ _=>FY qs=r
 | none=>False
def g7l{st:St}{rs:List IRes}{m:Mk}{r:PV}(h:i0m st rs m r):fin st rs=some r:=by
 unfold i0m at h;split at h
 ·rename_i vs b;obtain⟨a,σ',R',W',m',h1,h2⟩:=HM.w_ok _ h;simp[fin,b,I8 _ h1,h2]
 ·exact h.elim
def g2p(T:ZO)(k:Nat)(F:St->Prop)(e:St->Mk->Prop)(g:Gone)(m:Mk):Prop:=match g with
 | .head keep b K st=>match Gd k keep st with
  | some S=>Zk T k F b (.lp keep b::K) S
  | none=>False
 | .done st=>e st m
def f7t{T:ZO}{k:Nat}{F:St->Prop}{e:St->Mk->Prop}(b : ∀ st m,e st m->F st)(g:Gone)(m:Mk)(h:g2p T k F e g m):g.Good T k F:=by
 unfold g2p at h;split at h
 ·split at h
  ·rename_i S a;exact Zk.loop a h
  ·exact h.elim
 ·exact b _ _ h
def wP(T:ZO)(ic:IC)(K:List Fr)(st:St)(rs:List IRes)(m:Mk)(r:PV):Prop:=goW T 100000 (.inl ic) K st m (g2p T 0 (λst=>fin st rs=some r) λst m=>i0m st rs m r)
def Zk.w{T:ZO}{ic:IC}{K:List Fr}{st:St}{rs:List IRes}(m:Mk){r:PV}{A:Prop}(h:A)(e:A=wP T ic K st rs m r):Zk T 0 (λst=>fin st rs=some r) ic K st:=by subst e;exact i4m (f7t λst m h=>g7l h) _ h
def At.w{T:ZO}{ic:IC}{j n:Nat}{l:List (Nat×AV)}{σ:ZN}{rs:List IRes}(m:Mk){r:PV}{A:Prop}(h:A)(e:A=wP T (hd ic j).1 (hd ic j).2 ⟨Wx n 0 l,σ⟩ rs m r):At T 0 (λst=>fin st rs=some r) ic j n l σ:=Zk.w m h e
inductive Leaf where
 | head (ic:IC) (K:List Fr) (S:St)
 | fin (p:PV)
 | finO (r:AV×List AObj×List AObj)
 | ext (n:Nat) (K:List Fr) (S:St)
inductive DT where
 | ask (b:Bool) (k:Bool->DT)
 | req (b:Bool) (k:DT)
 | abs (v:AV) (k:AV->DT)
 | abso (o:AObj) (k:AObj->DT)
 | leaf (l:Leaf)
 | bad (n:Nat)
def DT.sat(Q:Leaf->Prop):DT->Prop
 | .ask b k=>(k b).sat Q
 | .req b k=>b=true∧k.sat Q
 | .abs v k=>(k v).sat Q
 | .abso o k=>(k o).sat Q
 | .leaf l=>Q l
 | .bad _=>False
def HM.d{α:Type}:HM α->ZN->List Nat->List Nat->(α->ZN->List Nat->List Nat->DT)->DT
 | .ret a,σ,R,W,k=>k a σ R W
 | .fail,_,_,_,_=>.bad 1
 | .get l f,σ,R,W,k=>match σ[l]? with|some (.obj o)=>(f o).d σ (R++[l]) W k|_=>.bad 2
 | .put l o f,σ,R,W,k=>match σ[l]? with|some (.obj _)=>f.d (σ.set l (.obj o)) R (W++[l]) k|_=>.bad 3
 | .new l o f,σ,R,W,k=>match σ[l]? with|some .fresh=>f.d (σ.set l (.obj o)) R (W++[l]) k|_=>.bad 4
 | .ask b f,σ,R,W,k=>.ask b λd=>(f d).d σ R W k
 | .req b f,σ,R,W,k=>.req b (f.d σ R W k)
def HM.d_ok{α:Type}{Q:Leaf->Prop}(h:HM α): ∀ {σ:ZN} {R W:List Nat} {k:α->ZN->List Nat->List Nat->DT},(h.d σ R W k).sat Q-> ∃ a e R' W',h.runF σ=some (a,e,R',W')∧(k a e (R++R') (W++W')).sat Q:=by
 induction h with
 | ret a=>intro σ R W k h;exact⟨a,σ,[],[],rfl,by simp only[ah];exact h⟩
 | fail=>intro σ R W k h;exact h.elim
 | get l f ih=>
  intro σ R W k h;simp only[HM.d]at h;split at h
  ·rename_i o ho;obtain⟨a,e,R',W',h1,h2⟩:=ih o h;exact⟨a,e,l::R',W',by simp[IE,ho,h1],by simpa using h2⟩
  ·exact h.elim
 | put l o f ih=>
  intro σ R W k h;simp only[HM.d]at h;split at h
  ·rename_i o' ho;obtain⟨a,e,R',W',h1,h2⟩:=ih h;exact⟨a,e,R',l::W',by simp[IE,ho,h1],by simpa using h2⟩
  ·exact h.elim
 | new l o f ih=>
  intro σ R W k h;simp only[HM.d]at h;split at h
  ·rename_i ho;obtain⟨a,e,R',W',h1,h2⟩:=ih h;exact⟨a,e,R',l::W',by simp[IE,ho,h1],by simpa using h2⟩
  ·exact h.elim
 | ask b f ih=>intro σ R W k h;obtain⟨a,e,R',W',h1,h2⟩:=ih b (σ:=σ) (R:=R) (W:=W) (k:=k) h;exact⟨a,e,R',W',by simpa [IE]using h1,h2⟩
 | req b f ih=>intro σ R W k h;obtain⟨rfl,h⟩:=h;obtain⟨a,e,R',W',h1,h2⟩:=ih h;exact⟨a,e,R',W',by simpa [IE]using h1,h2⟩
def j5w:POp->Bool
 | .call _ _ | .iaddr _ _ _ | .lookup _ _ _ _ _ _=>true
 | _=>false
def g6r(p:POp)(v:AV)(k:AV->DT):DT:=match j5w p with|true=>.abs v k|false=>k v
def d6d{Q:Leaf->Prop}{p:POp}{v:AV}{k:AV->DT}(h:(g6r p v k).sat Q):(k v).sat Q:=by unfold g6r at h;split at h <;> exact h
def b7u:List Nat->ZN->(ZN->DT)->DT
 | [],σ,k=>k σ
 | l::W,σ,k=>match σ[l]? with
  | some (.obj o)=>.abso o λo=>b7u W (σ.set l (.obj o)) k
  | _=>b7u W σ k
def a4l{Q:Leaf->Prop}: ∀ {W:List Nat} {σ:ZN} {k:ZN->DT},(b7u W σ k).sat Q->(k σ).sat Q
 | [],σ,k,h=>h
 | l::W,σ,k,h=>by
  simp only[b7u]at h;split at h
  ·rename_i o ho;have h:=a4l (W:=W) h;have hl:l<σ.length:=(Ig.1 ho).1;have e:σ[l] = .obj o:=(Ig.1 ho).2;rw[<- e,List.set_getElem_self]at h;exact h
  ·exact a4l (W:=W) h
def g9z(p:POp)(σ:ZN)(W:List Nat)(k:ZN->DT):DT:=match p with
 | .call _ _=>b7u W σ k
 | _=>k σ
def d7h{Q:Leaf->Prop}{p:POp}{σ:ZN}{W:List Nat}{k:ZN->DT}(h:(g9z p σ W k).sat Q):(k σ).sat Q:=by
 unfold g9z at h;split at h
 ·exact a4l h
 ·exact h
def g1s(T:ZO)(a:Nat)(p:PI)(st:St)(k:St->List Nat->List Nat->DT):DT:=
 match p.gd with
 | none=>(VA T (a+p.L) st.env p.op).d st.heap [] [] λv σ R W=>g6r p.op v λv=>g9z p.op σ W λσ=>k ⟨Y5 st.env p.dst v,σ⟩ R W
 | some (s,b)=>match st.env[s]? with
  | some (.pv (.bool v))=>.ask v λd=>match d==b with
   | true=>(VA T (a+p.L) (st.env.set s (.pv (.bool d))) p.op).d st.heap [] [] λv σ R W=>g6r p.op v λv=>g9z p.op σ W λσ=>k ⟨Y5 (st.env.set s (.pv (.bool d))) p.dst v,σ⟩ R W
   | false=>k ⟨Y5 (st.env.set s (.pv (.bool d))) p.dst .undef,st.heap⟩ [] []
  | some .undef=>k ⟨Y5 st.env p.dst .undef,st.heap⟩ [] []
  | _=>.bad 5
def f5m{Q:Leaf->Prop}{T:ZO}{g:Nat}{p:PI}{st:St}{k:St->List Nat->List Nat->DT}(h:(g1s T g p st k).sat Q): ∃ st' R W,Vr T g p st=some (st',R,W)∧(k st' R W).sat Q:=by
 unfold g1s at h;unfold Vr;split at h
 ·rename_i i;obtain⟨a,σ',R',W',h1,h2⟩:=HM.d_ok _ h;exact⟨⟨Y5 st.env p.dst a,σ'⟩,R',W',by simp[WC,i,h1],by simpa using d7h (d6d h2)⟩
 ·rename_i s b i;split at h
  ·rename_i v j;simp only[DT.sat]at h;rw[Sr j]at h;split at h
   ·rename_i e;obtain⟨a,σ',R',W',h1,h2⟩:=HM.d_ok _ h;exact⟨⟨Y5 st.env p.dst a,σ'⟩,R',W',by simp only[WC,i,j,e];simp[h1],by simpa using d7h (d6d h2)⟩
   ·rename_i e;exact⟨⟨Y5 st.env p.dst .undef,st.heap⟩,[],[],by simp only[WC,i,j,e],h⟩
  ·rename_i j;exact⟨⟨Y5 st.env p.dst .undef,st.heap⟩,[],[],by simp[WC,i,j],h⟩
  ·exact h.elim
def e2x{α β:Type}:List α->(List α->β)->β
 | [],k=>k []
 | x::xs,k=>e2x xs λys=>k (x::ys)
def b6p{α β:Type}: ∀ (l:List α) (k:List α->β),e2x l k=k l
 | [],k=>rfl
 | x::xs,k=>by simp only[e2x,b6p xs]
def d8m{β:Type}(st:St)(k:St->β):β:=e2x st.env λenv=>e2x st.heap λσ=>k ⟨env,σ⟩
def Ex{β:Type}(st:St)(k:St->β):d8m st k=k st:=by simp[d8m,b6p]
def h0j(T:ZO)(a:Nat):List (Nat×PI)->St->List FP->(St->List FP->DT)->DT
 | [],st,b,k=>k st b
 | (i,p)::r,st,b,k=>g1s T a p st λst R W=>d8m st λst=>e2x b λb=>h0j T a r st (b++[(i,R,W)]) k
def g8e{Q:Leaf->Prop}{T:ZO}{a:Nat}: ∀ {l:List (Nat×PI)} {st:St} {e:List FP} {k:St->List FP->DT},(h0j T a l st e k).sat Q-> ∃ st' b,runF T a l st=some (st',b)∧(k st' (e++b)).sat Q:=by
 intro l
 induction l with
 | nil=>intro st e k h;exact⟨st,[],rfl,by simpa [h0j]using h⟩
 | cons q l ih=>intro st e k h;obtain⟨i,p⟩:=q;obtain⟨st1,R,W,h1,h2⟩:=f5m h;simp only[Ex,b6p]at h2;obtain⟨j,g,h3,r⟩:=ih h2;exact⟨j,(i,R,W)::g,by simp[runF,h1,h3],by simpa using r⟩
def i9t(T:ZO)(ps:List PI)(deps:Option (List (List Nat)))(st:St)(k:St->DT):DT:=
 h0j T st.heap.length (Ba ps) (grow st (news ps)) [] λst a=>match deps with
  | none=>k st
  | some d=>match b2t d a with|true=>k st|false=>.bad 6
def e1i{Q:Leaf->Prop}{T:ZO}{ps:List PI}{deps:Option (List (List Nat))}{st:St}{k:St->DT}(h:(i9t T ps deps st k).sat Q): ∃ st',Jl T ps deps st=some st'∧(k st').sat Q:=by
 obtain⟨a,tr,h1,h2⟩:=g8e h;rw[ai]at h2;split at h2
 ·have:=EL h1;rw[A8]at this;exact⟨a,this,h2⟩
 ·rename_i d;split at h2
  ·rename_i ht;exact⟨a,by simp[Jl,h1,ht],h2⟩
  ·exact h2.elim
def Nh(T:ZO)(e:Nat):Nat->IC ⊕ XE->List Fr->St->(Gone->DT)->DT
 | 0,_,_,_,_=>.bad 7
 | n+1,.inl ic,K,st,k=>match ic with
  | .skip=>Nh T e n (.inr .normal) K st k
  | .reg ps d=>d8m st λst=>i9t T ps d st λst=>Nh T e n (.inr .normal) K st k
  | .seq a b=>Nh T e n (.inl a) (.seq b::K) st k
  | .cond c a b=>match ev st.env c with
   | .pv (.bool v)=>.ask v λd=>match d with
    | true=>Nh T e n (.inl a) K ⟨Ov st.env c true,st.heap⟩ k
    | false=>Nh T e n (.inl b) K ⟨Ov st.env c false,st.heap⟩ k
   | _=>.bad 8
  | .block id b=>Nh T e n (.inl b) (.blk id::K) st k
  | .loop keep b=>k (.head keep b K st)
  | .exit id=>Nh T e n (.inr (.exit id)) K st k
  | .ret=>Nh T e n (.inr .ret) K st k
  | .ext i sl=>match Gd e sl st with
   | some S=>.leaf (.ext i K S)
   | none=>.bad 16
 | n+1,.inr x,K,st,k=>match K,x with
  | [],.exit _=>.bad 9
  | [],_=>k (.done st)
  | .seq b::K,.normal=>Nh T e n (.inl b) K st k
  | .lp keep b::K,.normal=>k (.head keep b K st)
  | .blk id::K,.exit i=>match i==id with
   | true=>Nh T e n (.inr .normal) K st k
   | false=>Nh T e n (.inr (.exit i)) K st k
  | _::K,x=>Nh T e n (.inr x) K st k
def c8x{T:ZO}{r:Nat}{F:St->Prop}{Q:Leaf->Prop}{k:Gone->DT}(C : ∀ i K S,¬ Q (.ext i K S))(u : ∀ g,(k g).sat Q->g.Good T r F): ∀ (n:Nat) {f:IC ⊕ XE} {K:List Fr} {st:St},(Nh T r n f K st k).sat Q->FN T r F f K st:=by
 intro n
 induction n with
 | zero=>intro f K st h;exact h.elim
 | succ n ih=>
  intro f K st h;cases f with
  | inl ic=>
   cases ic with
   | skip=>exact Zk.ofX ⟨0,rfl⟩ (ih h)
   | reg ps d=>simp only[Nh,Ex]at h;obtain⟨l,h1,h2⟩:=e1i h;exact Zk.ofX (x:=.normal) ⟨0,by simp[W9,h1]⟩ (ih h2)
   | seq a b=>
    obtain⟨j,st',⟨y,l,h1,h2⟩,h3,q⟩:=ih (f:=.inl a) h;refine⟨j,st',?_,h3,q⟩;cases y with
    | normal=>obtain⟨A,z,E,D⟩:=h2;exact⟨A,z,h1.seq E,D⟩
    | exit i=>exact⟨_,l,h1.seqx (by simp),h2⟩
    | ret=>exact⟨_,l,h1.seqx (by simp),h2⟩
   | cond c a b=>
    have fin : ∀ v,ev st.env c = .pv (.bool v)->FN T r F (.inl (if v=true then a else b)) K st->FN T r F (.inl (.cond c a b)) K st:=by intro v s B;obtain⟨j,st',⟨y,l,h1,h2⟩,h3,q⟩:=B;refine⟨j,st',⟨y,l,Uy.cond s ?_,h2⟩,h3,q⟩;cases v <;> exact h1
    simp only[Nh]at h;split at h
    ·rename_i v s;refine fin v s ?_;cases v with
     | true=>rw[if_pos rfl];simp only[DT.sat]at h;rw[UT s]at h;exact ih (f:=.inl a) h
     | false=>rw[if_neg (by simp)];simp only[DT.sat]at h;rw[UT s]at h;exact ih (f:=.inl b) h
    ·exact h.elim
   | block id b=>obtain⟨j,st',⟨y,l,h1,h2⟩,h3,q⟩:=ih (f:=.inl b) h;exact⟨j,st',⟨_,l,h1.block,h2⟩,h3,q⟩
   | loop keep b=>exact u _ h
   | exit id=>exact Zk.ofX ⟨0,rfl⟩ (ih h)
   | ret=>exact Zk.ofX ⟨0,rfl⟩ (ih h)
   | ext i sl=>
    simp only[Nh]at h;split at h
    ·exact(C _ _ _ h).elim
    ·exact h.elim
  | inr x=>
   cases K with
   | nil=>
    cases x with
    | exit i=>exact h.elim
    | normal=>exact⟨_,_,⟨rfl,rfl⟩,rfl,u _ h⟩
    | ret=>exact⟨_,_,⟨rfl,rfl⟩,rfl,u _ h⟩
   | cons fr K=>
    cases fr with
    | seq b=>
     cases x with
     | normal=>obtain⟨j,st',⟨y,l,h1,h2⟩,h3,q⟩:=ih (f:=.inl b) h;exact⟨j,st',⟨y,l,h1,h2⟩,h3,q⟩
     | exit i=>obtain⟨j,st',h1,h2⟩:=ih (f:=.inr (.exit i)) (K:=K) h;exact⟨j,st',by simpa [We]using h1,h2⟩
     | ret=>obtain⟨j,st',h1,h2⟩:=ih (f:=.inr .ret) (K:=K) h;exact⟨j,st',by simpa [We]using h1,h2⟩
    | lp keep b=>
     cases x with
     | normal=>obtain⟨j,st',⟨y,l,h1,h2⟩,h3,q⟩:=u _ h;exact⟨j,st',⟨y,l,h1,h2⟩,h3,q⟩
     | exit i=>obtain⟨j,st',h1,h2⟩:=ih (f:=.inr (.exit i)) (K:=K) h;exact⟨j,st',by simpa [We]using h1,h2⟩
     | ret=>obtain⟨j,st',h1,h2⟩:=ih (f:=.inr .ret) (K:=K) h;exact⟨j,st',by simpa [We]using h1,h2⟩
    | blk id=>
     cases x with
     | normal=>obtain⟨j,st',h1,h2⟩:=ih (f:=.inr .normal) (K:=K) h;exact⟨j,st',by simpa [We]using h1,h2⟩
     | ret=>obtain⟨j,st',h1,h2⟩:=ih (f:=.inr .ret) (K:=K) h;exact⟨j,st',by simpa [We]using h1,h2⟩
     | exit i=>
      simp only[Nh]at h;split at h
      ·rename_i e;have e:i=id:=by simpa using e
       subst e;obtain⟨j,st',h1,h2⟩:=ih (f:=.inr .normal) (K:=K) h;exact⟨j,st',by simpa [We]using h1,h2⟩
      ·rename_i e;have e : ¬ i=id:=by simpa using e
       obtain⟨j,st',h1,h2⟩:=ih (f:=.inr (.exit i)) (K:=K) h;exact⟨j,st',by simpa [We,e]using h1,h2⟩
inductive Md where
 | p|o|f
def Za(rs:List IRes)(G:PV->Prop)(st:St):Prop:= ∃ p,fin st rs=some p∧G p
def ZP(k:Nat)(rs:List IRes)(G:AV×List AObj×List AObj->Prop)(st:St):Prop:= ∃ r,finO k st rs=some r∧G r
def Zl(k:Nat)(rs:List IRes)(G:AV×List AObj×List AObj->Prop)(st:St):Prop:= ∃ r,c8l k st rs=some r∧G r
def Qi(T:ZO)(k:Nat)(a:Md)(rs:List IRes):Gone->DT
 | .head keep b K st=>match Gd k keep st with
  | some S=>.leaf (.head b (.lp keep b::K) S)
  | none=>.bad 10
 | .done st=>match a with
  | .p=>match Wz (a0v st) rs with
   | some vs=>(KM vs).d st.heap [] [] λqs _ _ _=>.leaf (.fin (FY qs))
   | none=>.bad 11
  | .o=>match finO k st rs with
   | some r=>.leaf (.finO r)
   | none=>.bad 12
  | .f=>match Wz (a0v st) rs with
   | some vs=>(KM vs).d st.heap [] [] λqs e _ _=>(Od (Ik k)).d e [] [] λ_ σ _ _=>match Og k (Hd 256 (Ik k) [] σ) [] σ with
    | some (_,os)=>.leaf (.finO (AV.pv (FY qs),os.take k,os.drop k))
    | none=>.bad 13
   | none=>.bad 14
def h9l(T:ZO)(F:St->Prop)(G:PV->Prop):Leaf->Prop
 | .head b K S=>Zk T 0 F b K S
 | .fin p=>G p
 | .finO _=>False
 | .ext _ _ _=>False
def e1e(T:ZO)(k:Nat)(F:St->Prop)(G:AV×List AObj×List AObj->Prop):Leaf->Prop
 | .head b K S=>Zk T k F b K S
 | .fin _=>False
 | .finO r=>G r
 | .ext _ _ _=>False
def g2g{T:ZO}{rs:List IRes}{G:PV->Prop}(g:Gone)(h:(Qi T 0 .p rs g).sat (h9l T (Za rs G) G)):g.Good T 0 (Za rs G):=by
 cases g with
 | head keep b K st=>
  simp only[Qi]at h;split at h
  ·rename_i S e;exact Zk.loop e h
  ·exact h.elim
 | done st=>
  simp only[Qi]at h;split at h
  ·rename_i vs i;obtain⟨a,σ',R',W',h1,h2⟩:=HM.d_ok _ h;exact⟨FY a,by simp[fin,i,I8 _ h1],h2⟩
  ·exact h.elim
def f1h{T:ZO}{k:Nat}{rs:List IRes}{G:AV×List AObj×List AObj->Prop}(g:Gone)(h:(Qi T k .o rs g).sat (e1e T k (ZP k rs G) G)):g.Good T k (ZP k rs G):=by
 cases g with
 | head keep b K st=>
  simp only[Qi]at h;split at h
  ·rename_i S a;exact Zk.loop a h
  ·exact h.elim
 | done st=>
  simp only[Qi]at h;split at h
  ·rename_i r hr;exact⟨r,hr,h⟩
  ·exact h.elim
def f1f{T:ZO}{k:Nat}{rs:List IRes}{G:AV×List AObj×List AObj->Prop}(g:Gone)(h:(Qi T k .f rs g).sat (e1e T k (Zl k rs G) G)):g.Good T k (Zl k rs G):=by
 cases g with
 | head keep b K st=>
  simp only[Qi]at h;split at h
  ·rename_i S i;exact Zk.loop i h
  ·exact h.elim
 | done st=>
  simp only[Qi]at h;split at h
  ·rename_i vs j;obtain⟨qs,σ1,R',W',h1,h2⟩:=HM.d_ok _ h;obtain⟨u,σ,R'',W'',h3,a⟩:=HM.d_ok _ h2;split at a
   ·rename_i ys os e;exact⟨_,by simp only[c8l,j,IK,I8 _ h1,I8 _ h3,e,IG],a⟩
   ·exact a.elim
  ·exact h.elim
inductive Mq:Type 1 where
 | nil|lit (m:Mq)|ask (a b:Mq)|req (m:Mq)|keep (m:Mq)
 | abs (α:Type) (e:α->AV) (m:Mq)
 | abso (α:Type) (e:α->AObj) (m:Mq)
 | skip (m:Mq)
def DT.w(Q:Leaf->Prop):DT->Mq->Prop
 | .ask b k,m=>match m with
  | .ask m1 m2=>if b=true then(k true).w Q m1 else(k false).w Q m2
  | .lit m=>match b with|true=>(k true).w Q m|false=>(k false).w Q m
  | _=>False
 | .req b k,m=>match m with
  | .req m=>b=true∧k.w Q m
  | .lit m=>match b with|true=>k.w Q m|false=>False
  | _=>False
 | .abs v k,m=>match m with
  | .abs α e m=> ∃ y:α,v=e y∧(k (e y)).w Q m
  | .keep m=>(k v).w Q m
  | _=>False
 | .abso o k,m=>match m with
  | .abso α e m=> ∃ y:α,o=e y∧(k (e y)).w Q m
  | .skip m=>(k o).w Q m
  | m=>(k o).w Q m
 | .leaf l,_=>Q l
 | .bad _,_=>False
def DT.w_ok{Q:Leaf->Prop}: ∀ {t:DT} {m:Mq},t.w Q m->t.sat Q:=by
 intro t
 induction t with
 | ask b k ih=>
  intro m h;cases m with
  | ask m1 m2=>
   simp only[DT.w]at h;cases b with
   | true=>rw[if_pos rfl]at h;exact ih _ h
   | false=>rw[if_neg (by simp)]at h;exact ih _ h
  | lit m=>cases b <;> exact ih _ h
  | _=>exact h.elim
 | req b k ih=>
  intro m h;cases m with
  | req m=>exact⟨h.1,ih h.2⟩
  | lit m=>cases b with
   | true=>exact⟨rfl,ih h⟩
   | false=>exact h.elim
  | _=>exact h.elim
 | abs v k ih=>
  intro m h;cases m with
  | abs α e m=>obtain⟨y,rfl,h⟩:=h;exact ih _ h
  | keep m=>exact ih _ h
  | _=>exact h.elim
 | abso o k ih=>
  intro m h;cases m with
  | abso α e m=>obtain⟨y,rfl,h⟩:=h;exact ih _ h
  | _=>exact ih _ h
 | leaf l=>intro m h;exact h
 | bad n=>intro m h;exact h.elim
def tP(T:ZO)(ic:IC)(K:List Fr)(st:St)(rs:List IRes)(m:Mq)(G:PV->Prop):Prop:=(Nh T 0 100000 (.inl ic) K st (Qi T 0 .p rs)).w (h9l T (Za rs G) G) m
def Zk.tp{T:ZO}{ic:IC}{K:List Fr}{st:St}{rs:List IRes}(m:Mq){G:PV->Prop}{A:Prop}(h:A)(e:A=tP T ic K st rs m G:=by kernel_rfl):Zk T 0 (Za rs G) ic K st:=by subst e;exact c8x (λ_ _ _ h=>h) g2g _ (DT.w_ok h)
def tO(T:ZO)(k:Nat)(ic:IC)(K:List Fr)(st:St)(rs:List IRes)(m:Mq)(G:AV×List AObj×List AObj->Prop):Prop:=(Nh T k 100000 (.inl ic) K st (Qi T k .o rs)).w (e1e T k (ZP k rs G) G) m
def Zk.to{T:ZO}{k:Nat}{ic:IC}{K:List Fr}{st:St}{rs:List IRes}(m:Mq){G:AV×List AObj×List AObj->Prop}{A:Prop}(h:A)(e:A=tO T k ic K st rs m G:=by kernel_rfl):Zk T k (ZP k rs G) ic K st:=by subst e;exact c8x (λ_ _ _ h=>h) f1h _ (DT.w_ok h)
def tF(T:ZO)(k:Nat)(ic:IC)(K:List Fr)(st:St)(rs:List IRes)(m:Mq)(G:AV×List AObj×List AObj->Prop):Prop:=(Nh T k 100000 (.inl ic) K st (Qi T k .f rs)).w (e1e T k (Zl k rs G) G) m
def Zk.tf{T:ZO}{k:Nat}{ic:IC}{K:List Fr}{st:St}{rs:List IRes}(m:Mq){G:AV×List AObj×List AObj->Prop}{A:Prop}(h:A)(e:A=tF T k ic K st rs m G:=by kernel_rfl):Zk T k (Zl k rs G) ic K st:=by subst e;exact c8x (λ_ _ _ h=>h) f1f _ (DT.w_ok h)
def At.tp{T:ZO}{ic:IC}{j n:Nat}{l:List (Nat×AV)}{σ:ZN}{rs:List IRes}(m:Mq){G:PV->Prop}{A:Prop}(h:A)(e:A=tP T (hd ic j).1 (hd ic j).2 ⟨Wx n 0 l,σ⟩ rs m G:=by kernel_rfl):At T 0 (Za rs G) ic j n l σ:=Zk.tp m h e
def At.to{T:ZO}{k:Nat}{ic:IC}{j n:Nat}{l:List (Nat×AV)}{σ:ZN}{rs:List IRes}(m:Mq){G:AV×List AObj×List AObj->Prop}{A:Prop}(h:A)(e:A=tO T k (hd ic j).1 (hd ic j).2 ⟨Wx n 0 l,σ⟩ rs m G:=by kernel_rfl):At T k (ZP k rs G) ic j n l σ:=Zk.to m h e
def At.tf{T:ZO}{k:Nat}{ic:IC}{j n:Nat}{l:List (Nat×AV)}{σ:ZN}{rs:List IRes}(m:Mq){G:AV×List AObj×List AObj->Prop}{A:Prop}(h:A)(e:A=tF T k (hd ic j).1 (hd ic j).2 ⟨Wx n 0 l,σ⟩ rs m G:=by kernel_rfl):At T k (Zl k rs G) ic j n l σ:=Zk.tf m h e
section
def Hu(ps qs:List PV):Prop:=ps.length=qs.length∧ ∀ (j:Nat) x y,ps[j]? = some x->qs[j]? = some y-> ∀ Φ v,RP Φ v x->RP Φ v y
def Jw(p q:PV):Prop:=Hu p.cells q.cells∧ ∀ Φ v,RP Φ v p->RP Φ v q
def Hu.nil:Hu [] []:=⟨rfl,λj x y h=>by simp at h⟩
def Hu.cons{a b:PV}{xs ys:List PV}(h : ∀ Φ v,RP Φ v a->RP Φ v b)(k:Hu xs ys):Hu (a::xs) (b::ys):=
 ⟨by simp[k.1],λj x y e g=>match j with
  | 0=>by cases e;cases g;exact h
  | j+1=>k.2 j x y e g⟩
def Hu.append{a b c d:List PV}(h:Hu a c)(k:Hu b d):Hu (a++b) (c++d):=by
 refine⟨by simp[h.1,k.1],λj x y i g=> ?_⟩;rw[ax]at i g;rw[<- h.1]at g;split at i
 ·rename_i e;rw[if_pos e]at g;exact h.2 j x y i g
 ·rename_i e;rw[if_neg e]at g;exact k.2 _ x y i g
def Jw.refl(p:PV):Jw p p:=⟨⟨rfl,λj x y b a Φ v h=>by rw[b]at a;cases a;exact h⟩,λ_ _ h=>h⟩
def Jw.one{p q:PV}(b:p.cells=[p])(a:q.cells=[q])(h : ∀ Φ v,RP Φ v p->RP Φ v q):Jw p q:=⟨by rw[b,a];exact .cons h .nil,h⟩
def Jw.agg{xs ys:List PV}(h:Hu xs ys):Jw (.agg xs) (.agg ys):=by
 refine⟨h,λΦ v k=> ?_⟩;cases k with
 | agg cs _ hn ho hr=>
  refine .agg cs ys (hn.trans h.1) ho λj v y e a=> ?_
  have b:j<xs.length:=by rw[h.1];exact(Ig.1 a).1
  exact h.2 j _ _ (Ib b) a _ _ (hr j v _ e (Ib b))
def Jw.tup{xs ys:List PV}(h:Hu xs ys):Jw (.tup xs) (.tup ys):=by
 refine .one rfl rfl λΦ v k=> ?_
 cases k with
 | tup cs _ hn hr=>
  refine .tup cs ys (hn.trans h.1) λj v y e a=> ?_
  have b:j<xs.length:=by rw[h.1];exact(Ig.1 a).1
  exact h.2 j _ _ (Ib b) a _ _ (hr j v _ e (Ib b))
def Hu.flat: ∀ {xs ys:List PV},xs.length=ys.length->(∀ (j:Nat) x y,xs[j]? = some x->ys[j]? = some y->Jw x y)->Hu (flat xs) (flat ys)
 | [],[],_,_=>.nil
 | x::xs,y::ys,hn,h=>by simp only[Go.Pl.flat,bK];exact(h 0 x y rfl rfl).1.append (Hu.flat (by simpa using hn) λj a b ha hb=>h (j+1) a b ha hb)
 | [],_::_,hn,_=>by simp at hn
 | _::_,[],hn,_=>by simp at hn
def Jw.sl0(s g:Nat)(t:Bool):Jw (.sl s t []) (.sl g false []):=by
 refine .one rfl rfl λΦ v k=> ?_
 cases k with
 | sl0 a c _ _ ht=>exact .sl0 a c g false λe=>by cases e
 | sl b off cs c _ _ _ u hb hc ht hs hu hr=>exact .sl0 _ c g false λe=>by cases e
def Jw.sl{s:Nat}{t:Bool}{xs ys:List PV}(hn:xs.length=ys.length)(h : ∀ (j:Nat) x y,xs[j]? = some x->ys[j]? = some y->Jw x y):Jw (.sl s t xs) (.sl s false ys):=by
 refine .one rfl rfl λΦ v k=> ?_
 cases k with
 | sl0 a c _ _ ht=>
  obtain rfl:ys=[]:=by cases ys;rfl;simp at hn
  exact .sl0 a c s false λe=>by cases e
 | sl b off cs c _ _ _ u hb hc ht hs hu hr=>
  have q:=Hu.flat hn h;rw[hn];refine .sl b off cs c s false ys u hb (by omega) (λe=>by cases e) ?_ ?_ ?_
  ·intro y r;obtain⟨j,g,rfl⟩:=aI r;have i:j<xs.length:=by omega
   rw[<- (h j _ _ (Ib i) (Ib g)).1.1];exact hs _ (List.getElem_mem i)
  ·intro j p l;have g:j<(flat xs).length:=by rw[q.1];exact(Ig.1 l).1
   exact hu j _ (Ib g)
  ·intro j p l;have g:j<(flat xs).length:=by rw[q.1];exact(Ig.1 l).1
   exact q.2 j _ _ (Ib g) l _ _ (hr j _ (Ib g))
class Enc (α:Type) where
 sz:Nat
 enc:α->PV
 dec:PV->α
 is:PV->Bool
 is_enc : ∀ a,is (enc a)=true
 dec_enc : ∀ a,dec (enc a)=a
 sub : ∀ p,is p=true->Jw p (enc (dec p))
open Enc (enc dec is)
attribute [simp] Enc.is_enc Enc.dec_enc
def g9u{α:Type}[Enc α]{a b:α}(h:enc a=enc b):a=b:=by rw[<- Enc.dec_enc a,h,Enc.dec_enc]
@[simp] theorem g2j {α : Type} [Enc α] {a b : α} : enc a = enc b ↔ a = b := ⟨g9u, λh => by rw [h]⟩
instance:Enc Int where
 sz:=1
 enc n:=.int .i64 n
 dec | .int _ n=>n|_=>0
 is | .int .i64 _=>true|_=>false
 is_enc _:=rfl
 dec_enc _:=rfl
 sub p h:=by
  cases p with
  | int k n=>cases k <;> first|exact .refl _|cases h
  | _=>cases h
instance:Enc Bool where
 sz:=1
 enc b:=.bool b
 dec | .bool b=>b|_=>false
 is | .bool _=>true|_=>false
 is_enc _:=rfl
 dec_enc _:=rfl
 sub p h:=by
  cases p with
  | bool b=>exact .refl _
  | _=>cases h
structure Str where
 s:List UInt8
 deriving DecidableEq,Inhabited
instance:Enc Str where
 sz:=1
 enc x:=.str x.s
 dec | .str s=>⟨s⟩|_=>⟨[]⟩
 is | .str _=>true|_=>false
 is_enc _:=rfl
 dec_enc _:=rfl
 sub p h:=by
  cases p with
  | str b=>exact .refl _
  | _=>cases h
instance:Enc UInt8 where
 sz:=1
 enc x:=.int .u8 x.toNat
 dec | .int _ n=>UInt8.ofNat n.toNat|_=>0
 is | .int .u8 n=>decide (0<=n)&&decide (n<256)|_=>false
 is_enc a:=by have:=a.toNat_lt;simp only[Ii,decide_eq_true_eq];omega
 dec_enc a:=by simp
 sub p h:=by
  cases p with
  | int k n=>
   cases k with
   | u8=>
    simp only[Ii,decide_eq_true_eq]at h;have e:((UInt8.ofNat n.toNat).toNat:Int)=n:=by rw[UInt8.toNat_ofNat'];omega
    show Jw _ (.int .u8 ((UInt8.ofNat n.toNat).toNat:Int));rw[e];exact .refl _
   | _=>cases h
  | _=>cases h
section
variable {α:Type} [Enc α]
instance:Enc (List α) where
 sz:=1
 enc l:=.sl (Enc.sz α) false (l.map enc)
 dec | .sl _ _ xs=>xs.map dec|_=>[]
 is | .sl s _ xs=>(xs.isEmpty||s==Enc.sz α)&&xs.all (is α)|_=>false
 is_enc l:=by simp
 dec_enc l:=by simp[aR]
 sub p h:=by
  cases p with
  | sl s t xs=>
   simp only[Ii,bg,List.isEmpty_iff,beq_iff_eq,List.all_eq_true]at h;obtain⟨h1,h2⟩:=h;rcases h1 with rfl|rfl
   ·exact .sl0 _ _ _
   ·refine .sl (by simp) λj x y hx hy=> ?_
    simp only[cK,II,hx,IG,Ie]at hy;subst hy;exact Enc.sub x (h2 x (IZ hx))
  | _=>cases h
end
instance {α β:Type} [Enc α] [Enc β]:Enc (α×β) where
 sz:=1
 enc x:=.tup [enc x.1,enc x.2]
 dec | .tup [a,b]=>(dec a,dec b)|_=>(dec .nilp,dec .nilp)
 is | .tup [a,b]=>is α a&&is β b|_=>false
 is_enc x:=by simp
 dec_enc x:=by simp
 sub p h:=by
  cases p with
  | tup xs=>
   match xs,h with
   | [a,b],h=>simp only[Ii]at h;exact .tup (.cons (Enc.sub a h.1).2 (.cons (Enc.sub b h.2).2 .nil))
  | _=>cases h
structure R3 (α β γ:Type) where
 a:α
 b:β
 c:γ
 deriving DecidableEq
instance {α β γ:Type} [Enc α] [Enc β] [Enc γ]:Enc (R3 α β γ) where
 sz:=1
 enc x:=.tup [enc x.a,enc x.b,enc x.c]
 dec | .tup [a,b,c]=>⟨dec a,dec b,dec c⟩|_=>⟨dec .nilp,dec .nilp,dec .nilp⟩
 is | .tup [a,b,c]=>is α a&&is β b&&is γ c|_=>false
 is_enc x:=by simp
 dec_enc x:=by simp
 sub p h:=by
  cases p with
  | tup xs=>
   match xs,h with
   | [a,b,c],h=>simp only[Ii]at h;exact .tup (.cons (Enc.sub a h.1.1).2 (.cons (Enc.sub b h.1.2).2 (.cons (Enc.sub c h.2).2 .nil)))
  | _=>cases h
class EncL (α:Type) where
 encL:α->List PV
 decL:List PV->α
 isL:List PV->Bool
 is_encL : ∀ a,isL (encL a)=true
 dec_encL : ∀ a,decL (encL a)=a
 subL : ∀ ps,isL ps=true->Hu ps (encL (decL ps))
open EncL (encL decL isL)
attribute [simp] EncL.is_encL EncL.dec_encL
instance:EncL Unit where
 encL _:=[]
 decL _:=()
 isL ps:=ps.isEmpty
 is_encL _:=rfl
 dec_encL _:=rfl
 subL ps h:=by simp at h;subst h;exact .nil
instance {α β:Type} [Enc α] [EncL β]:EncL (α×β) where
 encL x:=enc x.1::encL x.2
 decL|p::ps=>(dec p,decL ps)|[]=>(dec .nilp,decL [])
 isL|p::ps=>is α p&&isL β ps|[]=>false
 is_encL x:=by simp
 dec_encL x:=by simp
 subL ps h:=by
  match ps,h with
  | p::ps,h=>simp only[Ii]at h;exact .cons (Enc.sub p h.1).2 (EncL.subL ps h.2)
def preT{α:Type}[EncL α](pre:α->Bool)(ps:List PV):Bool:=isL α ps&&pre (decL ps)
def Zr{α β:Type}[EncL α][Enc β](F:α->β)(ps:List PV):PV:=enc (F (decL ps))
def ZQ(P:Program)(f:Nat){α β:Type}[EncL α][Enc β](pre:α->Bool)(F:α->β):Prop:=VB P f (preT pre) (Zr F)
def Zg{β:Type}[Enc β](y:β)(p:PV):Prop:=is β p=true∧dec p=y
section
variable {P:Program} {f:Nat} {α β:Type} [EncL α] [Enc β]
@[simp] theorem g4s (pre : α -> Bool) (a : α) : preT pre (encL a) = pre a := by simp [preT]
@[simp] theorem j5g (F : α -> β) (a : α) : Zr F (encL a) = enc (F a) := by simp [Zr]
theorem ZQ.of{T:ZO}{fn:Func}{ic:IC}{rs:List IRes}{pre:α->Bool}{F:α->β}(I:YC P T)(i:P.follows .mixedOrders=true)(K:P.funcs[f]? = some fn)(s:Ox P fn=some ic)
  (z:Wz (XM P) fn.results.toList=some rs) {nt:Nat} (l:fn.ntmps=nt) (h : ∀ a,pre a=true->Zk T 0 (Za rs (Zg (F a))) ic [] (Ym nt (encL a))):ZQ P f pre F:=by
 classical
 have H : ∀ a,pre a=true-> ∃ p,Zk T 0 (λst=>fin st rs=some p) ic [] (Ym nt (encL a))∧Zg (F a) p:=λa ha=>by obtain⟨x,st',h1,h2,p,h3,J⟩:=h a ha;exact⟨p,⟨x,st',h1,h2,h3⟩,J⟩
 obtain⟨g,E⟩ : ∃ g:α->PV,∀ a,pre a=true->Zk T 0 (λst=>fin st rs=some (g a)) ic [] (Ym nt (encL a))∧Zg (F a) (g a):=⟨λa=>if k:pre a=true then(H a k).choose else .nilp,λa ha=>by simp only[dif_pos ha];exact(H a ha).choose_spec⟩
 have r:VB P f (λps=>decide (ps=encL (decL ps:α))&&pre (decL ps)) (λps=>g (decL ps)):=by
  refine Cu I i K s z l λps k=> ?_
  simp only[Ii,decide_eq_true_eq]at k
  have:=(E _ k.2).1;rw[<- k.1]at this;exact this
 intro ps hps Φ w vs M h1 h2;simp only[preT,Ii]at hps;have b:=EncL.subL ps hps.1;have q:Ub Φ vs.toList (encL (decL ps:α)):=by
  refine⟨h2.1.trans b.1,λj v x Q D=> ?_⟩;have C:j<ps.length:=by rw[b.1];exact(Ig.1 D).1
  exact b.2 j _ _ (Ib C) D _ _ (h2.2 j v _ Q (Ib C))
 refine(r (encL (decL ps:α)) (by simp[hps.2]) Φ w vs M h1 q).mono ?_;rintro e w' ⟨v,Φ',rfl,O,L,A,N⟩;refine⟨v,Φ',rfl,O,L,?_,N⟩;simp only[EncL.dec_encL]at A;obtain⟨u,y⟩:=(E _ hps.2).2;have B:=(Enc.sub _ u).2 _ _ A;rw[y]at B;exact B
theorem ZQ.ofPure{pre':List PV->Bool}{val':List PV->PV}{pre:α->Bool}{F:α->β}(h:VB P f pre' val')(z : ∀ a,pre a=true->pre' (encL a)=true∧Zg (F a) (val' (encL a))):ZQ P f pre F:=by
 intro ps hps Φ w vs y h1 h2;simp only[preT,Ii]at hps;have b:=EncL.subL ps hps.1;have g:Ub Φ vs.toList (encL (decL ps:α)):=by
  refine⟨h2.1.trans b.1,λj v x C l=> ?_⟩;have q:j<ps.length:=by rw[b.1];exact(Ig.1 l).1
  exact b.2 j _ _ (Ib q) l _ _ (h2.2 j v _ C (Ib q))
 obtain⟨k1,k,i⟩:=z _ hps.2;refine(h (encL (decL ps:α)) k1 Φ w vs y h1 g).mono ?_;rintro e w' ⟨v,Φ',rfl,A,u,s,B⟩;refine⟨v,Φ',rfl,A,u,?_,B⟩;have r:=(Enc.sub _ k).2 _ _ s;rw[i]at r;exact r
end
def PT{P:Program}{T:ZO}{f:Nat}{fn:Func}{ic:IC}{rs:List IRes}{pre:List AV->List AObj->Bool}{val:List AV->List AObj->AV×List AObj×List AObj}(i:YC P T)(a:P.follows .mixedOrders=true)(j:P.funcs[f]? = some fn)(e:Ox P fn=some ic)
  (g:Wz (XM P) fn.results.toList=some rs) {nt:Nat} (b:fn.ntmps=nt) (h : ∀ args os,pre args os=true->Zk T os.length (ZP os.length rs λr=>r=val args os) ic [] (ZT nt args os)):Y4 P f pre val:=by
 refine i2x i a j e g b λargs os k=> ?_
 obtain⟨x,st',h1,h2,r,h3,rfl⟩:=h args os k;exact⟨x,st',h1,h2,h3⟩
def d7k{xs:List PV}(h:xs.all (is Int)=true):xs=(xs.map (dec:PV->Int)).map enc:=by
 induction xs with
 | nil=>rfl
 | cons x xs ih=>
  simp only[bB,Ii]at h;rw[Iq,Iq,<- ih h.2];congr 1;cases x with
  | int k n=>cases k <;> first|rfl|cases h.1
  | _=>cases h.1
section
variable {α β:Type} [Enc α] [Enc β]
@[simp] theorem h8e (s : Nat) (t : Bool) (xs : List PV) : is (List α) (.sl s t xs) = ((xs.isEmpty || s == Enc.sz α) && xs.all (is α)) := rfl
@[simp] theorem g2e (s : Nat) (t : Bool) (xs : List PV) : (dec (.sl s t xs) : List α) = xs.map dec := rfl
@[simp] theorem i0s (a b : PV) : is (α × β) (.tup [a, b]) = (is α a && is β b) := rfl
@[simp] theorem g7m (a b : PV) : (dec (.tup [a, b]) : α × β) = (dec a, dec b) := rfl
@[simp] theorem i8r (n : Int) : is Int (.int .i64 n) = true := rfl
@[simp] theorem g5p (k : IntKind) (n : Int) : (dec (.int k n) : Int) = n := rfl
@[simp] theorem e0w (b : Bool) : is Bool (.bool b) = true := rfl
@[simp] theorem b9n (b : Bool) : (dec (.bool b) : Bool) = b := rfl
@[simp] theorem g1h (b : List UInt8) : is Str (.str b) = true := rfl
@[simp] theorem e0j (b : List UInt8) : (dec (.str b) : Str) = ⟨b⟩ := rfl
@[simp] theorem d8k : isL Unit [] = true := rfl
@[simp] theorem c1k {γ : Type} [EncL γ] (p : PV) (ps : List PV) : isL (α × γ) (p :: ps) = (is α p && isL γ ps) := rfl
@[simp] theorem c0n : (decL [] : Unit) = () := rfl
@[simp] theorem a8r {γ : Type} [EncL γ] (p : PV) (ps : List PV) : (decL (p :: ps) : α × γ) = (dec p, decL ps) := rfl
end
def Nc{α:Type}(f:α->PV){l:List α}{k:Nat}(h:k<l.length):(l.map f).getD (k:Int).toNat default=f l[k]:=by simp[aM,h]
def GJ{α β:Type}[EncL α][Enc β]{F:α->β}{ps:List PV}{P:β->Prop}(a:α)(h:decL ps=a)(k:P (F a)): ∃ y,AV.pv (Zr F ps)=AV.pv (enc y)∧P y:=⟨F a,by rw[Zr,h],k⟩
def b5b{α:Type}[EncL α]{pre:α->Bool}{ps:List PV}(a:α)(h:isL α ps=true)(h2:decL ps=a)(k:pre a=true):preT pre ps=true:=by rw[preT,h,h2,k];rfl
def Zd{α β:Type}[EncL α][Enc β]{F:α->β}{ps:List PV}{P:β->Prop}(a:α)(h:ps=encL a)(k:P (F a)): ∃ y,AV.pv (Zr F ps)=AV.pv (enc y)∧P y:=GJ a (by rw[h,EncL.dec_encL]) k
def Zh{α:Type}[EncL α]{pre:α->Bool}{ps:List PV}(a:α)(h:ps=encL a)(k:pre a=true):preT pre ps=true:=by rw[h,g4s,k]
@[simp] theorem h5f {α : Type} [Enc α] : (dec : PV -> α) ∘ (enc : α -> PV) = id := by funext x; simp
@[simp] theorem h7f {α : Type} [Enc α] : (is α) ∘ (enc : α -> PV) = λ_ => true := by funext x; simp
@[simp] theorem j7b : Enc.sz Int = 1 := rfl
@[simp] theorem j6e : Enc.sz Bool = 1 := rfl
@[simp] theorem j7a : Enc.sz Str = 1 := rfl
@[simp] theorem j7m : Enc.sz UInt8 = 1 := rfl
@[simp] theorem j6c {α : Type} [Enc α] : Enc.sz (List α) = 1 := rfl
@[simp] theorem FO {α : Type} [Enc α] (l : List α) : (l.map enc).map dec = l := by simp [aR]
@[simp] theorem a1b {α : Type} [Enc α] (l : List α) : (l.map enc).all (is α) = true := by simp
end
open Enc (enc dec is)
open EncL (encL decL isL)
def Qg.below{Φ:Ye}{w w':World}(h:Qg Φ w)(hb:Below w.heap.size w w'):Qg Φ w':=λb cs hc=>by obtain⟨T,fz,a⟩:=h b cs hc;exact⟨T,fz,by rw[hb.block b (Ih.1 a).1];exact a⟩
def a5d{P:Program}{f:Nat}{pre:List PV->Bool}{val:List PV->PV}(h : ∀ ps,pre ps=true-> ∀ Φ w (vs:Array Value),GlobOK Φ->Qg Φ w->Ub Φ vs.toList ps ->
  Calls P f vs w λe w'=> ∃ v,e = .returned v∧RP Φ v (val ps)∧Below w.heap.size w w'):VB P f pre val:=by
 intro ps hps Φ w vs g a i;refine(h ps hps Φ w vs g a i).mono ?_;rintro e w' ⟨v,rfl,h1,h2⟩;exact⟨v,Φ,rfl,.refl _,a.below h2,h1,h2,λb cs hb=>.inl hb⟩
def WS{P:Program}{f:Nat}{α β:Type}[EncL α][Enc β]{pre:α->Bool}{F:α->β}(h : ∀ a,pre a=true-> ∀ Φ w (vs:Array Value),GlobOK Φ->Qg Φ w->Ub Φ vs.toList (encL a) ->
  Calls P f vs w λe w'=> ∃ v,e = .returned v∧RP Φ v (enc (F a))∧Below w.heap.size w w'):ZQ P f pre F:=a5d (by
 intro ps hps Φ w vs q r l;simp only[preT,Ii]at hps;have b:=EncL.subL ps hps.1;refine h (decL ps) hps.2 Φ w vs q r ⟨l.1.trans b.1,λj v x g i=> ?_⟩;have k:j<ps.length:=by rw[b.1];exact(Ig.1 i).1
 exact b.2 j _ _ (Ib k) i _ _ (l.2 j v _ g (Ib k)))
def D9{Φ:Ye}{v:Value}{s:List UInt8}(h:RP Φ v (.str s)):v = .string ⟨s.toArray⟩:=by
 generalize a:PV.str s=q at h;cases h with
 | str b=>cases a;rfl
 | _=>cases a
def g3c{Φ:Ye}{v:Value}{k:IntKind}{n:Int}(h:RP Φ v (.int k n)):v = .int k n:=by cases h;rfl
def i5b{Φ:Ye}{vs:Array Value}{p:PV}(h:Ub Φ vs.toList [p]): ∃ v,vs = #[v]∧RP Φ v p:=by
 obtain⟨vs⟩:=vs
 match vs,h.1 with
 | [v],_=>exact⟨v,rfl,h.2 0 v p rfl rfl⟩
def h6l{Φ:Ye}{vs:Array Value}{p q:PV}(h:Ub Φ vs.toList [p,q]): ∃ u v,vs = #[u,v]∧RP Φ u p∧RP Φ v q:=by
 obtain⟨vs⟩:=vs
 match vs,h.1 with
 | [u,v],_=>exact⟨u,v,rfl,h.2 0 u p rfl rfl,h.2 1 v q rfl rfl⟩
def F4(w:World)(t t':TypeId)(s:ByteArray):Below w.heap.size w (aJ w t s):=⟨by simp[aJ,bF,bQ,bi,-au,-bC],by simp[aJ,bF,bQ,bi,-au,-bC],by simp[aJ,bF,bQ,bi,-au,-bC],by rw[Lib.bytesWorld_size];omega,λk a=>Lib.bytesWorld_at_old w t s k a⟩
def DV{Φ:Ye}{w:World}(b:Qg Φ w){g:Nat}{cs:Array Value}(h:Φ g=some cs){v:Value}(e:cs[0]? = some v):w.cell? ⟨g,0,none⟩=some v:=by obtain⟨T,fz,a⟩:=b g cs h;simp[World.cell?,a,e]
end Go.Pl
namespace Go.Pl
open Go.RowKit
open Go.Sort (Holds putRow putCells)
open Go.Proofs (encStr)
def a8q:PV->List UInt8
 | .str s=>s
 | _=>[]
def b5m:PV->Bool
 | .str _=>true
 | _=>false
def Qw(a:List (List UInt8)):List (List UInt8):=a.mergeSort λx y=>decide (x<=y)
def Q9:List AV->List AObj->Bool
 | [.row 0 n 0 m],[.row false ty 1 xs]=>n==xs.length&&m==n&&xs.all b5m&&decide (n<4611686018427387904)&&ty != 5
 | [.pv (.sl _ _ [])],[]=>true
 | _,_=>false
def JN:List AV->List AObj->AV×List AObj×List AObj
 | [.row _ _ _ _],[.row fz ty sz xs]=>(.tup [],[.row fz ty sz ((Qw (xs.map a8q)).map .str)],[])
 | _,_=>(.tup [],[],[])
def c3e(a:List (List UInt8)):flat (a.map .str)=a.map .str:=by
 induction a with
 | nil=>rfl
 | cons s a ih=>simp only[flat,Iq,bK,PV.cells,List.singleton_append]at ih ⊢;rw[ih]
def g6k{xs:List PV}(h:xs.all b5m=true):xs=(xs.map a8q).map .str:=by
 induction xs with
 | nil=>rfl
 | cons x xs ih=>simp only[bB,Ii]at h;rw[Iq,Iq,<- ih h.2];cases x <;> simp[b5m]at h <;> rfl
def a9o{Φ:Ye}: ∀ {vs:List Value} {a:List (List UInt8)},Ub Φ vs (a.map .str)->vs=a.map encStr
 | [],[],_=>rfl
 | [],_::_,h=>by have:=h.1;simp at this
 | _::_,[],h=>by have:=h.1;simp at this
 | v::vs,s::a,h=>by
  have g:=h.2 0 v (.str s) rfl rfl;have ht:Ub Φ vs (a.map .str):=⟨by have:=h.1;simpa using this,λj u x hu i=>h.2 (j+1) u x hu i⟩
  rw[a9o ht,Iq];congr 1;generalize e:PV.str s=q at g;cases g with
  | str b=>cases e;rfl
  | _=>cases e
def e6c{Φ:Ye}(e:List (List UInt8)):Ub Φ (e.map encStr) (e.map .str):=by
 refine⟨by simp,λj v x a b=> ?_⟩;rw[II]at a b;cases hs:e[j]? with
 | none=>rw[hs]at a;cases a
 | some s=>rw[hs]at a b;cases a;cases b;exact .str ⟨s.toArray⟩
def e5c {P : Program} {f : Nat} (h1 : ∀ (blk off cap : Nat) (q : List (List UInt8)) (w : World), Holds encStr w blk off q.toArray -> blk < w.heap.size -> q.length < 4611686018427387904 ->
   Calls P f #[.slice (some ⟨blk,off,none⟩) q.length cap] w λe w'=>e = .returned (.tuple #[])∧ ∃ n os,w'=aW (putRow encStr (az w n) blk off (q.mergeSort λx y=>decide (x<=y)).toArray) os)
  (h2 : ∀ (p:Option Addr) (cap:Nat) (w:World),Calls P f #[.slice p 0 cap] w λe w'=>e = .returned (.tuple #[])∧w'=w):Y4 P f Q9 JN:=by
 intro args os x os' ext z D;unfold Q9 at z;split at z
 ·rename_i n m ty xs;simp only[Ii,beq_iff_eq,decide_eq_true_eq]at z;obtain⟨⟨⟨⟨rfl,rfl⟩,hs⟩,hn⟩,hty⟩:=z;simp only[JN,Ia]at D;obtain⟨rfl,rfl,rfl⟩:=D;refine⟨rfl,λμ Φ w vs T H=> ?_⟩;obtain⟨vs⟩:=vs
  match vs,H.1 with
  | [v],_=>
   have I:=H.2 0 v _ rfl rfl;obtain⟨B,C,cs,U,e2,O,e4,e5,e6,e7,Z,e9,X⟩:=T.obj 0 (.row false ty 1 xs) rfl;cases I with
   | row l n lo hi B' C' S a h k1 k2 k3 ha=>
    rw[U]at h;cases h;have Q:=ha (.inr rfl);rw[Nat.zero_mul]at Q;subst Q;obtain⟨q,J⟩ : ∃ q,q=xs.map a8q:=⟨_,rfl⟩
    have M:xs=q.map .str:=by rw[J];exact g6k hs
    have A:q.length=xs.length:=by rw[J];simp
    have K:cs.toList.take q.length=q.map encStr:=by
     rw[A];rw[bT,M,c3e]at Z
     have:=a9o Z;rw[IR,A]at this;exact this
    replace O:=O.other (by simpa using hty);have Y:B<w.heap.size:=(Ih.1 O).1;have E:=h1 B 0 (C - 0) q w (holds_of_block O K) Y (by omega);rw[A]at E;refine E.mono ?_;rintro e w' ⟨rfl,k,os,rfl⟩;have r:(Qw q).length=xs.length:=by rw[<- A];exact(List.mergeSort_perm q _).length_eq
    have i:=grownBy_sorted (w:=w) (g:=B) (n:=k) (os:=os) (Qw q).toArray;have F:(aW (putRow encStr (az w k) B 0 (Qw q).toArray) os).heap[B]? = some (.cells (putCells encStr 0 (Qw q).toArray cs) ty (0,0)):=by simp only[aW,putRow,Sort.mapBlock,az];rw[Array.getElem?_append_left (by simpa using Y),Array.getElem?_modify,if_pos rfl,O];rfl
    have L:(putCells encStr 0 (Qw q).toArray cs).size=cs.size:=by simp[putCells]
    have N:=take_putCells cs (Qw q) (by omega);have V:H5 μ Φ (aW (putRow encStr (az w k) B 0 (Qw q).toArray) os) 0 (.row false ty 1 ((Qw q).map .str)):=by
     refine⟨B,C,_,by rw[IR,r];exact U,λn hn=>e2 n (by rw[IR,r]at hn;exact hn),.of F,by rw[L];exact e4,by rw[IR,r];exact e5,e6,?_,?_,?_,X⟩
     ·intro y hy;obtain⟨s,_,rfl⟩:=I7.1 hy;rfl
     ·rw[IR,bT,N,c3e];exact e6c _
     ·rw[IR,bT,N];intro v H;obtain⟨s,_,rfl⟩:=I7.1 H;rfl
    refine⟨_,μ,Φ,rfl,?_,.tup _ _ rfl (λj v x H M=>by simp at M)⟩;rw[<- J];exact T.put (l:=0) (o:=.row false ty 1 xs) rfl rfl (aS _) (λ_ _ _=>rfl) i.os i.tape i.output i.size
     (λb hb W=>i.block b hb (λe=>W (by cases e;simp[blk,U]))) V (.inl (by simp[blk,r]))
 ·rename_i sz t;simp only[JN,Ia]at D;obtain⟨rfl,rfl,rfl⟩:=D;refine⟨rfl,λμ Φ w vs T H=> ?_⟩;obtain⟨vs⟩:=vs
  match vs,H.1 with
  | [v],_=>
   have I:=Xa (H.2 0 v _ rfl rfl);obtain⟨p,cap,rfl⟩ : ∃ p cap,v = .slice p 0 cap:=by
    cases I with
    | sl0 a c sz t h=>exact⟨_,_,rfl⟩
    | sl b off cs c sz t xs u hb hc ht hs hu hr=>exact⟨_,_,rfl⟩
   refine(h2 p cap w).mono ?_;rintro e w' ⟨rfl,rfl⟩;exact⟨_,μ,Φ,rfl,T,.tup _ _ rfl (λj v x H M=>by simp at M)⟩
 ·cases z
end Go.Pl
namespace Go.Pl
open Go.RowKit
open Enc (enc dec is)
open EncL (encL decL isL)
section
abbrev XP:=Exit->Act->World->Prop
def a8c(K:Act->World->Prop)(Q:XP):XP
 | .normal,a,w=>K a w
 | e,a,w=>Q e a w
structure Lg (P:Program) (T:ZO) where
 W:Code->XP->Act->World->Prop
 Lp:Code->XP->Act->World->Prop
 mono : ∀ {c:Code} {Q Q':XP} {a w},W c Q a w->(∀ e a w,Q e a w->Q' e a w)->W c Q' a w
 skip : ∀ {Q:XP} {a w},Q .normal a w->W .skip Q a w
 label : ∀ {l:Nat} {Q:XP} {a w},Q .normal a w->W (.label l) Q a w
 exit : ∀ {id:Nat} {Q:XP} {a w},Q (.exit id) a w->W (.exit id) Q a w
 ret : ∀ {Q:XP} {a w},Q .ret a w->W .ret Q a w
 seq : ∀ {x y:Code} {Q:XP} {a w},W x (a8c (W y Q) Q) a w->W (.seq x y) Q a w
 cond : ∀ {c:Operand} {x y:Code} {b:Bool} {Q:XP} {a w},a.eval c = .bool b->W (if b=true then x else y) Q a w->W (.cond c x y) Q a w
 block : ∀ {id:Nat} {x:Code} {Q:XP} {a w},W x (IU id Q) a w->W (.block id x) Q a w
 loop : ∀ {x:Code} {Q:XP} {a w},Lp x Q a w->W (.loop x) Q a w
 round : ∀ {x:Code} {Q:XP} {a w},W x (a8c (Lp x Q) Q) a w->Lp x Q a w
 reg : ∀ {c:Ctx} {id:Nat} {ops:Array Oper} {draw:Bool} {ps:List PI} {deps:Option (List (List Nat))} {Q:XP} {st st':St} {a w},XL P ops 0 ops.toList=some ps ->
  (draw=true-> ∃ d,deps=some d∧AQ ops.toList d=true∧Ls d ps=true)->(draw=false->deps=none)->VL c st a w->Jl T ps deps st=some st'->(∀ a w,VL c st' a w->Q .normal a w)->W (.region id ops draw) Q a w
def NK{A B C:Prop}(f:A->C)(e:A=B):B->C:=λh=>f (e.mpr h)
abbrev GO:=AV×List AObj×List AObj->Prop
def VN(A:Prop)(G:PV->Prop)(m:Mq)(T:ZO)(rs:List IRes)(ic:IC)(st:St){B:Prop}(e:A=B)(a:A=tP T ic [] st rs m G:=by kernel_rfl):B->Zk T 0 (Za rs G) ic [] st:=λh=>Zk.tp m (e.mpr h) a
def Vp(A:Prop)(G:PV->Prop)(m:Mq)(T:ZO)(rs:List IRes)(ic:IC)(j n:Nat)(l:List (Nat×AV))(σ:ZN){B:Prop}(e:A=B)(a:A=tP T (hd ic j).1 (hd ic j).2 ⟨Wx n 0 l,σ⟩ rs m G:=by kernel_rfl):B->At T 0 (Za rs G) ic j n l σ:=λh=>At.tp m (e.mpr h) a
def Gc(A:Prop)(G:GO)(m:Mq)(T:ZO)(k:Nat)(rs:List IRes)(ic:IC)(st:St){B:Prop}(e:A=B)(a:A=tF T k ic [] st rs m G:=by kernel_rfl):B->Zk T k (Zl k rs G) ic [] st:=λh=>Zk.tf m (e.mpr h) a
def Ll(A:Prop)(G:GO)(m:Mq)(T:ZO)(k:Nat)(rs:List IRes)(ic:IC)(j n:Nat)(l:List (Nat×AV))(σ:ZN){B:Prop}(e:A=B)(a:A=tF T k (hd ic j).1 (hd ic j).2 ⟨Wx n 0 l,σ⟩ rs m G:=by kernel_rfl):B->At T k (Zl k rs G) ic j n l σ:=λh=>At.tf m (e.mpr h) a
def ck_{α:Type}{x:Option α}{a b:α}(h:x=some a)(e:a=b:=by kernel_rfl):x=some b:=h.trans (congrArg some e)
def c1s(K:Act->World->Prop)(Q:XP):a8c K Q=Exit.then K Q:=by funext e a w;cases e <;> rfl
def h2g(P:Program)(g:Code)(Q:XP)(a:Act)(w:World):Prop:=∀ (b:Frame) (k:List Item) (cs:List Frame),∃ e a' w',Q e a' w'∧Arrives P (lone (b.at a (.code g:: .inLoop g::k)) cs w) b k cs e a' w'
def Eh{P:Program}{T:ZO}(z:YC P T)(q:P.follows .mixedOrders=true):Lg P T where
 W c Q a w:=c.wp P Q a w
 Lp:=h2g P
 mono h i:=wp_mono h i
 skip h:=wp_skip h
 label h:=wp_label h
 exit h:=wp_exit h
 ret h:=wp_ret h
 seq h:=by rw[c1s]at h;exact wp_seq h
 cond hc h:=wp_cond hc h
 block h:=wp_block h
 loop h:=λb k cs=>by obtain⟨e,a',w',i,g⟩:=h b k cs;exact⟨e,a',w',i,.of_steps (.one step_loop) g⟩
 round {x Q a w} h:=λb k cs=>by
  obtain⟨e,r,s,i,g⟩:=h b (.inLoop x::k) cs;cases e with
  | normal=>obtain⟨B,A,y,u,j⟩:=i b k cs;exact⟨B,A,y,u,.of_steps (Steps.trans g (.one step_inLoop)) j⟩
  | exit id=>exact⟨_,r,s,i,.pass (x:=.inLoop x) rfl (λ_ _=>.inl (by simp)) g⟩
  | goto l=>exact⟨_,r,s,i,.pass (x:=.inLoop x) rfl (λ_ _=>.inl (by simp)) g⟩
  | ret=>exact⟨_,r,s,i,.pass (x:=.inLoop x) rfl (λ_ _=>.inl (by simp)) g⟩
  | panic ch=>exact⟨_,r,s,i,.pass (x:=.inLoop x) rfl (λ_ _=>.inl (by simp)) g⟩
  | outgrown=>exact⟨_,r,s,i,.pass (x:=.inLoop x) rfl (λ_ _=>.inl (by simp)) g⟩
 reg hps hd hd' hr hrun hQ:=f3g z q hps hd hd' hr hrun hQ
abbrev VT:=Nat->St->(XE->St->Prop)->Prop
inductive TrX (P:Program) (XS:Nat->Code->Prop):Code->IC->Prop
 | skip:TrX P XS .skip .skip
 | label (l:Nat):TrX P XS (.label l) .skip
 | reg (id:Nat) (ops:Array Oper) (draw:Bool) (ps:List PI) (deps:Option (List (List Nat))) (hps:XL P ops 0 ops.toList=some ps)
   (hd:draw=true-> ∃ d,deps=some d∧AQ ops.toList d=true∧Ls d ps=true) (hd':draw=false->deps=none):TrX P XS (.region id ops draw) (.reg ps deps)
 | seq {a b:Code} {x y:IC} (h:TrX P XS a x) (k:TrX P XS b y):TrX P XS (.seq a b) (.seq x y)
 | cond {c:Operand} {d:IOp} {a b:Code} {x y:IC} (hc:YL c=some d) (h:TrX P XS a x) (k:TrX P XS b y):TrX P XS (.cond c a b) (.cond d x y)
 | block {id:Nat} {a:Code} {x:IC} (h:TrX P XS a x):TrX P XS (.block id a) (.block id x)
 | loop {keep:List Nat} {a:Code} {x:IC} (h:TrX P XS a x):TrX P XS (.loop a) (.loop keep x)
 | exit (id:Nat):TrX P XS (.exit id) (.exit id)
 | ret:TrX P XS .ret .ret
 | ext {n:Nat} {sl:List Nat} {cd:Code} (h:XS n cd):TrX P XS cd (.ext n sl)
def Tr.x{P:Program}{XS:Nat->Code->Prop}{c:Code}{x:IC}(h:Tr P c x):TrX P XS c x:=by
 induction h with
 | skip=>exact .skip
 | label l=>exact .label l
 | reg id ops draw ps deps hps hd hd'=>exact .reg id ops draw ps deps hps hd hd'
 | seq h k ih1 ih2=>exact .seq ih1 ih2
 | cond hc h k ih1 ih2=>exact .cond hc ih1 ih2
 | block h ih=>exact .block ih
 | loop h ih=>exact .loop ih
 | exit id=>exact .exit id
 | ret=>exact .ret
inductive FrC where
 | seq (b:Code)|blk (id:Nat)|lp (b:Code)
inductive TrK (P:Program) (XS:Nat->Code->Prop):List FrC->List Fr->Prop
 | nil:TrK P XS [] []
 | seq {b:Code} {x:IC} {Kc:List FrC} {K:List Fr} (h:TrX P XS b x) (k:TrK P XS Kc K):TrK P XS (.seq b::Kc) (.seq x::K)
 | blk {id:Nat} {Kc:List FrC} {K:List Fr} (k:TrK P XS Kc K):TrK P XS (.blk id::Kc) (.blk id::K)
 | lp {b:Code} {keep:List Nat} {x:IC} {Kc:List FrC} {K:List Fr} (h:TrX P XS b x) (k:TrK P XS Kc K):TrK P XS (.lp b::Kc) (.lp keep x::K)
section
variable {P:Program} {T:ZO}
def KW(L:Lg P T):List FrC->XP->XP
 | [],Q=>Q
 | .seq b::K,Q=>a8c (L.W b (KW L K Q)) (KW L K Q)
 | .blk id::K,Q=>IU id (KW L K Q)
 | .lp b::K,Q=>a8c (L.Lp b (KW L K Q)) (KW L K Q)
def i2u(c:Ctx)(F:St->Prop):XP:=λe a w=>(e = .normal∨e = .ret)∧ ∃ st,F st∧VL c st a w
def g4d(L:Lg P T)(XS:Nat->Code->Prop)(E:VT)(c:Ctx):Prop:=∀ n cd,XS n cd-> ∀ (st:St) (a:Act) (w:World) (q:XE->St->Prop),VL c st a w->E n st q->L.W cd (λe a' w'=> ∃ x st',e=x.ex∧q x st'∧VL c st' a' w') a w
end
def Xp(T:ZO)(E:VT)(k:Nat)(F:St->Prop)(f:IC ⊕ XE)(K:List Fr)(st:St):Prop:=
 ∀ (P:Program) (L:Lg P T) (XS:Nat->Code->Prop) (c:Ctx),g4d L XS E c->(∀ i m,k<=i->c.μ0 i m=none)-> ∀ Kc,TrK P XS Kc K-> ∀ a w,VL c st a w ->
  match f with
  | .inl ic=> ∀ cd,TrX P XS cd ic->L.W cd (KW L Kc (i2u c F)) a w
  | .inr x=>KW L Kc (i2u c F) x.ex a w
abbrev BC(T:ZO)(E:VT)(k:Nat)(F:St->Prop)(ic:IC)(K:List Fr)(st:St):Prop:=Xp T E k F (.inl ic) K st
def FR(T:ZO)(E:VT)(k:Nat)(F:St->Prop)(G:PV->Prop)(H:AV×List AObj×List AObj->Prop):Leaf->Prop
 | .head b K S=>BC T E k F b K S
 | .fin p=>G p
 | .finO r=>H r
 | .ext n K S=>E n S λx S'=>Xp T E k F (.inr x) K S'
def e2g{c:Ctx}{st:St}{a:Act}{w:World}{o:Operand}{d:IOp}{b:Bool}(hr:VL c st a w)(ho:YL o=some d)(h:ev st.env d = .pv (.bool b)):a.eval o = .bool b:=by have e:=Yj hr.choose_spec.choose_spec.2.1 ho;rw[h]at e;have g:=Xa e;generalize hq:a.eval _=q at g;cases g;rfl
def g3a{T:ZO}{E:VT}{s:Nat}{F:St->Prop}{z:Leaf->Prop}{k:Gone->DT}(J : ∀ n K S,z (.ext n K S)->E n S λx S'=>Xp T E s F (.inr x) K S')
  (D : ∀ st,(k (.done st)).sat (z)->F st) (H : ∀ keep b K st,(k (.head keep b K st)).sat (z)-> ∃ S,Gd s keep st=some S∧BC T E s F b (.lp keep b::K) S) :
  ∀ (n:Nat) {f:IC ⊕ XE} {K:List Fr} {st:St},(Nh T s n f K st k).sat (z)->Xp T E s F f K st:=by
 intro n
 induction n with
 | zero=>intro f K st h;exact h.elim
 | succ n ih=>
  intro f K st h P L XS c q j Kc g a w hr;cases f with
  | inl ic=>
   intro cd r;cases ic with
   | skip=>
    have:=ih h P L XS c q j Kc g a w hr;cases r with
    | skip=>exact L.skip this
    | label l=>exact L.label this
   | reg ps d=>
    simp only[Nh,Ex]at h;obtain⟨st1,h1,h2⟩:=e1i h;cases r with
    | reg id ops draw _ _ hps hd hd'=>exact L.reg hps hd hd' hr h1 λa w hr=>ih h2 P L XS c q j Kc g a w hr
   | seq x y=>
    cases r with
    | seq h1 h2=>exact L.seq (ih (f:=.inl x) h P L XS c q j (.seq _::Kc) (.seq h2 g) a w hr _ h1)
   | cond o x y=>
    cases r with
    | cond hc h1 h2=>
     simp only[Nh]at h;split at h
     ·rename_i v C;refine L.cond (e2g hr hc C) ?_;cases v with
      | true=>simp only[DT.sat]at h;rw[UT C]at h;exact ih (f:=.inl x) h P L XS c q j Kc g a w hr _ h1
      | false=>simp only[DT.sat]at h;rw[UT C]at h;exact ih (f:=.inl y) h P L XS c q j Kc g a w hr _ h2
     ·exact h.elim
   | block id x=>
    cases r with
    | block h1=>exact L.block (ih (f:=.inl x) h P L XS c q j (.blk id::Kc) (.blk g) a w hr _ h1)
   | loop keep x=>
    cases r with
    | loop h1=>obtain⟨S,A,u⟩:=H _ _ _ _ h;exact L.loop (L.round (u P L XS c q j (.lp _::Kc) (.lp h1 g) a w (d7l j hr A) _ h1))
   | exit id=>
    have:=ih h P L XS c q j Kc g a w hr;cases r with
    | exit _=>exact L.exit this
   | ret=>
    have:=ih h P L XS c q j Kc g a w hr;cases r with
    | ret=>exact L.ret this
   | ext i sl=>
    cases r with
    | ext hx=>
     simp only[Nh]at h;split at h
     ·rename_i S u;refine L.mono (q i cd hx S a w _ (d7l j hr u) (J _ _ _ h)) ?_;rintro e a' w' ⟨x,st',rfl,I,B⟩;exact I P L XS c q j Kc g a' w' B
     ·exact h.elim
  | inr x=>
   cases g with
   | nil=>
    cases x with
    | exit i=>exact h.elim
    | normal=>exact⟨.inl rfl,_,D _ h,hr⟩
    | ret=>exact⟨.inr rfl,_,D _ h,hr⟩
   | @seq b y Kc K hb g=>
    cases x with
    | normal=>exact ih (f:=.inl y) h P L XS c q j Kc g a w hr b hb
    | exit i=>exact ih (f:=.inr (.exit i)) (K:=K) h P L XS c q j Kc g a w hr
    | ret=>exact ih (f:=.inr .ret) (K:=K) h P L XS c q j Kc g a w hr
   | @lp b keep y Kc K hb g=>
    cases x with
    | normal=>obtain⟨S,A,u⟩:=H _ _ _ _ h;exact L.round (u P L XS c q j (.lp _::Kc) (.lp hb g) a w (d7l j hr A) _ hb)
    | exit i=>exact ih (f:=.inr (.exit i)) (K:=K) h P L XS c q j Kc g a w hr
    | ret=>exact ih (f:=.inr .ret) (K:=K) h P L XS c q j Kc g a w hr
   | @blk id Kc K g=>
    cases x with
    | normal=>exact ih (f:=.inr .normal) (K:=K) h P L XS c q j Kc g a w hr
    | ret=>exact ih (f:=.inr .ret) (K:=K) h P L XS c q j Kc g a w hr
    | exit i=>
     simp only[Nh]at h;show IU id (KW L Kc (i2u c F)) (.exit i) a w;split at h
     ·rename_i e;have e:i=id:=by simpa using e
      subst e
      have:=ih (f:=.inr .normal) (K:=K) h P L XS c q j Kc g a w hr;simp only[IU,if_pos];exact this
     ·rename_i e;have e : ¬ i=id:=by simpa using e
      have:=ih (f:=.inr (.exit i)) (K:=K) h P L XS c q j Kc g a w hr;simp only[IU,if_neg e];exact this
def f9y{T:ZO}{E:VT}{a:Nat}{F:St->Prop}{G:PV->Prop}{H:AV×List AObj×List AObj->Prop}{k:Gone->DT}
  (e : ∀ st,(k (.done st)).sat (FR T E a F G H)->F st) (g : ∀ keep b K st,(k (.head keep b K st)).sat (FR T E a F G H)-> ∃ S,Gd a keep st=some S∧BC T E a F b (.lp keep b::K) S)
  (n:Nat) {f:IC ⊕ XE} {K:List Fr} {st:St} (h:(Nh T a n f K st k).sat (FR T E a F G H)):Xp T E a F f K st:=g3a (λ_ _ _ h=>h) e g n h
def a3y{T:ZO}{E:VT}{k:Nat}{F:St->Prop}{e:Md}{rs:List IRes}{G:PV->Prop}{H:AV×List AObj×List AObj->Prop}(keep:List Nat)(b:IC)(K:List Fr)(st:St)(h:(Qi T k e rs (.head keep b K st)).sat (FR T E k F G H)): ∃ S,Gd k keep st=some S∧BC T E k F b (.lp keep b::K) S:=by
 simp only[Qi]at h;split at h
 ·rename_i S a;exact⟨S,a,h⟩
 ·exact h.elim
def g9t{T:ZO}{E:VT}{k:Nat}{F:St->Prop}{rs:List IRes}{G:PV->Prop}{H:AV×List AObj×List AObj->Prop}(st:St)(h:(Qi T k .p rs (.done st)).sat (FR T E k F G H)):Za rs G st:=by
 simp only[Qi]at h;split at h
 ·rename_i vs b;obtain⟨a,σ',R',W',h1,h2⟩:=HM.d_ok _ h;exact⟨FY a,by simp[fin,b,I8 _ h1],h2⟩
 ·exact h.elim
def g9x{T:ZO}{E:VT}{k:Nat}{F:St->Prop}{rs:List IRes}{G:PV->Prop}{H:AV×List AObj×List AObj->Prop}(st:St)(h:(Qi T k .o rs (.done st)).sat (FR T E k F G H)):ZP k rs H st:=by
 simp only[Qi]at h;split at h
 ·rename_i r hr;exact⟨r,hr,h⟩
 ·exact h.elim
def mP(T:ZO)(E:VT)(f:IC ⊕ XE)(K:List Fr)(st:St)(rs:List IRes)(m:Mq)(G:PV->Prop):Prop:=(Nh T 0 100000 f K st (Qi T 0 .p rs)).w (FR T E 0 (Za rs G) G λ_=>False) m
def Xp.mp{T:ZO}{E:VT}{f:IC ⊕ XE}{K:List Fr}{st:St}{rs:List IRes}(m:Mq){G:PV->Prop}{A:Prop}(h:A)(e:A=mP T E f K st rs m G:=by kernel_rfl):Xp T E 0 (Za rs G) f K st:=by subst e;exact f9y (λst h=>g9t st h) a3y _ (DT.w_ok h)
def mO(T:ZO)(E:VT)(k:Nat)(f:IC ⊕ XE)(K:List Fr)(st:St)(rs:List IRes)(m:Mq)(G:AV×List AObj×List AObj->Prop):Prop:=(Nh T k 100000 f K st (Qi T k .o rs)).w (FR T E k (ZP k rs G) (λ_=>False) G) m
def Xp.mo{T:ZO}{E:VT}{k:Nat}{f:IC ⊕ XE}{K:List Fr}{st:St}{rs:List IRes}(m:Mq){G:AV×List AObj×List AObj->Prop}{A:Prop}(h:A)(e:A=mO T E k f K st rs m G:=by kernel_rfl):Xp T E k (ZP k rs G) f K st:=by subst e;exact f9y (λst h=>g9x st h) a3y _ (DT.w_ok h)
def h7b(T:ZO)(k:Nat):Gone->DT
 | .head keep b K st=>match Gd k keep st with
  | some S=>.leaf (.head b (.lp keep b::K) S)
  | none=>.bad 10
 | .done st=>.leaf (.head .skip [] st)
def j4g(T:ZO)(E:VT)(k:Nat)(F:St->Prop)(G:ZN->Prop):Leaf->Prop
 | .head b (fr::K) S=>BC T E k F b (fr::K) S
 | .head _ [] S=>G S.heap
 | .fin _=>False
 | .finO _=>False
 | .ext n K S=>E n S λx S'=>Xp T E k F (.inr x) K S'
def mH(T:ZO)(E:VT)(k:Nat)(f:IC ⊕ XE)(K:List Fr)(st:St)(m:Mq)(G:ZN->Prop):Prop:=(Nh T k 100000 f K st (h7b T k)).w (j4g T E k (λst=>G st.heap) G) m
def Xp.mh{T:ZO}{E:VT}{k:Nat}{f:IC ⊕ XE}{K:List Fr}{st:St}(m:Mq){G:ZN->Prop}{A:Prop}(h:A)(e:A=mH T E k f K st m G:=by kernel_rfl):Xp T E k (λst=>G st.heap) f K st:=by
 subst e;refine g3a (λ_ _ _ h=>h) (λst h=>h) (λkeep b K st h=> ?_) _ (DT.w_ok h);simp only[h7b]at h;split at h
 ·rename_i S a;exact⟨S,a,h⟩
 ·exact h.elim
def R4:IC->List Fr->List (Nat×List Fr)
 | .seq a b,K=>R4 a (.seq b::K)++R4 b K
 | .cond _ a b,K=>R4 a K++R4 b K
 | .block id b,K=>R4 b (.blk id::K)
 | .loop keep b,K=>R4 b (.lp keep b::K)
 | .ext n _,K=>[(n,K)]
 | _,_=>[]
def xK(ic:IC)(i:Nat):List Fr:=(((R4 ic []).find? (·.1==i)).map (·.2)).getD []
def AtM(T:ZO)(E:VT)(k:Nat)(F:St->Prop)(ic:IC)(j n:Nat)(l:List (Nat×AV))(σ:ZN):Prop:=Xp T E k F (.inl (hd ic j).1) (hd ic j).2 ⟨Wx n 0 l,σ⟩
def AfX(T:ZO)(E:VT)(k:Nat)(F:St->Prop)(ic:IC)(i:Nat)(x:XE)(st:St):Prop:=Xp T E k F (.inr x) (xK ic i) st
/-- A mask as a number: each hexadecimal digit a step (0 the end,1 a demand,2 a test that is computed,3 a datum kept,4 a test with both ways,the first one's length in three digits;5 .. a datum named anew). -/
def dm(l:List (Mq->Mq)):Nat->Nat->Mq
 | 0,_=>.nil
 | f+1,n=>
  if n % 16=0 then .nil
  else if n % 16=1 then .req (dm l f (n / 16))
  else if n % 16=2 then .lit (dm l f (n / 16))
  else if n % 16=3 then .keep (dm l f (n / 16))
  else if n % 16=4 then .ask (dm l f (n / 65536 % 16 ^ (n / 16 % 4096))) (dm l f (n / 65536 / 16 ^ (n / 16 % 4096)))
  else(l.getD (n % 16 - 5) id) (dm l f (n / 16))
open Enc in
def dv(α:Type)[Enc α](m:Mq):Mq:=.abs α (λy=>AV.pv (enc y)) m
open Enc in
def dr(α:Type)[Enc α](m:Mq):Mq:=.abs α (λy=>AV.pv (PV.rptr (PV.cells (enc y)))) m
def dO(α:Type)[EncL α](m:Mq):Mq:=.abso α (λy=>AObj.box (cO AV.pv (EncL.encL y))) m
end
end Go.Pl
namespace Go.Pl
open Go.RowKit
section
abbrev Xy(r:Option Nat):Fence:={aD with round:=r}
def b0r{r:Option Nat}{n:Nat}{P:Program}{f:FuncId}{args:Array Value}{w:World}{R:Ending->World->Prop}:CallsIn (Xy r) n P f args w R ↔ Calls P f args w R:=callsIn_wide
def Cf{r:Option Nat}{ρ:Operand->Value}{o:Oper}(h : ∀ c,o.op ≠ .defer c):o.semAt r ρ=execOp ρ o:=by
 cases r with
 | none=>rw[Oper.semAt_none]
 | some l=>exact Oper.semAt_some l ρ o h
def b3s{P:Program}{o:Op}{p:POp}(h:Gz P o=some p): ∀ c,o ≠ .defer c:=by rintro c rfl;simp[Gz]at h
abbrev wd(ds:List Deferred)(a:Act):Act:={a with defers:=ds}
def Qp(ds:List Deferred)(a:Act):(wd ds a).eval=a.eval:=by funext o;cases o <;> rfl
def Ak(ds:List Deferred)(a:Act)(d:Option Tmp)(v:Value):(wd ds a).put d v=wd ds (a.put d v):=by cases d <;> rfl
def Kn{a:Act}(h:a.defers=[]):wd [] a=a:=by cases a;simp only at h;subst h;rfl
section
variable {P:Program} {c:Ctx} {T:ZO} {rd:Option Nat} {nn:Nat} {ds:List Deferred}
theorem RX(B:YC P T){ops:Array Oper}{Q:Exit->Act->World->Prop}{i L l:Nat}{o:Oper}{p:PI}{K:Act->World->Prop}{st st':St}{a:Act}{w:World}(ho:ops[i]? = some o)(g:QM P ops L o=some p)
  (hr:VL c st a w) (hs:PY T l p st=some st') (z : ∀ a' w',VL c st' a' w'->K (wd ds a') w'):wpOpIn (Xy rd) nn P ops Q i K (wd ds a) w:=by
 obtain⟨μ,Φ,hg,he,hd⟩:=hr;have r : ∃ q,Gz P o.op=some q∧p.op=q∧p.dst=o.dst:=by
  unfold QM at g;split at g
  ·rw[Cm]at g;obtain⟨q,k,rfl⟩:=g;exact⟨q,k,rfl,rfl⟩
  ·simp only[Ic,Cm]at g;obtain⟨s,_,q,k,rfl⟩:=g;exact⟨q,k,rfl,rfl⟩
 obtain⟨q,k,C,A⟩:=r;unfold wpOpIn;simp only[ho];unfold PY at hs;split at hs
 ·cases hs
 ·rename_i y;cases hs;rw[Ei g he y];simp only[aN,if_false];refine⟨λ_ _=>trivial,?_⟩;rw[Ak];refine z _ _ ⟨μ,Φ,hg,?_,by rw[Xt];exact hd⟩;rw[<- A];exact Ur he .undef
 ·rename_i y;rw[Cm]at hs;obtain⟨⟨v,σ⟩,h1,rfl⟩:=hs;rw[Ei g he y];simp only[if_true];rw[C]at h1;have b:=e1d B k hg he h1;have fin : ∀ u w',YJ c μ Φ σ v u w'->K ((wd ds a).put o.dst u) w':=by rintro u w' ⟨μ',Φ',k1,k2,k3,k4⟩;rw[Ak];refine z _ _ ⟨μ',Φ',k3,?_,by rw[Xt];exact hd⟩;rw[<- A];exact Ur (he.mono k1 k2) k4
  unfold Oper.wpIn;refine⟨λ_ _=>trivial,?_⟩;rw[show(Xy rd).round=rd from rfl,Cf (b3s k),Qp];unfold QV at b;cases j:(execOp a.eval o).run P w with
  | halt h w'=>rw[j]at b;exact b.elim
  | ok n w'=>
   rw[j]at b;cases n <;> simp only at b
   ·exact fin _ _ b
   ·exact fin _ _ b
   ·refine⟨λh=>by simp[aD]at h,b0r.2 (Calls.mono b ?_)⟩;rintro e w'' ⟨u,rfl,hu⟩;exact fin _ _ hu
   all_goals exact b.elim
theorem c3o(k:YC P T){ops:Array Oper}{Q:Exit->Act->World->Prop}{b:Nat}{e:St}(u : ∀ a w,VL c e a w->Q .normal (wd ds a) w): ∀ (l:List (Nat×PI)) (st:St) (a:Act) (w:World),
  (∀ q∈l,∃ o L,ops[q.1]? = some o∧QM P ops L o=some q.2)->VL c st a w->Jm T b (l.map (·.2)) st=some e->wpOpsIn (Xy rd) nn P ops Q (l.map (·.1)) (wd ds a) w:=by
 intro l
 induction l with
 | nil=>intro st a w _ hr h;simp[Jm]at h;subst h;exact u a w hr
 | cons q l ih=>intro st a w j hr h;simp only[Iq,Jm,Ic]at h;obtain⟨g,h1,h2⟩:=h;obtain⟨o,L,ho,r⟩:=j q (by simp);rw[Iq,wpOpsIn_cons];exact RX k ho r hr h1 (λa' w' i=>ih g a' w' (λz s=>j z (by simp[s])) i h2)
theorem c3r(hT:YC P T){ops:Array Oper}{dep:Nat->Nat->Bool}(hE:Edges ops dep){Q:Exit->Act->World->Prop}{base:Nat}{stF:St}(hQ : ∀ a w,VL c stF a w->Q .normal (wd ds a) w): ∀ (fuel:Nat) (b:Array Bool) (rest:List (Nat×PI)) (st:St) (a:Act) (w:World) (tr:List FP),
  fuel=rest.length->b.size=ops.size->(∀ i,i<ops.size->(b[i]? = some false ↔ i∈rest.map (·.1)))->(∀ q∈rest,q.1<ops.size∧ ∃ o L,ops[q.1]? = some o∧QM P ops L o=some q.2) ->
  (rest.map (·.1)).Pairwise (· < ·)->rest.Pairwise (λx y=>dep x.1 y.1=true∨apartP x.2 y.2=true)->(∀ d i,i<ops.size->dep d i=true->i ∉ rest.map (·.1)->d ∉ rest.map (·.1)) ->
  VL c st a w->runF T base rest st=some (stF,tr)->tr.Pairwise (λx y=>dep x.1 y.1=true∨fpOK x y=true)->wpAnyIn (Xy rd) nn P .any ops Q fuel b (wd ds a) w:=by
 intro fuel
 induction fuel with
 | zero=>
  intro b rest st a w tr hf hl hm hi l U S hr E X;have:rest=[]:=List.eq_nil_of_length_eq_zero hf.symm;subst this;simp[runF]at E;obtain⟨rfl,_⟩:=E;refine⟨?_,hQ a w hr⟩;unfold aX;rw[List.filter_eq_nil_iff];intro i s;simp only[bq]at s
  have:=hm i s;simp only[bG,List.not_mem_nil,iff_false]at this;have C:i<b.size:=by omega
  have e:b[i]? = some b[i]:=Il C;rw[e]at this;have ht:b[i]=true:=by
   cases hb:b[i]with
   | true=>rfl
   | false=>rw[hb]at this;exact absurd rfl this
  simp[Im,e,ht]
 | succ fuel ih=>
  intro b rest st a w tr hf hl hm hi l U S hr E X;have hmem : ∀ i,i<ops.size->b.getD i true=false->i∈rest.map (·.1):=by
   intro i J hg;refine(hm i J).1 ?_;have C:i<b.size:=by omega
   have e:b[i]? = some b[i]:=Il C;simp[Im,e]at hg;rw[e,hg]
  have V : ∀ i,b.getD i false=true->i<ops.size∧i ∉ rest.map (·.1):=by
   intro i hg;have C:i<b.size:=by
    rcases bH i b.size with h|h
    ·exact h
    ·simp[Im,Array.getElem?_eq_none h]at hg
   have e:b[i]? = some b[i]:=Il C;simp[Im,e]at hg;refine⟨by omega,λF=> ?_⟩
   have:=(hm i (by omega)).2 F;rw[e,hg]at this;cases this
  refine⟨?_,?_⟩
  ·intro Y;exfalso;cases rest with
   | nil=>simp at hf
   | cons q rest=>
    obtain⟨h1,o,L,ho,_⟩:=hi q (by simp);have F:q.1∈aX .any ops b:=by
     unfold aX;rw[aF];refine⟨by simpa using h1,?_⟩;have e1:b[q.1]? = some false:=(hm q.1 h1).2 (by simp);simp only[ho,IG,bW,Ii];refine⟨by simp[Im,e1],?_⟩;rw[bL];intro k hk;cases hb:cZ .any o.after[k]with
     | false=>simp
     | true=>
      have hon:=hE.fwd q.1 o ho o.after[k] (bM hk) hb;have C:o.after[k].on<ops.size:=by omega
      have N:o.after[k].on ∉ (q::rest).map (·.1):=by
       intro Z;rw[Iq,bI]at l;rcases I1.1 Z with h|h
       ·have h:o.after[k].on=q.1:=h;omega
       ·have:q.1<o.after[k].on:=l.1 _ h;omega
      have hlt':o.after[k].on<b.size:=by omega
      have e2:b[o.after[k].on]? = some b[o.after[k].on]:=Il hlt';have e3:b[o.after[k].on]=true:=by
       cases hb2:b[o.after[k].on]with
       | true=>rfl
       | false=>exact absurd ((hm _ C).1 (by rw[e2,hb2])) N
      simp[Im,e2,e3]
    rw[Y]at F;cases F
  ·intro i s;unfold aX at s;rw[aF]at s;obtain⟨s,M⟩:=s;simp only[bq]at s;simp only[Ii,aQ]at M;obtain⟨hl0,hready⟩:=M;have F:=hmem i s hl0;obtain⟨q,hq,hqi⟩:=I7.1 F;obtain⟨A,B,hAB⟩:=List.append_of_mem hq;obtain⟨j,p⟩:=q;simp only at hqi;subst hqi;subst hAB;obtain⟨_,o,L,ho,hp⟩:=hi (j,p) hq;simp only at ho hp;simp only[ho,IG,bW]at hready;rw[bL]at hready;have z : ∀ e∈o.after,cZ .any e=true->b.getD e.on false=true:=by
    intro e he hb;obtain⟨k,hk,rfl⟩:=Array.getElem_of_mem he
    have:=hready k hk;simpa [hb]using this
   have hA : ∀ q∈A,dep q.1 j=false∧apartP q.2 p=true:=by
    intro q hqA;have hd:dep q.1 j=false:=by
     cases D:dep q.1 j with
     | false=>rfl
     | true=>
      exfalso;obtain⟨e,he,hb,g⟩:=hE.clo j o q.1 ho D;obtain⟨h1,h2⟩:=V _ (z e he hb);have O:q.1∈(A++(j,p)::B).map (·.1):=I7.2 ⟨q,by simp[hqA],rfl⟩;rcases g with g|g
      ·rw[g]at O;exact h2 O
      ·exact S q.1 e.on h1 g h2 O
    refine⟨hd,?_⟩;rw[bA]at U
    have:=U.2.2 q hqA (j,p) (by simp);rcases this with h|h
    ·simp only at h;rw[hd]at h;cases h
    ·exact h
   obtain⟨st1,R,W,tr',k1,k2,k3,k4⟩:=h8l A E hA X;refine RX hT ho hp hr (RZ k1) ?_;intro a' w' hr';have I:(A++B).Sublist (A++(j,p)::B):=List.Sublist.append (List.Sublist.refl _) (List.sublist_cons_self _ _);have K:((A++B).map (·.1)).Sublist ((A++(j,p)::B).map (·.1)):=I.map _;have hjn:j ∉ (A++B).map (·.1):=by
    rw[I5,Iq,bA]at l;obtain⟨s1,s2,s3⟩:=l;rw[bI]at s2;intro hj;rw[I5,IX]at hj;rcases hj with hj|hj
    ·have:=s3 j hj j (by simp);omega
    ·have:=s2.1 j hj;omega
   have hmm : ∀ H,H≠j->(H∈(A++B).map (·.1) ↔ H∈(A++(j,p)::B).map (·.1)):=by
    intro H u;rw[I5,I5,Iq,IX,IX,I1];constructor
    ·rintro(h|h)
     ·exact .inl h
     ·exact .inr (.inr h)
    ·rintro(h|h|h)
     ·exact .inl h
     ·exact absurd h u
     ·exact .inr h
   refine ih (b.setIfInBounds j true) (A++B) st1 a' w' tr' (by simp at hf ⊢;omega) (by simpa using hl) ?_ (λq hq=>hi q (I.subset hq)) (l.sublist K) (U.sublist I) ?_ hr' k2 (X.sublist k3)
   ·intro H J;by_cases u:H=j
    ·subst u;rw[Array.getElem?_setIfInBounds_self_of_lt (by omega)];simp only[Ie,Bool.true_eq_false,false_iff];exact hjn
    ·rw[Ip (Ne.symm u),hm H J,hmm H u]
   ·intro d H J D N hdin;have r:=K.subset hdin;by_cases u:H=j
    ·subst u;obtain⟨e,he,hb,g⟩:=hE.clo H o d ho D;obtain⟨h1,h2⟩:=V _ (z e he hb);rcases g with g|g
     ·rw[g]at r;exact h2 r
     ·exact S d e.on h1 g h2 r
    ·exact S d H J D (λh=>N ((hmm H u).2 h)) r
theorem c2a(A:YC P T)(k:P.follows .mixedOrders=true){id:Nat}{ops:Array Oper}{draw:Bool}{ps:List PI}{deps:Option (List (List Nat))}(hps:XL P ops 0 ops.toList=some ps)
  (hd:draw=true-> ∃ d,deps=some d∧AQ ops.toList d=true∧Ls d ps=true) (hd':draw=false->deps=none) {Q:Exit->Act->World->Prop} {st st':St} {a:Act} {w:World} (hr:VL c st a w) (b:Jl T ps deps st=some st')
  (B : ∀ a w,VL c st' a w->Q .normal (wd ds a) w):(Code.region id ops draw).wpIn (Xy rd) nn P Q (wd ds a) w:=by
 obtain⟨e,y⟩:=a1p hps;have g : ∀ q∈Ba ps,q.1<ops.size∧ ∃ o L,ops[q.1]? = some o∧QM P ops L o=some q.2:=by
  intro q s;have r:=c0f s;have hlt:=(Ig.1 r).1;have j:q.1<ops.size:=by simp at e;omega
  obtain⟨L,E⟩:=y q.1 ops[q.1] q.2 (by simp[j]) r;exact⟨j,ops[q.1],L,Il j,E⟩
 cases draw with
 | false=>
  rw[hd' rfl]at b;refine wpIn_region ?_
  have:=c3o (rd:=rd) (nn:=nn) (ds:=ds) A (ops:=ops) (Q:=Q) B (Ba ps) (Pl.grow st (news ps)) a w (λq s=>(g q s).2) (hr.grow _) (by rw[A8];exact b);rw[UQ,e]at this;simpa using this
 | true=>
  obtain⟨d,rfl,D,ha⟩:=hd rfl;simp only[Jl,Ic]at b;obtain⟨⟨st1,C⟩,b,hif⟩:=b;simp only at hif;split at hif
  ·rename_i u;cases hif;refine wpIn_region_any k ?_;have z:VL c (Pl.grow st (news ps)) a {w with drawn:=w.drawn+1}:=by obtain⟨μ,Φ,hg,he',hd2⟩:=hr.grow (news ps);exact⟨μ,Φ,hg.drew,he',hd2⟩
   have F:ops.size=(Ba ps).length:=by have:=congrArg aK (UQ ps);simp at this e;omega
   refine c3r A (a8a D) B ops.size (IW ops.size false) (Ba ps) (Pl.grow st (news ps)) a _ C F (by simp) ?_ g ?_ ?_ ?_ z b ?_
   ·intro i hi;rw[UQ];have:i<ps.length:=by simp at e;omega
    simp[hi,this]
   ·rw[UQ];exact List.pairwise_lt_range
   ·exact(S9 ha).imp (λh=>by simpa using h)
   ·intro d' i hi _ l;exfalso;apply l;rw[UQ];simp at e ⊢;omega
   ·exact(S9 u).imp (λh=>by simpa using h)
  ·cases hif
def c7s(rd:Option Nat)(nn:Nat)(P:Program)(g:Code)(Q:XP)(a:Act)(w:World):Prop:=∀ (b:Frame) (k:List Item) (cs:List Frame),b.roundOf=(Xy rd).round->(Xy rd).fn b.fn->(Xy rd).room (cs.length+1+nn)-> ∃ e a' w',Q e a' w'∧ArrivesIn (Machine.fenced P (Xy rd)) P (lone (b.atR a (.code g:: .inLoop g::k)) cs w) b k cs e a' w'
def a2o(rd:Option Nat)(nn:Nat){P:Program}{T:ZO}(A:YC P T)(r:P.follows .mixedOrders=true):Lg P T where
 W c Q a w:=c.wpIn (Xy rd) nn P Q a w
 Lp:=c7s rd nn P
 mono h i:=Iz h i
 skip h:=wpIn_skip h
 label h:=wpIn_label h
 exit h:=wpIn_exit h
 ret h:=wpIn_ret h
 seq h:=by rw[c1s]at h;exact wpIn_seq h
 cond hc h:=wpIn_cond hc h
 block h:=wpIn_block h
 loop h:=λb k cs j hb hr=>by obtain⟨e,a',w',i,g⟩:=h b k cs j hb hr;exact⟨e,a',w',i,.of_steps (.one (fenced_calm hb hr rfl) stepR_loop) g⟩
 round {x Q a w} h:=λb k cs j hb hr=>by
  obtain⟨e,s,u,i,g⟩:=h b (.inLoop x::k) cs j hb hr;cases e with
  | normal=>obtain⟨C,B,z,y,q⟩:=i b k cs j hb hr;exact⟨C,B,z,y,.of_steps (StepsIn.trans g (.one (fenced_calm hb hr rfl) stepR_inLoop)) q⟩
  | exit id=>exact⟨_,s,u,i,.pass (x:=.inLoop x) rfl (λ_ _=>.inl (by simp)) g⟩
  | goto l=>exact⟨_,s,u,i,.pass (x:=.inLoop x) rfl (λ_ _=>.inl (by simp)) g⟩
  | ret=>exact⟨_,s,u,i,.pass (x:=.inLoop x) rfl (λ_ _=>.inl (by simp)) g⟩
  | panic ch=>exact⟨_,s,u,i,.pass (x:=.inLoop x) rfl (λ_ _=>.inl (by simp)) g⟩
  | outgrown=>exact⟨_,s,u,i,.pass (x:=.inLoop x) rfl (λ_ _=>.inl (by simp)) g⟩
 reg hps hd hd' hr hrun hQ:=by have e:=Kn hr.choose_spec.choose_spec.2.2;show Code.wpIn _ _ _ _ _ _ _;rw[<- e];exact c2a (rd:=rd) (nn:=nn) (ds:=[]) A r hps hd hd' hr hrun (λa w h=>by rw[Kn h.choose_spec.choose_spec.2.2];exact hQ a w h)
end
end
open Enc (enc dec is)
open EncL (encL decL isL)
section
def b3d:Operand->List Nat
 | .tmp t=>[t]
 | _=>[]
def K7:Code->List Nat
 | .region _ ops _=>ops.toList.flatMap λo=>o.op.operands.toList.flatMap b3d++(match o.op with | .call c=>(match c.callee with | .value f=>b3d f|_=>[])|_=>[])
 | .seq a b=>K7 a++K7 b
 | .cond c a b=>b3d c++(K7 a++K7 b)
 | .block _ a | .loop a | .scope a=>K7 a
 | .rangeFunc f _ a b=>b3d f++(K7 a++K7 b)
 | _=>[]
def D5(P:Program)(sel:Code->Bool):Code->Nat->Option (IC×List Code)
 | .seq a b,n=>if sel (.seq a b)then some (.ext n (K7 (.seq a b)).eraseDups,[.seq a b])else(D5 P sel a n).bind λ(x,l)=>(D5 P sel b (n+l.length)).map λ(y,m)=>(.seq x y,l++m)
 | .cond c a b,n=>(YL c).bind λd=>(D5 P sel a n).bind λ(x,l)=>(D5 P sel b (n+l.length)).map λ(y,m)=>(.cond d x y,l++m)
 | .block id a,n=>if sel (.block id a)then some (.ext n (K7 a).eraseDups,[.block id a])else(D5 P sel a n).map λ(x,l)=>(.block id x,l)
 | .loop a,n=>(D5 P sel a n).map λ(x,l)=>(.loop [] x,l)
 | .scope a,n=>if sel (.scope a)then some (.ext n (K7 a).eraseDups,[.scope a])else none
 | c,n=>if sel c then some (.ext n (K7 c).eraseDups,[c])else(Um P c).map λx=>(x,[])
def g1j{P:Program}{sel:Code->Bool}{XS:Nat->Code->Prop}: ∀ {c:Code} {n:Nat} {x:IC} {l:List Code},D5 P sel c n=some (x,l)->(∀ (i:Nat) cd,l[i]? = some cd->XS (n+i) cd)->TrX P XS c x:=by
 have g : ∀ {c:Code} {n:Nat} {x:IC} {l:List Code},(if sel c then some (IC.ext n (K7 c).eraseDups,[c])else(Um P c).map λx=>(x,[]))=some (x,l)->(∀ (i:Nat) cd,l[i]? = some cd->XS (n+i) cd)->TrX P XS c x:=by
  intro c n x l h e;split at h
  ·simp only[Ie,Ia]at h;obtain⟨rfl,rfl⟩:=h;exact .ext (e 0 c rfl)
  ·rw[Cm]at h;obtain⟨y,h1,h2⟩:=h;simp only[Ia]at h2;obtain⟨rfl,rfl⟩:=h2;exact(AY h1).x
 intro c
 induction c with
 | seq a b iha ihb=>
  intro n x l h e;simp only[D5]at h;split at h
  ·simp only[Ie,Ia]at h;obtain⟨rfl,rfl⟩:=h;exact .ext (e 0 _ rfl)
  ·simp only[Ic,Cm]at h;obtain⟨⟨y,j⟩,h1,⟨z,k⟩,h2,h3⟩:=h;simp only[Ia]at h3;obtain⟨rfl,rfl⟩:=h3;refine .seq (iha h1 λi cd hi=>e i cd ?_) (ihb h2 λi cd hi=> ?_)
   ·rw[I6 (Ig.1 hi).1];exact hi
   ·have:=e (j.length+i) cd (by rw[aO (by omega)];simpa using hi)
    rwa [bz]
 | cond c a b iha ihb=>
  intro n x l h e;simp only[D5,Ic,Cm]at h;obtain⟨d,h0,⟨y,j⟩,h1,⟨z,k⟩,h2,h3⟩:=h;simp only[Ia]at h3;obtain⟨rfl,rfl⟩:=h3;refine .cond h0 (iha h1 λi cd hi=>e i cd ?_) (ihb h2 λi cd hi=> ?_)
  ·rw[I6 (Ig.1 hi).1];exact hi
  ·have:=e (j.length+i) cd (by rw[aO (by omega)];simpa using hi)
   rwa [bz]
 | block id a ih=>
  intro n x l h e;simp only[D5]at h;split at h
  ·simp only[Ie,Ia]at h;obtain⟨rfl,rfl⟩:=h;exact .ext (e 0 _ rfl)
  ·rw[Cm]at h;obtain⟨⟨y,j⟩,h1,h3⟩:=h;simp only[Ia]at h3;obtain⟨rfl,rfl⟩:=h3;exact .block (ih h1 e)
 | loop a ih=>intro n x l h e;simp only[D5,Cm]at h;obtain⟨⟨y,j⟩,h1,h3⟩:=h;simp only[Ia]at h3;obtain⟨rfl,rfl⟩:=h3;exact .loop (ih h1 e)
 | scope a ih=>
  intro n x l h e;simp only[D5]at h;split at h
  ·simp only[Ie,Ia]at h;obtain⟨rfl,rfl⟩:=h;exact .ext (e 0 _ rfl)
  ·cases h
 | skip=>intro n x l h e;exact g h e
 | label _=>intro n x l h e;exact g h e
 | region _ _ _=>intro n x l h e;exact g h e
 | rangeFunc _ _ _ _ _ _=>intro n x l h e;exact g h e
 | exit _=>intro n x l h e;exact g h e
 | goto _=>intro n x l h e;exact g h e
 | ret=>intro n x l h e;exact g h e
 | refuse _=>intro n x l h e;exact g h e
def e8z{P:Program}{XS:Nat->Code->Prop}: ∀ {c:Code} {x:IC},TrX P XS c x-> ∀ (ex:List (Nat×List Nat)) (out l:List Nat),TrX P XS c (DU ex out x l).1:=by
 intro c x h
 induction h with
 | skip=>intro ex out l;exact .skip
 | label n=>intro ex out l;exact .label n
 | reg id ops draw ps deps hps hd hd'=>intro ex out l;exact .reg id ops draw ps deps hps hd hd'
 | seq h k ih1 ih2=>intro ex out l;exact .seq (ih1 _ _ _) (ih2 _ _ _)
 | cond hc h k ih1 ih2=>intro ex out l;exact .cond hc (ih1 _ _ _) (ih2 _ _ _)
 | block h ih=>intro ex out l;exact .block (ih _ _ _)
 | loop h ih=>intro ex out l;exact .loop (ih _ _ _)
 | exit id=>intro ex out l;exact .exit id
 | ret=>intro ex out l;exact .ret
 | ext h=>intro ex out l;exact .ext h
def icX(P:Program)(sel:Code->Bool)(f:Func):Option (IC×List Code):=(f.body.bind λb=>D5 P sel b 0).map λ(x,l)=>((DU [] (f.results.toList.map e1m) x []).1,l)
def c3a(P:Program)(sel:Code->Bool)(f:Func):Option IC:=(icX P sel f).map (·.1)
def Tk(P:Program)(sel:Code->Bool)(f:Func)(n:Nat):Option Code:=(icX P sel f).bind λx=>x.2[n]?
def c2t{P:Program}{sel:Code->Bool}{f:Func}{ic:IC}(h:c3a P sel f=some ic): ∃ cd,f.body=some cd∧TrX P (λn cd=>Tk P sel f n=some cd) cd ic:=by unfold c3a at h;rw[Cm]at h;obtain⟨⟨y,l⟩,h1,rfl⟩:=h;have a:=h1;unfold icX at h1;simp only[Cm,Ic]at h1;obtain⟨⟨x,l'⟩,⟨b,hb,e⟩,h3⟩:=h1;simp only[Ia]at h3;obtain⟨rfl,rfl⟩:=h3;exact⟨b,hb,e8z (g1j e λi cd hi=>by simp only[Tk,a,IK,aY];exact hi) _ _ _⟩
section
variable {P:Program} {T:ZO} {E:VT} {f:Nat} {fn:Func} {ic:IC} {rs:List IRes}
theorem i5o{Φ:Ye}{w w':World}{a':Act}{st:St}{r:PV}(z:Wz (XM P) fn.results.toList=some rs)(hr:VL (entry (λ_ _=>none) Φ [] w) st a' w')(a:fin st rs=some r):
  a'.defers=[]∧ ∃ v,(results fn a'.tmps).run P w' = .ok v w'∧ ∃ v' g,I4 v = .returned v'∧Ye.le Φ g∧Qg g w'∧RP g v' r∧Below w.heap.size w w'∧ ∀ b cs,g b=some cs->Φ b=some cs∨w.heap.size<=b:=by
 obtain⟨μ,Φ',hg',he',hd'⟩:=hr;refine⟨hd',?_⟩;unfold fin at a;simp only[Ic,Ie]at a;obtain⟨xs,hxs,⟨qs,σ2⟩,hfr,hq⟩:=a;obtain⟨A,s,i⟩:=KN hg' he' z hxs;obtain⟨Φ2,f1,f2,f3⟩:=Kz xs hfr hg' i;refine⟨_,s,_,Φ2,rfl,f2.Φle,f2.phi,?_,⟨f2.os,f2.tape,f2.output,f2.size,λk C=>f2.frame k C (by rintro⟨l,o,h,_⟩;simp at h)⟩,?_⟩
 ·rw[<- hq]
  match A,qs,f3 with
  | [],[],_=>exact .tup _ _ rfl (λj v x h=>by simp at h)
  | [u],[q],f3=>exact f3.2 0 u q rfl rfl
  | D::u2::A,q1::q2::qs,f3=>
   have e : ¬ ((D::u2::A).toArray.size=1):=by simp
   rw[dif_neg e];exact .tup _ _ (by have:=f3.1;simpa using this) (λj v x F B=>f3.2 j v x (by simpa using F) B)
  | [],_::_,f3=>have:=f3.1;simp at this
  | _::_,[],f3=>have:=f3.1;simp at this
  | [_],_::_::_,f3=>have:=f3.1;simp at this
  | _::_::_,[_],f3=>have:=f3.1;simp at this
 ·intro b cs y;rcases f2.dom b cs y with h|h|h
  ·exact .inl h
  ·exact .inr h
  ·obtain⟨l,o,h,_⟩:=h;simp at h
theorem i7b{μ:Mu}{Φ:Ye}{os k ext:List AObj}{x:AV}{w w':World}{a':Act}{st:St}(B:Wz (XM P) fn.results.toList=some rs)(D : ∀ i m,os.length<=i->(entry μ Φ (Xl os) w).μ0 i m=none)(hr:VL (entry μ Φ (Xl os) w) st a' w')(b:finO os.length st rs=some (x,k,ext)):
  a'.defers=[]∧ ∃ v,(results fn a'.tmps).run P w' = .ok v w'∧ ∃ v' g l,I4 v = .returned v'∧Good (entry μ Φ (Xl os) w) g l (Xl (k++ext)) w'∧R g l v' x:=by
 obtain⟨μ',Φ',hg',he',hd'⟩:=hr;unfold finO at b;simp only[Ic,Cm]at b;obtain⟨xs,hxs,⟨ys,os2⟩,hpk,e⟩:=b;simp only[Ia]at e;obtain⟨rfl,rfl,rfl⟩:=e;obtain⟨s,hlen2⟩:=Ap hpk;refine⟨hd',?_⟩;obtain⟨r,A,y⟩:=KN hg' he' B hxs;have z:XN μ' Φ' r.toArray xs:=by simpa [XN]using y
 obtain⟨k1,a⟩:=Vu D hg' z s;refine⟨_,A,_,μ'.ren (Hd 256 (Ik os.length++Ho xs) [] st.heap),Φ',rfl,?_,?_⟩
 ·rw[IQ];exact k1
 ·replace a:RL (μ'.ren (Hd 256 (Ik os.length++Ho xs) [] st.heap)) Φ' r ys:=by simpa [XN]using a
  match r,ys,a with
  | [],[],_=>exact .tup _ _ rfl (λj v x h=>by simp at h)
  | [u],[q],a=>exact a.2 0 u q rfl rfl
  | F::u2::r,q1::q2::qs,a=>
   have e : ¬ ((F::u2::r).toArray.size=1):=by simp
   rw[dif_neg e];exact .tup _ _ (by have:=a.1;simpa using this) (λj v x H C=>a.2 j v x (by simpa using H) C)
  | [],_::_,a=>have:=a.1;simp at this
  | _::_,[],a=>have:=a.1;simp at this
  | [_],_::_::_,a=>have:=a.1;simp at this
  | _::_::_,[_],a=>have:=a.1;simp at this
theorem j2w{sel:Code->Bool}{pre:List AV->List AObj->Bool}{val:List AV->List AObj->AV×List AObj×List AObj}(C:YC P T)(b:P.follows .mixedOrders=true)(F:P.funcs[f]? = some fn)(A:c3a P sel fn=some ic)
  (B:Wz (XM P) fn.results.toList=some rs) {nt:Nat} (u:fn.ntmps=nt) (I : ∀ args os,pre args os=true-> ∀ c:Ctx,(∀ i m,os.length<=i->c.μ0 i m=none)->g4d (Eh C b) (λn cd=>Tk P sel fn n=some cd) E c) (H : ∀ args os,pre args os=true->(val args os).2.1.length=os.length)
  (h : ∀ args os,pre args os=true->BC T E os.length (ZP os.length rs λr=>r=val args os) ic [] (ZT nt args os)):Y4 P f pre val:=by
 obtain⟨cd,hb,y⟩:=c2t A;subst u;intro args os x os' ext a g;refine⟨by have:=H args os a;rw[g]at this;exact this,?_⟩;intro μ Φ w vs D j;refine calls_of_wp F hb ?_;have l:vs.size=args.length:=by have:=j.1;simpa using this
 have s:VL (entry μ Φ (Xl os) w) (ZT fn.ntmps args os) {tmps:=vs++IW (fn.ntmps - vs.size) undef,defers:=[]} w:=by refine⟨μ,Φ,D,?_,rfl⟩;show RL _ _ _ _;rw[IV,IL,l];exact j.append (Wl _)
 have z : ∀ i m,os.length<=i->(entry μ Φ (Xl os) w).μ0 i m=none:=by intro i m hi;refine D.fresh i m (.inl ?_);rw[Ij];simp[Xl];exact hi
 refine wp_mono (h args os a P (Eh C b) _ _ (I args os a _ z) z [] .nil _ w s cd y) ?_;rintro e a' w' ⟨he,st,⟨r,q,k⟩,hr⟩;rw[g]at k;subst k;have done:=i7b B z hr q;rcases he with rfl|rfl
 ·exact done
 ·exact done
end
noncomputable def Xq(f:Func):IC:=(Ox Proofs.Tryz.prog f).getD .skip
noncomputable def icx(s:Code->Bool)(f:Func):IC:=(c3a Proofs.Tryz.prog s f).getD .skip
end
end Go.Pl
namespace Go.Pl
open Go.RowKit
def Good.freezeBox{c:Ctx}{μ:Mu}{Φ:Ye}{σ:ZN}{w:World}{l:Nat}{ps:List PV}(h:Good c μ Φ σ w)(u:σ[l]? = some (.obj (.box (ps.map .pv)))):
  ∃ Φ' B C S cs,Φ.le Φ'∧Good c μ Φ' (σ.set l .dead) w∧μ l 0=some (B,C,S)∧Φ' B=some cs∧Ub Φ cs.toList ps∧X5 cs.toList:=by
 obtain⟨B,C,S,T,cs,h1,h2,h3,E,I⟩:=h.obj l _ u;have i:blk μ l (.box (ps.map .pv))=B:=by simp[blk,h1]
 have r:Φ.le (Φ.add B cs):=by
  intro b x a;unfold Ye.add;split
  ·rename_i e;subst e;rw[I]at a;cases a
  ·exact a
 have hps:Ub Φ cs.toList ps:=by refine⟨by have:=h3.1;simpa using this,λj v p J F=> ?_⟩;exact Xa (h3.2 j v (.pv p) J (by simp[II,F]))
 refine⟨Φ.add B cs,B,C,S,cs,r,?_,h1,by simp[Ye.add],hps,E⟩;have s:l<σ.length:=(Ig.1 u).1;have g : ∀ l' o,(σ.set l .dead)[l']? = some (.obj o)->l'≠l∧σ[l']? = some (.obj o):=by
  intro l' o a;by_cases e:l=l'
  ·subst e;rw[IB s]at a;cases a
  ·rw[Iu e]at a;exact⟨λK=>e K.symm,a⟩
 constructor
 ·intro b x a;unfold Ye.add at a;split at a
  ·rename_i e;subst e;cases a;exact⟨_,_,h2⟩
  ·exact h.phi b x a
 ·intro l' o a;obtain⟨q,a⟩:=g l' o a;have hb:=h.apart l' l o _ q a u;rw[i]at hb;exact((h.obj l' o a).keep (aS _) (λ_=>rfl) r (by simp[Ye.add,hb]) rfl).1
 ·intro A D y z q k1 H;exact h.apart A D y z q (g A y k1).2 (g D z H).2
 ·intro l' n a;refine h.fresh l' n ?_;by_cases e:l=l'
  ·subst e;rw[IB s]at a;rcases a with a|a <;> cases a
  ·rwa [Iu e]at a
 ·intro l' o a;exact h.own l' o (g l' o a).2
 ·exact h.os
 ·exact h.tape
 ·exact h.output
 ·exact h.size
 ·exact h.frame
 ·exact h.Φle.trans r
 ·exact h.μle
 ·intro b x a;unfold Ye.add at a;split at a
  ·rename_i e;subst e;rcases h.own l _ u with k|k
   ·rw[i]at k;exact .inr (.inl k)
   ·rw[i]at k;exact .inr (.inr k)
  ·exact h.dom b x a
 ·exact h.laid
section
section
variable {P:Program} {T:ZO} {c:Ctx} {μ μ':Mu} {Φ Φ':Ye} {σ σ':ZN} {w w':World}
theorem Good.rebase(h:Good c μ Φ σ w):Good (entry μ Φ σ w) μ Φ σ w where
 phi:=h.phi
 obj:=h.obj
 apart:=h.apart
 fresh:=h.fresh
 own:=λl o a=>.inr ⟨l,o,a,rfl⟩
 os:=rfl
 tape:=rfl
 output:=rfl
 size:=Iw _
 frame:=λ_ _ _=>rfl
 Φle:=.refl _
 μle:=.refl _
 dom:=λb cs hb=>.inl hb
 laid:=h.laid.mono h.Φle
theorem Good.unbase(h:Good c μ Φ σ w)(k:Good (entry μ Φ σ w) μ' Φ' σ' w'):Good c μ' Φ' σ' w':=by
 have ho : ∀ b,(entry μ Φ σ w).own b->c.w0.heap.size<=b∨c.own b:=by rintro b ⟨l,o,e,rfl⟩;exact h.own l o e
 have hs:c.w0.heap.size<=w.heap.size:=h.size;have a:w.heap.size<=w'.heap.size:=k.size;refine⟨k.phi,k.obj,k.apart,k.fresh,?_,k.os.trans h.os,k.tape.trans h.tape,k.output.trans h.output,IM hs a,?_,h.Φle.trans k.Φle,h.μle.trans k.μle,?_,h.laid⟩
 ·intro l o e;rcases k.own l o e with h1|h1
  ·exact .inl (IM hs h1)
  ·exact ho _ h1
 ·intro b hb hn;have : ¬ (entry μ Φ σ w).own b:=λg=>(ho b g).elim (by omega) hn
  exact(k.frame b (IP hb hs) this).trans (h.frame b hb hn)
 ·intro b cs hb;rcases k.dom b cs hb with h1|h1|h1
  ·exact h.dom b cs h1
  ·exact .inr (.inl (IM hs h1))
  ·exact .inr (ho b h1)
def PG(B:Nat)(ds:List Deferred)(w:World):Prop:=ds.Nodup∧ ∀ d∈ds,∃ D,B<=D∧d={target:=.collected D,args:=#[]}∧w.heap[D]? = some (.deferred (some []))
def f9e(σ:ZN):Prop:= ∀ (l:Nat) (es:List (PV×PV)),σ[l]? ≠ some (Slot.obj (AObj.map es))
theorem f9r(h:Good c μ Φ σ w){b:Nat}(hb:(entry μ Φ σ w).own b): ∃ o,w.heap[b]? = some o∧((∃ cs T fz,o = .cells cs T fz)∨((∃ es a,o = .map es a)∧ ¬ f9e σ)):=by
 obtain⟨l,o,e,rfl⟩:=hb;have hi:=h.obj l o e;cases o with
 | box xs=>obtain⟨B,C,S,T,cs,h1,h2,_⟩:=hi;exact⟨_,by simpa [blk,h1]using h2,.inl ⟨_,_,_,rfl⟩⟩
 | row fz ty sz xs=>obtain⟨B,C,cs,h1,_,⟨_,h2,_⟩,_⟩:=hi;exact⟨_,by simpa [blk,h1]using h2,.inl ⟨_,_,_,rfl⟩⟩
 | map es=>obtain⟨B,C,S,mes,a,h1,h2,_⟩:=hi;exact⟨_,by simpa [blk,h1]using h2,.inr ⟨⟨_,_,rfl⟩,λhn=>hn l es e⟩⟩
theorem Good.keeps(h:Good c μ Φ σ w)(k:Good (entry μ Φ σ w) μ' Φ' σ' w'){b:Nat}{o:Obj}(hb:w.heap[b]? = some o)(ho:o.isCells=false)(hm:f9e σ ∨ ∀ es e,o ≠ .map es e):w'.heap[b]? = some o:=by
 have a:=(Ih.1 hb).1;refine(k.frame b a λg=> ?_).trans hb;obtain⟨o',h1,h2⟩:=f9r h g;rw[hb]at h1;cases h1;rcases h2 with ⟨_,_,_,rfl⟩|⟨⟨es,e,rfl⟩,h3⟩
 ·simp[Obj.isCells]at ho
 ·rcases hm with hm|hm
  ·exact h3 hm
  ·exact hm _ _ rfl
theorem PG.keep{B:Nat}{ds:List Deferred}(hm:PG B ds w)(h:Good c μ Φ σ w)(k:Good (entry μ Φ σ w) μ' Φ' σ' w'):PG B ds w':=by refine⟨hm.1,λd hd=> ?_⟩;obtain⟨D,a,h1,h2⟩:=hm.2 d hd;exact⟨D,a,h1,h.keeps k h2 rfl (.inr λ_ _ e=>by cases e)⟩
def MQ(B:Nat)(Q:XP):XP:=λe a w=>PG B a.defers w∧Q e (wd [] a) w
def EQ(B nn:Nat)(g:YC P T)(b:P.follows .mixedOrders=true):Lg P T where
 W c Q a w:=a.defers=[]-> ∀ ds,PG B ds w->c.wpIn (Xy none) nn P (MQ B Q) (wd ds a) w
 Lp c Q a w:=a.defers=[]-> ∀ ds,PG B ds w->c7s none nn P c (MQ B Q) (wd ds a) w
 mono h hq h0 ds hm:=Iz (h h0 ds hm) λe a w h=>⟨h.1,hq _ _ _ h.2⟩
 skip h h0 ds hm:=wpIn_skip ⟨hm,by rw[show wd [] (wd ds _)=wd [] _ from rfl,Kn h0];exact h⟩
 label h h0 ds hm:=wpIn_label ⟨hm,by rw[show wd [] (wd ds _)=wd [] _ from rfl,Kn h0];exact h⟩
 exit h h0 ds hm:=wpIn_exit ⟨hm,by rw[show wd [] (wd ds _)=wd [] _ from rfl,Kn h0];exact h⟩
 ret h h0 ds hm:=wpIn_ret ⟨hm,by rw[show wd [] (wd ds _)=wd [] _ from rfl,Kn h0];exact h⟩
 seq h h0 ds hm:=wpIn_seq (Iz (h h0 ds hm) λe a w h=>by
  cases e with
  | normal=>exact h.2 rfl a.defers h.1
  | _=>exact h)
 cond hc h h0 ds hm:=wpIn_cond (by rw[Qp];exact hc) (h h0 ds hm)
 block h h0 ds hm:=wpIn_block (Iz (h h0 ds hm) λe a w h=>by
  cases e with
  | exit i=>
   obtain⟨h1,h2⟩:=h;simp only[IU]at h2 ⊢;split
   ·rename_i e;rw[if_pos e]at h2;exact⟨h1,h2⟩
   ·rename_i e;rw[if_neg e]at h2;exact⟨h1,h2⟩
  | _=>exact h)
 loop h h0 ds hm:=(a2o none nn g b).loop (h h0 ds hm)
 round h h0 ds hm:=(a2o none nn g b).round (Iz (h h0 ds hm) λe a w h=>by
  cases e with
  | normal=>exact h.2 rfl a.defers h.1
  | _=>exact h)
 reg hps hd hd' hr hrun hQ h0 ds hm:=by obtain⟨μ,Φ,hg,he,h3⟩:=hr;refine c2a (rd:=none) (nn:=nn) (ds:=ds) g b hps hd hd' ⟨μ,Φ,hg.rebase,he,h3⟩ hrun ?_;rintro a' w' ⟨μ',Φ',k1,k2,k3⟩;refine⟨hm.keep hg k1,?_⟩;rw[show wd [] (wd ds a')=wd [] a' from rfl,Kn k3];exact hQ a' w' ⟨μ',Φ',hg.unbase k1,k2,k3⟩
def WW:Code->Bool
 | .refuse _=>false
 | .seq a b | .cond _ a b=>WW a&&WW b
 | .block _ a | .loop a | .scope a=>WW a
 | .rangeFunc _ _ a b=>WW a&&WW b
 | _=>true
def e3m(s:String):Code:=.refuse s
def d9t(rd:Option Nat)(nn:Nat)(N:String->Act->World->Prop)(i:YC P T)(g:P.follows .mixedOrders=true):Lg P T where
 W c Q a w:=match c with
  | .refuse s=>N s a w
  | c=>WW c=true->c.wpIn (Xy rd) nn P Q a w
 Lp c Q a w:=WW c=true->c7s rd nn P c Q a w
 mono {c Q Q' a w} h hq:=by
  split at h
  ·exact h
  ·exact λhn=>Iz (h hn) hq
 skip h:=λ_=>wpIn_skip h
 label h:=λ_=>wpIn_label h
 exit h:=λ_=>wpIn_exit h
 ret h:=λ_=>wpIn_ret h
 seq {x y Q a w} h:=λhn=>by
  simp only[WW,Ii]at hn;split at h
  ·simp[WW]at hn
  ·refine wpIn_seq (Iz (h hn.1) λe a w h=> ?_);cases e with
   | normal=>
    simp only[a8c]at h;split at h
    ·simp[WW]at hn
    ·exact h hn.2
   | _=>exact h
 cond {c x y b Q a w} hc h:=λhn=>by
  simp only[WW,Ii]at hn;refine wpIn_cond hc ?_;cases b with
  | true=>
   simp only[if_true]at h ⊢;split at h
   ·simp[WW]at hn
   ·exact h hn.1
  | false=>
   simp only[aN,if_false]at h ⊢;split at h
   ·simp[WW]at hn
   ·exact h hn.2
 block {id x Q a w} h:=λhn=>by
  simp only[WW]at hn;refine wpIn_block ?_;split at h
  ·simp[WW]at hn
  ·exact h hn
 loop {x Q a w} h:=λhn=>by simp only[WW]at hn;exact(a2o rd nn i g).loop (h hn)
 round {x Q a w} h:=λhn=>by
  refine(a2o rd nn i g).round ?_;split at h
  ·simp[WW]at hn
  ·refine Iz (h hn) λe a w h=> ?_
   cases e with
   | normal=>exact h hn
   | _=>exact h
 reg hps hd hd' hr hrun hQ:=λ_=>(a2o rd nn i g).reg hps hd hd' hr hrun hQ
end
end
open Go.ChangeMaps (setBlock)
section
section
variable {P:Program} {T:ZO} {c:Ctx} {rd:Option Nat} {nn:Nat} {ds:List Deferred}
theorem NB(r:YC P T){ops:Array Oper}{Q:XP}{b:Nat}{rest:List Oper}: ∀ (os:List Oper) (ps:List PI) (L:Nat) (st st':St) (a:Act) (w:World),(∀ o∈os,o∈ops.toList)->XL P ops L os=some ps->VL c st a w->Jm T b ps st=some st' ->
  (∀ a' w',VL c st' a' w'->wpListIn (Xy rd) nn P ops Q rest (wd ds a') w')->wpListIn (Xy rd) nn P ops Q (os++rest) (wd ds a) w
 | [],ps,L,st,st',a,w,_,hp,hr,h,hK=>by simp only[XL,Ie]at hp;subst hp;simp only[Jm,Ie]at h;subst h;exact hK a w hr
 | o::os,ps,L,st,st',a,w,hm,hp,hr,h,hK=>by
  simp only[XL,Ic,Cm]at hp;obtain⟨p,q,k,e,rfl⟩:=hp;simp only[Jm,Ic]at h;obtain⟨j,h1,h2⟩:=h;obtain⟨i,hi,g⟩:=aI (hm o (by simp));have ho:ops[i]? = some o:=by rw[<- Array.getElem?_toList,Ib hi,g]
  have:=RX (rd:=rd) (nn:=nn) (ds:=ds) (Q:=Q) (K:=λa w=>wpListIn (Xy rd) nn P ops Q (os++rest) a w) r ho q hr h1 (λa' w' l=>NB r os k _ j st' a' w' (λx s=>hm x (by simp[s])) e l h2 hK);unfold wpOpIn at this;simp only[ho]at this;exact this
theorem Good.kill{μ:Mu}{Φ:Ye}{σ:ZN}{w:World}(h:Good c μ Φ σ w)(l:Nat):Good c μ Φ (σ.set l .dead) w:=by
 have a : ∀ (l':Nat) (o:AObj),(σ.set l .dead)[l']? = some (.obj o)->σ[l']? = some (.obj o):=by
  intro l' o g;rw[IJ]at g;split at g
  ·split at g <;> cases g
  ·exact g
 refine⟨h.phi,λl' o g=>h.obj l' o (a l' o g),λj k s r i k1 q=>h.apart j k s r i (a _ _ k1) (a _ _ q),?_,λl' o g=>h.own l' o (a l' o g),h.os,h.tape,h.output,h.size,h.frame,h.Φle,h.μle,h.dom,h.laid⟩;intro l' n b;refine h.fresh l' n ?_;rw[IJ]at b;split at b
 ·split at b
  ·rcases b with h|h <;> cases h
  ·rename_i e hlt;subst e;exact .inl (Ij.2 (by omega))
 ·exact b
theorem Good.addDead{μ:Mu}{Φ:Ye}{σ:ZN}{w:World}(h:Good c μ Φ σ w)(z:Nat×Nat×Nat):Good c (μ.add σ.length 0 z) Φ (σ++[.dead]) w:=by
 have r : ∀ n,μ σ.length n=none:=λn=>h.fresh _ n (.inl (by simp))
 have l:μ.le (μ.add σ.length 0 z):=Mu.le_add μ _ _ _ (.inl (r 0));have b : ∀ (l':Nat) (o:AObj),(σ++[Slot.dead])[l']? = some (.obj o)->σ[l']? = some (.obj o)∧l'≠σ.length:=by
  intro l' o g;rw[ax]at g;split at g
  ·exact⟨g,by omega⟩
  ·rename_i k;have:l' - σ.length=0∨1<=l' - σ.length:=by omega
   rcases this with e|e
   ·rw[e]at g;cases g
   ·rw[Ij.2 (by simpa using e)]at g;cases g
 have a : ∀ (l':Nat) (o:AObj),σ[l']? = some (.obj o)->l'≠σ.length->H5 (μ.add σ.length 0 z) Φ w l' o∧blk (μ.add σ.length 0 z) l' o=blk μ l' o:=λl' o g i=>(h.obj l' o g).keep l (λn=>Mu.add_ne _ _ _ _ _ _ i) (.refl _) rfl rfl
 refine⟨h.phi,?_,?_,?_,?_,h.os,h.tape,h.output,h.size,h.frame,h.Φle,h.μle.trans l,h.dom,h.laid⟩
 ·intro l' o g;obtain⟨k1,q⟩:=b l' o g;exact(a l' o k1 q).1
 ·intro l1 l2 o1 o2 i k1 q;obtain⟨s,u⟩:=b _ _ k1;obtain⟨b1,y⟩:=b _ _ q;rw[(a _ _ s u).2,(a _ _ b1 y).2];exact h.apart _ _ _ _ i s b1
 ·intro l' n j;have i:l'≠σ.length:=by
   rintro rfl;rcases j with h|h
   ·simp at h
   ·simp at h
  rw[Mu.add_ne _ _ _ _ _ _ i];refine h.fresh l' n ?_;rcases bH l' σ.length with k|hge
  ·rwa [I6 k]at j
  ·exact .inl (Ij.2 hge)
 ·intro l' o g;obtain⟨k1,q⟩:=b l' o g;rw[(a _ _ k1 q).2];exact h.own l' o k1
def Qh(es:List (PV×PV))(i:Nat):PV×PV:=es.getD i (.nilp,.nilp)
def G6(a:Array MapEntry)(i:Nat):Nat:=(a[i]?.map (·.born)).getD 0
theorem f1j{n:Nat}{b:List Nat}(h1:b.Nodup)(h2 : ∀ i∈b,i<n)(h3 : ∀ i,i<n->i∈b):b.Perm (Ik n):=(aP h1 aZ).2 λa=>⟨λh=>by simpa using h2 a h,λh=>h3 a (by simpa using h)⟩
theorem a1d(es:List (PV×PV)):(Ik es.length).map (Qh es)=es:=by
 apply aB;intro j;rw[II];rcases bH j es.length with h|h
 ·simp[h,Qh,aM]
 ·simp[aj h,Nat.not_lt.2 h]
theorem e3p{es:List (PV×PV)}{g:List Nat}{j:Nat}(h1:g.Nodup)(h2 : ∀ i∈g,i<es.length)(l:j<es.length)(hn:j ∉ g): ∃ rest,es.Perm (g.map (Qh es)++Qh es j::rest):=by
 refine⟨((Ik es.length).filter λi=> !(g++[j]).contains i).map (Qh es),?_⟩;have q:(Ik es.length).Perm (g++j::(Ik es.length).filter λi=> !(g++[j]).contains i):=by
  have k:(g++j::(Ik es.length).filter λi=> !(g++[j]).contains i).Nodup:=by
   rw[bN];refine⟨h1,aG.2 ⟨by simp,aZ.filter _⟩,λa ha b hb e=> ?_⟩;subst e;rcases I1.1 hb with rfl|hb
   ·exact hn ha
   ·simp[ha]at hb
  refine(aP aZ k).2 λa=> ?_
  constructor
  ·intro ha;by_cases h:a∈g
   ·simp[h]
   ·by_cases h':a=j
    ·simp[h']
    ·simp only[IX,I1,aF];exact .inr (.inr ⟨ha,by simp[h,h']⟩)
  ·intro ha;simp only[IX,I1,aF]at ha;rcases ha with ha|rfl|ha
   ·simpa using h2 a ha
   ·simpa using l
   ·exact ha.1
 have:=q.map (Qh es);rw[a1d]at this;simpa using this
def a6q(w:World)(B r:Nat)(g:Array MapEntry)(a:Nat)(e:List Nat):Prop:=w.heap[B]? = some (.map g a)∧ ∃ b h,w.heap[r]? = some (.mapIter (some B) a b h)∧a<=h∧b.toList=e.map (G6 g)∧e.Nodup∧ ∀ i∈e,i<g.size
theorem a6q.next{w:World}{B r:Nat}{g:Array MapEntry}{l:Nat}{y:List Nat}(h:a6q w B r g l y)(hb:a4s g l)(ty:TypeId):
  ((∀ j,j<g.size->j∈y)∧(Instr.next (.pointer (some ⟨r,0,none⟩)) false ty).run P w = .ok (.tuple #[.bool false]) w) ∨
  ∃ j e w',g[j]? = some e∧j ∉ y∧(Instr.next (.pointer (some ⟨r,0,none⟩)) false ty).run P w = .ok (.tuple #[.bool true,e.key,e.val]) w'∧w.grownBy w' (some r)∧a6q w' B r g l (y++[j]) ∧
   (Instr.entry (.pointer (some ⟨r,0,none⟩))).run P w' = .ok (.tuple #[e.key,e.val]) w':=by
 obtain⟨h1,q,c0,h2,h3,L,h5,Y⟩:=h;have N:r≠B:=by rintro rfl;rw[h1]at h2;cases h2
 have U:=(Ih.1 h2).1;have D : ∀ (i:Nat) e,g[i]? = some e->G6 g i=e.born:=λi e I=>by simp[G6,I]
 have J : ∀ i j:Nat,i<g.size->j<g.size->G6 g i=G6 g j->i=j:=by
  intro i j hi C e;have hn:=hb.2;have X:(g.toList.map (·.born))[i]? = some (G6 g i):=by simp[G6,hi]
  have W:(g.toList.map (·.born))[j]? = some (G6 g i):=by rw[e];simp[G6,C]
  have V:i<(g.toList.map (·.born)).length:=by simpa using hi
  have A:j<(g.toList.map (·.born)).length:=by simpa using C
  rw[Ib V]at X;rw[Ib A]at W;exact(List.getElem_inj hn).1 (dM (X.trans W.symm))
 rcases run_next_at (P:=P) w ty r B l c0 q g l h2 h1 hb.1 h3 with ⟨k1,M⟩|⟨e,k1,E,M,k3⟩
 ·refine .inl ⟨λj C=> ?_,M⟩;by_cases u:G6 g j∈q.toList
  ·rw[L]at u;obtain⟨i,hi,O⟩:=I7.1 u
   have:=J i j (Y i hi) C O;subst this;exact hi
  ·exfalso;have:(g[j])∈leftOf g q:=by unfold leftOf;rw[bX];refine⟨bM C,?_⟩;rw[D j g[j] (Il C)]at u;simpa using u
   have Z:leftOf g q = #[]:=Array.size_eq_zero_iff.1 k1;rw[Z]at this;simp at this
 ·have z:e∈g.toList∧e.born ∉ q.toList:=by
   have:e∈leftOf g q:=by simpa using k1
   unfold leftOf at this;rw[bX]at this;exact⟨by simpa using this.1,by simpa using this.2⟩
  obtain⟨j,C,S⟩:=aI z.1;have A:j<g.size:=by simpa using C
  have I:g[j]? = some e:=by rw[Il A];simpa using S
  have F:j ∉ y:=by intro u;refine z.2 ?_;rw[L];exact I7.2 ⟨j,u,D j e I⟩
  have s:E.heap=w.heap∧E.os=w.os∧E.tape=w.tape∧E.output=w.output:=by rcases M with rfl|rfl <;> exact⟨rfl,rfl,rfl,rfl⟩
  have K:(setBlock E r (.mapIter (some B) l (q.push e.born) l)).heap[r]? = some (.mapIter (some B) l (q.push e.born) l):=by simp[setBlock,s.1,U]
  have H:(setBlock E r (.mapIter (some B) l (q.push e.born) l)).heap[B]? = some (.map g l):=by simp only[setBlock,s.1];rw[Ip N];exact h1
  refine .inr ⟨j,e,_,I,F,k3,⟨s.2.1,s.2.2.1,s.2.2.2,by simp[setBlock,s.1],λk hk Q=> ?_⟩,⟨H,_,_,K,Iw _,?_,?_,?_⟩,run_entry_at _ r B l q g l e K H z.1 hb.2⟩
  ·simp only[setBlock,s.1];exact Ip (λe=>Q (by rw[e]))
  ·rw[Array.toList_push,L,I5,Iq,bG,D j e I]
  ·rw[bN];exact⟨h5,by simp,λa ha b hb e=>by simp at hb;subst hb;subst e;exact F ha⟩
  ·intro i hi;rcases IX.1 hi with hi|hi
   ·exact Y i hi
   ·simp at hi;subst hi;exact A
def b7z(c:Ctx)(μ:Mu)(Φ:Ye)(σ:ZN)(w:World):Ctx:=⟨w,λb=> ∃ l o,σ[l]? = some (.obj o)∧blk μ l o=b,Φ,c.μ0⟩
theorem Good.rebase2{μ:Mu}{Φ:Ye}{σ:ZN}{w:World}(h:Good c μ Φ σ w):Good (b7z c μ Φ σ w) μ Φ σ w where
 phi:=h.phi
 obj:=h.obj
 apart:=h.apart
 fresh:=h.fresh
 own:=λl o a=>.inr ⟨l,o,a,rfl⟩
 os:=rfl
 tape:=rfl
 output:=rfl
 size:=Iw _
 frame:=λ_ _ _=>rfl
 Φle:=.refl _
 μle:=h.μle
 dom:=λb cs hb=>.inl hb
 laid:=h.laid.mono h.Φle
theorem Good.unbase2{μ μ':Mu}{Φ Φ':Ye}{σ g:ZN}{w w':World}(h:Good c μ Φ σ w)(k:Good (b7z c μ Φ σ w) μ' Φ' g w'):Good c μ' Φ' g w':=by
 have ho : ∀ b,(b7z c μ Φ σ w).own b->c.w0.heap.size<=b∨c.own b:=by rintro b ⟨l,o,a,rfl⟩;exact h.own l o a
 have hs:c.w0.heap.size<=w.heap.size:=h.size;have e:w.heap.size<=w'.heap.size:=k.size;refine⟨k.phi,k.obj,k.apart,k.fresh,?_,k.os.trans h.os,k.tape.trans h.tape,k.output.trans h.output,IM hs e,?_,h.Φle.trans k.Φle,k.μle,?_,h.laid⟩
 ·intro l o a;rcases k.own l o a with h1|h1
  ·exact .inl (IM hs h1)
  ·exact ho _ h1
 ·intro b hb hn;have : ¬ (b7z c μ Φ σ w).own b:=λi=>(ho b i).elim (by omega) hn
  exact(k.frame b (IP hb hs) this).trans (h.frame b hb hn)
 ·intro b cs hb;rcases k.dom b cs hb with h1|h1|h1
  ·exact h.dom b cs h1
  ·exact .inr (.inl (IM hs h1))
  ·exact .inr (ho b h1)
theorem a2x{μ:Mu}{Φ:Ye}{a:Act}{env:List AV}{i:Nat}{x:AV}(e:XN μ Φ a.tmps env)(b:env[i]? = some x):R μ Φ (a.eval (.tmp i)) x∧i<a.tmps.size:=by
 have hl:i<env.length:=(Ig.1 b).1;have hs:a.tmps.size=env.length:=by have:=e.1;simpa using this
 have hi:i<a.tmps.size:=by omega
 refine⟨?_,hi⟩
 have:=e.2 i a.tmps[i] x (by simp[hi]) b;simpa [bY,hi]using this
theorem AA{a:Act}{i:Nat}{v:Value}(h:i<a.tmps.size):(a.put (some i) v).eval (.tmp i)=v:=by simp[aT,bY,h]
end
end
end Go.Pl
namespace Go.Pl
open Go.RowKit
def i9q(Φ:Ye)(b:List Value)(a:List (List PV)):Prop:=b.length=a.length∧ ∀ (j:Nat) v ps,b[j]? = some v->a[j]? = some ps-> ∃ B cs,v = .pointer (some ⟨B,0,none⟩)∧Φ B=some cs∧Ub Φ cs.toList ps∧X5 cs.toList
def f3s(ls:List Nat)(σ:ZN):ZN:=ls.foldl (λσ l=>σ.set l .dead) σ
def g9p{c:Ctx}{μ:Mu}{w:World}: ∀ (ls:List Nat) (a:List (List PV)) {Φ:Ye} {σ:ZN},Good c μ Φ σ w->ls.Nodup->ls.length=a.length ->
  (∀ (j:Nat) l ps,ls[j]? = some l->a[j]? = some ps->σ[l]? = some (.obj (.box (ps.map .pv)))) ->
  ∃ Φ',Φ.le Φ'∧Good c μ Φ' (f3s ls σ) w∧ ∀ (j:Nat) l ps,ls[j]? = some l->a[j]? = some ps-> ∃ B C S cs,μ l 0=some (B,C,S)∧Φ' B=some cs∧Ub Φ' cs.toList ps∧X5 cs.toList:=by
 intro ls
 induction ls with
 | nil=>intro a Φ σ h _ _ _;exact⟨Φ,.refl _,h,λj l ps g=>by simp at g⟩
 | cons l ls ih=>
  intro a Φ σ h k b i;cases a with
  | nil=>simp at b
  | cons ps a=>
   rw[aG]at k;obtain⟨Φ1,B,C,S,cs,k1,k2,k3,k4,k5,k6⟩:=h.freezeBox (i 0 l ps rfl rfl)
   obtain⟨Φ2,m1,m2,m3⟩:=ih a k2 k.2 (by simpa using b) (λj l' q g r=>by
    rw[Iu (λe=>k.1 (by subst e;exact IZ g))]
    exact i (j+1) l' q g r)
   refine⟨Φ2,k1.trans m1,m2,λj l' q g r=> ?_⟩;cases j with
   | zero=>simp only[List.getElem?_cons_zero,Ie]at g r;subst g r;exact⟨B,C,S,cs,k3,m1 _ _ k4,⟨k5.1,λj v x s u=>((k5.2 j v x s u).mono k1).mono m1⟩,k6⟩
   | succ j=>exact m3 j l' q g r
def b0e:List Nat->List AV->List AV->List AV
 | p::ps,x::xs,env=>b0e ps xs (env.set p x)
 | _,_,env=>env
def a4r:List Nat->List Value->Array Value->Array Value
 | p::ps,x::xs,t=>a4r ps xs (t.setIfInBounds p x)
 | _,_,t=>t
def d8f: ∀ (ps:List Nat) (xs:List Value) (t:Array Value),(ps.zip xs).foldl (λt (q:Nat×Value)=>t.setIfInBounds q.1 q.2) t=a4r ps xs t
 | [],_,_=>by simp[a4r]
 | _::_,[],_=>by simp[a4r]
 | p::ps,x::xs,t=>by simp only[List.zip_cons_cons,List.foldl_cons,a4r];exact d8f ps xs _
def d9c{μ:Mu}{Φ:Ye}: ∀ (ps:List Nat) (vs:List Value) (xs:List AV) {t:Array Value} {env:List AV},XN μ Φ t env->RL μ Φ vs xs->XN μ Φ (a4r ps vs t) (b0e ps xs env)
 | [],_,_,_,_,h,_=>by simpa [a4r,b0e]using h
 | _::_,[],[],_,_,h,_=>by simpa [a4r,b0e]using h
 | _::_,[],_::_,_,_,_,k=>by have:=k.1;simp at this
 | _::_,_::_,[],_,_,_,k=>by have:=k.1;simp at this
 | p::ps,v::vs,x::xs,t,env,h,k=>by
  refine d9c ps vs xs ?_ ⟨by have:=k.1;simpa using this,λj u y hu b=>k.2 (j+1) u y hu b⟩
  have:=Ur (a:={tmps:=t,defers:=[]}) (d:=some p) h (k.2 0 v x rfl rfl);simpa [aT,Y5]using this
def Good.grown{c:Ctx}{μ:Mu}{Φ:Ye}{σ:ZN}{W W':World}{row:Option Nat}{B:Nat}(h:Good c μ Φ σ W)(hn:f9e σ ∨ ∀ r,row=some r-> ∀ es g,W.heap[r]? ≠ some (Obj.map es g))(a:W.grownBy W' row)(hB:c.w0.heap.size<=B)(hr : ∀ r,row=some r->B<=r∧ ∃ o:Obj,W.heap[r]? = some o∧o.isCells=false):Good c μ Φ σ W':=by
 have hc : ∀ (b:Nat) cs T fz,W.heap[b]? = some (Obj.cells cs T fz)->W'.heap[b]? = some (Obj.cells cs T fz):=by intro b cs T fz hb;refine(a.block b (Ih.1 hb).1 ?_).trans hb;intro e;obtain⟨_,o,ho,h2⟩:=hr b e.symm;rw[hb]at ho;cases ho;simp[Obj.isCells]at h2
 refine⟨?_,?_,h.apart,h.fresh,h.own,a.os.trans h.os,a.tape.trans h.tape,a.output.trans h.output,IM h.size a.size,?_,h.Φle,h.μle,h.dom,h.laid⟩
 ·intro b cs hb;obtain⟨T,fz,q⟩:=h.phi b cs hb;exact⟨T,fz,hc _ _ _ _ q⟩
 ·intro l o k;have hi:=h.obj l o k;cases o with
  | box xs=>obtain⟨B,C,S,T,cs,h1,h2,h3⟩:=hi;exact⟨B,C,S,T,cs,h1,hc _ _ _ _ h2,h3⟩
  | row fz ty sz xs=>obtain⟨B,C,cs,h1,h1',⟨z,h2,s⟩,h3⟩:=hi;exact⟨B,C,cs,h1,h1',⟨z,hc _ _ _ _ h2,s⟩,h3⟩
  | map es=>
   rcases hn with hn|hn
   ·exact absurd k (hn l es)
   ·obtain⟨B,C,S,j,g,h1,h2,h3⟩:=hi;refine⟨B,C,S,j,g,h1,?_,h3⟩;refine(a.block B (Ih.1 h2).1 ?_).trans h2;intro e;exact hn B e.symm _ _ h2
 ·intro b hb i;refine(a.block b (IP hb h.size) ?_).trans (h.frame b hb i);intro e
  have:=(hr b e.symm).1;omega
def b4j{P:Program}{T:ZO}{rd:Option Nat}{nn:Nat}{N:String->Act->World->Prop}{e:YC P T}{b:P.follows .mixedOrders=true}{c:Code}{Q:XP}{a:Act}{w:World}(h:(d9t rd nn N e b).W c Q a w)(hn:WW c=true):c.wpIn (Xy rd) nn P Q a w:=by
 cases c with
 | refuse s=>simp[WW]at hn
 | _=>exact h hn
open Go.ChangeMaps (setBlock)
section
section
variable {P:Program} {T:ZO} {c:Ctx} {rd:Option Nat} {nn:Nat} {ds:List Deferred}
theorem SB{ops:Array Oper}{Q:XP}{o:Oper}{rest:List Oper}{e:Act}{w w':World}{x:Value}(h:o.guard=none)(b : ∀ c,o.op ≠ .defer c)(a:(execOp e.eval o).run P w = .ok (.value x) w')
  (g:wpListIn (Xy rd) nn P ops Q rest (e.put o.dst x) w'):wpListIn (Xy rd) nn P ops Q (o::rest) e w:=by
 unfold wpListIn;simp only[bD,h,if_true];refine⟨λ_ _=>trivial,?_⟩;rw[show(Xy rd).round=rd from rfl,Cf b,a];exact g
theorem Good.revive{μ:Mu}{Φ:Ye}{σ:ZN}{w:World}{l:Nat}{o:AObj}(h:Good c μ Φ σ w)(A:σ[l]? = some .dead)(ho:H5 μ Φ w l o)(q : ∀ (l':Nat) (o':AObj),σ[l']? = some (.obj o')->blk μ l' o'≠blk μ l o)(j:c.w0.heap.size<=blk μ l o∨c.own (blk μ l o)):
  Good c μ Φ (σ.set l (.obj o)) w:=by
 have k:=(Ig.1 A).1;have a : ∀ (l':Nat) (o':AObj),(σ.set l (.obj o))[l']? = some (.obj o')->(l'=l∧o'=o)∨(l'≠l∧σ[l']? = some (.obj o')):=by
  intro l' o' b;rw[IJ]at b;split at b
  ·rename_i e;subst e;simp only[k,if_true,Ie,Slot.obj.injEq]at b;exact .inl ⟨rfl,b.symm⟩
  ·rename_i e;exact .inr ⟨λD=>e D.symm,b⟩
 refine⟨h.phi,?_,?_,?_,?_,h.os,h.tape,h.output,h.size,h.frame,h.Φle,h.μle,h.dom,h.laid⟩
 ·intro l' o' b;rcases a l' o' b with ⟨rfl,rfl⟩|⟨_,b⟩
  ·exact ho
  ·exact h.obj l' o' b
 ·intro l1 l2 o1 o2 i k1 C;rcases a _ _ k1 with ⟨r,B⟩|⟨_,u⟩ <;> rcases a _ _ C with ⟨y,z⟩|⟨_,s⟩
  ·exact absurd (r.trans y.symm) i
  ·rw[r,B];exact λe=>q _ _ s e.symm
  ·rw[y,z];exact q _ _ u
  ·exact h.apart _ _ _ _ i u s
 ·intro l' n g;refine h.fresh l' n ?_;rw[IJ]at g;split at g
  ·rename_i e;subst e;simp[k]at g
  ·exact g
 ·intro l' o' b;rcases a l' o' b with ⟨rfl,rfl⟩|⟨_,b⟩
  ·exact j
  ·exact h.own l' o' b
structure MapRange (P:Program) (opsA opsN opsE:Array Oper) (psA psE:List PI) (m:IOp) (rt nt tb et:Nat):Prop where
 A : ∃ osA oR mt kt vt mo,opsA.toList=osA++[oR]∧XL P opsA 0 osA=some psA∧oR.guard=none∧oR.op = .range mt mo∧oR.dst=some rt∧YL mo=some m∧P.underlying mt=some (.map kt vt)
 N : ∃ oN oX,opsN.toList=[oN,oX]∧oN.guard=none∧oN.op = .next (.tmp rt) false∧oN.dst=some nt∧oX.guard=none∧oX.op = .extract (.tmp nt) 0∧oX.dst=some tb
 E : ∃ oE osE,opsE.toList=oE::osE∧oE.guard=none∧oE.op = .entry (.tmp rt)∧oE.dst=some et∧XL P opsE 0 osE=some psE
 ne:rt≠nt∧rt≠tb∧nt≠tb
set_option maxHeartbeats 1000000 in
theorem h5i{opsA opsN opsE:Array Oper}{psA psE:List PI}{m:IOp}{rt nt tb et ida idn ide b0 b1 k0 lm li msl lm2:Nat}{body:Code}{icB:IC}{keep sl:List Nat}{st st1 S:St}{a:Act}{w:World}{Q:XP}{es:List (PV×PV)}(hM:MapRange P opsA opsN opsE psA psE m rt nt tb et)
  (hT:YC P T) (hmix:P.follows .mixedOrders=true) (hr:VL c st a w) (hk0 : ∀ i m,k0<=i->c.μ0 i m=none) (hpre:Jm T st.heap.length psA (grow st (news psA))=some st1) (hev:ev st1.env m = .map lm) (hes:st1.heap[lm]? = some (.obj (.map es)))
  (hgc:Gd k0 keep ⟨st1.env.set rt (.ptr st1.heap.length 0),st1.heap.set lm .dead++[.dead]⟩=some S) (hm0:m = .t msl) (hm1:msl≠rt) (hm2:S.env[msl]? = some (.map lm2)) (I:List (PV×PV)->St->Prop) (h0:I [] S)
  (hI : ∀ vis s,I vis s->(s.env[rt]? = some (.ptr li 0)∧nt<s.env.length∧tb<s.env.length∧et<s.env.length)∧s.heap[lm2]? = some .dead) (hbd:Tr P body icB) (href:WW body=true)
  (hround : ∀ vis kv s rest,es.Perm (vis++kv::rest)->I vis s-> ∃ s2,Jm T s.heap.length psE (grow ⟨((s.env.set nt .junk).set tb .junk).set et (.pv (.tup [kv.1,kv.2])),s.heap⟩ (news psE))=some s2∧ ∃ F',(∀ x,¬ F' x) ∧
   Xp T (λn S' _=>n=99∧I (vis++[kv]) S') s.heap.length F' (.inl icB) [.blk b1,.seq (.ext 99 sl)] s2)
  (hQ : ∀ vis s a' w',vis.Perm es->I vis s->VL c ⟨(s.env.set nt .junk).set tb .junk,s.heap.set lm2 (.obj (.map es))⟩ a' w'->Q .normal (wd [] a') w') :
  (Code.seq (.region ida opsA false) (.block b0 (.loop (.seq (.region idn opsN false) (.seq (.cond (.tmp tb) .skip (.exit b0)) (.block b1 (.seq (.region ide opsE false) body))))))).wpIn (Xy rd) nn P Q (wd [] a) w:=by
 obtain⟨osA,oR,mt,kt,vt,mo,hA,hpA,hRg,hRo,hRd,hmo,hmt⟩:=hM.A;obtain⟨oN,oX,hN,hNg,hNo,hNd,hXg,hXo,hXd⟩:=hM.N;obtain⟨oE,osE,hE,hEg,hEo,hEd,hpE⟩:=hM.E;obtain⟨ne1,ne2,ne3⟩:=hM.ne;refine wpIn_seq (wpIn_region_list ?_);rw[hA];refine NB hT osA psA 0 (grow st (news psA)) st1 a w (λo ho=>by rw[hA];simp[ho]) hpA (hr.grow _) hpre ?_;rintro a1 w1 ⟨μ,Φ,hg,he,hd⟩;obtain⟨B',C,Sz,mes,clock,e1,e2,e3,e4,e5,e6⟩:=hg.obj lm _ hes;have hmv:a1.eval mo = .map (some B'):=by
  have:=Yj he hmo;rw[hev]at this;generalize a1.eval mo=q at this;cases this with
  | map l B C S h=>rw[e1]at h;cases h;rfl
 refine SB hRg (by rw[hRo];simp) (x:=.pointer (some ⟨w1.heap.size,0,none⟩)) (w':=w1.alloc (.mapIter (some B') clock #[] clock)) ?_ ?_
 ·simp[execOp,hRo,Qp,hmv,run_range_map w1 mt kt vt B' mes clock hmt e2,IY]
 rw[hRd,Ak];show(Code.block b0 _).wpIn _ _ _ _ _ _;have hkill:=hg.kill lm;have hbase:=hkill.rebase2;have hadd:=hbase.addDead (w1.heap.size,0,0);have hgr:=hadd.grown (.inr λr e=>by cases e) (World.grownBy_alloc w1 (.mapIter (some B') clock #[] clock) none) (Iw _) (λr e=>by cases e);have hlen:(st1.heap.set lm .dead).length=st1.heap.length:=by simp
 rw[hlen]at hgr;have hmule:μ.le (μ.add st1.heap.length 0 (w1.heap.size,0,0)):=Mu.le_add _ _ _ _ (.inl (hg.fresh _ _ (.inl (by simp))));have henv2:=Ur (d:=some rt) (he.mono hmule (.refl Φ)) (R.ptr st1.heap.length 0 w1.heap.size 0 0 (Mu.add_same _ _ _ _));obtain⟨c1,hc1⟩ : ∃ c1,c1=b7z c μ Φ (st1.heap.set lm .dead) w1:=⟨_,rfl⟩
 rw[<- hc1]at hgr;have hc1w:c1.w0=w1:=by rw[hc1];rfl
 have hc1μ:c1.μ0=c.μ0:=by rw[hc1];rfl
 have hc1B : ¬ c1.own B':=by
  rw[hc1];rintro⟨l,o,hl,hb⟩;have hne:l≠lm:=by rintro rfl;rw[IB (Ig.1 hes).1]at hl;cases hl
  rw[Iu (Ne.symm hne)]at hl;exact hg.apart l lm o _ hne hl hes (hb.trans (by simp[blk,e1]))
 have hback : ∀ {μ' Φ' σ' w'},Good c1 μ' Φ' σ' w'->Good c μ' Φ' σ' w':=λk=>by rw[hc1]at k;exact hkill.unbase2 k
 obtain⟨g1,g2⟩:=Vu (by rw[hc1μ];exact hk0) hgr (CR henv2) hgc;obtain⟨⟨hi1,hi2,hi3,hi4⟩,_⟩:=hI _ _ h0;have hBlt:B'<w1.heap.size:=(Ih.1 e2).1;have hU0:a6q (w1.alloc (.mapIter (some B') clock #[] clock)) B' w1.heap.size mes clock []:=⟨(UO w1 _ _ hBlt).trans e2,#[],clock,aH w1 _,Iw _,rfl,bu,λi hi=>by simp at hi⟩
 generalize hμ3:(μ.add st1.heap.length 0 (w1.heap.size,0,0)).ren (M3 256 (Ik k0++Ho (NH keep 0 (st1.env.set rt (.ptr st1.heap.length 0)))) [] (st1.heap.set lm .dead++[.dead]))=μ3 at g1 g2;have hz0 : ∃ z,μ3 li 0=some (w1.heap.size,z):=by
  obtain⟨hR,hlt⟩:=a2x (a:=a1.put (some rt) (.pointer (some ⟨w1.heap.size,0,none⟩))) g2 hi1;rw[AA (by simpa [aT]using hlt)]at hR;generalize hq:Value.pointer (some ⟨w1.heap.size,0,none⟩)=q at hR;cases hR with
  | ptr l o B C S h=>cases hq;exact⟨_,h⟩
 have hz1 : ∃ z,μ3 lm2 0=some (B',z):=by
  obtain⟨hR,hlt⟩:=a2x (a:=a1.put (some rt) (.pointer (some ⟨w1.heap.size,0,none⟩))) g2 hm2;have hmo2:mo = .tmp msl:=by
   cases mo with
   | tmp t=>simp[YL,hm0]at hmo;rw[hmo]
   | _=>simp[YL,hm0]at hmo
  have:(a1.put (some rt) (.pointer (some ⟨w1.heap.size,0,none⟩))).eval (.tmp msl) = .map (some B'):=by rw[<- hmv,hmo2];simp[aT,bY,Im,Ip (Ne.symm hm1)]
  rw[this]at hR;cases hR with
  | map l B C S h=>exact⟨_,h⟩
 have hc1Φ:c1.Φ0=Φ:=by rw[hc1];rfl
 have hownB:c.w0.heap.size<=B'∨c.own B':=by have:=hg.own lm _ hes;simpa [blk,e1]using this
 have hN0:mes.size=es.length:=e3
 refine wpIn_block (wpIn_loop (λaa W=> ∃ a' ord s μ2 Φ2,aa=wd [] a'∧a'.defers=[]∧I (ord.map (Qh es)) s∧Good c1 μ2 Φ2 s.heap W∧XN μ2 Φ2 a'.tmps s.env∧(∃ z,μ2 li 0=some (w1.heap.size,z))∧(∃ z,μ2 lm2 0=some (B',z))∧Φ.le Φ2∧a6q W B' w1.heap.size mes clock ord)
  (λ_ W=>match W.heap[w1.heap.size]? with|some (.mapIter _ _ seen _)=>mes.size - seen.size|_=>0) ⟨_,[],S,μ3,Φ,rfl,by rw[Xt];exact hd,h0,g1,g2,hz0,hz1,.refl _,hU0⟩ ?_)
 rintro aa W ⟨a',ord,s,μ2,Φ2,rfl,hd',hIs,hgs,hes',⟨z,hz⟩,⟨zm,hzm⟩,hΦ2,hU⟩;obtain⟨⟨j1,j2,j3,j4⟩,jd⟩:=hI _ _ hIs;have hss:a'.tmps.size=s.env.length:=by have:=hes'.1;simpa using this
 have hit:a'.eval (.tmp rt) = .pointer (some ⟨w1.heap.size,0,none⟩):=by
  obtain⟨hR,_⟩:=a2x hes' j1;generalize a'.eval (.tmp rt)=q at hR ⊢;cases hR with
  | ptr l o B C S h=>rw[hz]at h;cases h;rfl
 obtain⟨seen1,c01,hseen1,hseen2⟩ : ∃ seen1 c01,W.heap[w1.heap.size]? = some (.mapIter (some B') clock seen1 c01)∧seen1.size=ord.length:=by obtain⟨_,s1,c01,o1,_,o2,_⟩:=hU;exact⟨s1,c01,o1,by have:=congrArg aK o2;simpa using this⟩
 have hordn:ord.length<=mes.size:=by
  obtain⟨_,_,_,_,_,_,o1,o2⟩:=hU
  have:=o1.length_le_of_subset (l₂:=Ik mes.size) (λi hi=>by simpa using o2 i hi);simpa using this
 refine wpIn_seq (wpIn_region_list ?_);rw[hN];rcases hU.next e6 oN.type (P:=P)with ⟨q1,q2⟩|⟨j,e,w',q1,q2,q3,q4,q5,q6⟩
 ·refine SB hNg (by rw[hNo];simp) (x:=.tuple #[.bool false]) (w':=W) (by simp[execOp,hNo,Qp,hit,q2,IY]) ?_;rw[hNd,Ak];have hx:(a'.put (some nt) (.tuple #[.bool false])).eval (.tmp nt) = .tuple #[.bool false]:=AA (by omega);refine SB hXg (by rw[hXo];simp) (x:=.bool false) (w':=W) (by simp[execOp,hXo,Qp,hx,Instr.extract,IY]) ?_;rw[hXd,Ak];refine wpIn_seq (wpIn_cond_false (by rw[Qp];exact AA (by simp[aT];omega)) (wpIn_exit ?_));simp only[Exit.then,IU,if_true];obtain⟨uB,_,_,_,_,_,o1,o2⟩:=hU;have hperm:(ord.map (Qh es)).Perm es:=by have:=(f1j o1 o2 q1).map (Qh es);rw[hN0,a1d]at this;exact this
  have hblk:blk μ2 lm2 (.map es)=B':=by simp[blk,hzm]
  have hΦB:Φ2 B'=none:=by
   cases hx:Φ2 B' with
   | none=>rfl
   | some cs=>
    rcases hgs.dom B' cs hx with h|h|h
    ·rw[hc1Φ,e5]at h;cases h
    ·rw[hc1w]at h;omega
    ·exact(hc1B h).elim
  have hrev:=(hback hgs).revive jd (o:=.map es) ⟨B',zm.1,zm.2,mes,clock,hzm,uB,e3,λj e p a b=>⟨(e4 j e p a b).1.mono hΦ2,(e4 j e p a b).2.mono hΦ2⟩,hΦB,e6⟩
   (λl' o' hl' e=>by
    rw[hblk]at e;rcases hgs.own l' o' hl' with h|h
    ·rw[e,hc1w]at h;omega
    ·rw[e]at h;exact hc1B h) (by rw[hblk];exact hownB)
  refine hQ _ s _ W hperm hIs ⟨μ2,Φ2,hrev,?_,by rw[Xt,Xt];exact hd'⟩;exact Ur (d:=some tb) (Ur (d:=some nt) hes' (.junk _)) (.junk _)
 ·obtain⟨k1,k2⟩:=Ih.1 q1;have hjes:es[j]? = some (Qh es j):=by simp[Qh,aM,show j<es.length by omega]
  obtain⟨rk,rv⟩:=e4 j e _ q1 hjes;refine SB hNg (by rw[hNo];simp) (x:=.tuple #[.bool true,e.key,e.val]) (w':=w') (by simp[execOp,hNo,Qp,hit,q3,IY]) ?_;rw[hNd,Ak];have hx:(a'.put (some nt) (.tuple #[.bool true,e.key,e.val])).eval (.tmp nt) = .tuple #[.bool true,e.key,e.val]:=AA (by omega);refine SB hXg (by rw[hXo];simp) (x:=.bool true) (w':=w') (by simp[execOp,hXo,Qp,hx,Instr.extract,IY]) ?_;rw[hXd,Ak];refine wpIn_seq (wpIn_cond_true (by rw[Qp];exact AA (by simp[aT];omega)) (wpIn_skip ?_));show(Code.block b1 _).wpIn _ _ _ _ _ _;refine wpIn_block (wpIn_seq (wpIn_region_list ?_));rw[hE];have hit2:(((a'.put (some nt) (.tuple #[.bool true,e.key,e.val])).put (some tb) (.bool true))).eval (.tmp rt) = .pointer (some ⟨w1.heap.size,0,none⟩):=by rw[<- hit];simp[aT,bY,Im,Ip (Ne.symm ne1),Ip (Ne.symm ne2)]
  refine SB hEg (by rw[hEo];simp) (x:=.tuple #[e.key,e.val]) (w':=w') (by simp[execOp,hEo,Qp,hit2,q6,IY]) ?_;rw[hEd,Ak]
  have hgw:Good c1 μ2 Φ2 s.heap w':=hgs.grown (.inr λr e es ck hh=>by
   cases e;obtain⟨_,_,_,h2,_⟩:=hU;rw[h2]at hh
   cases hh) q4 (by rw[hc1w];exact Iw _) (λr e=>by
    cases e;obtain⟨_,_,_,h2,_⟩:=hU
    exact⟨Iw _,_,h2,rfl⟩)
  obtain⟨_,_,_,_,_,_,o1,o2⟩:=hU;obtain⟨rest,hrest⟩:=e3p (es:=es) (j:=j) o1 (λi hi=>by rw[<- hN0];exact o2 i hi) (by omega) q2;obtain⟨s2,hs2,F',hF',hgets⟩:=hround _ _ s rest hrest hIs;have henv3:XN μ2 Φ2 ((((a'.put (some nt) (.tuple #[.bool true,e.key,e.val])).put (some tb) (.bool true))).put (some et) (.tuple #[e.key,e.val])).tmps (((s.env.set nt .junk).set tb .junk).set et (.pv (.tup [(Qh es j).1,(Qh es j).2]))):=by
   refine Ur (d:=some et) (Ur (d:=some tb) (Ur (d:=some nt) hes' (.junk _)) (.junk _)) (.pv _ _ (.tup _ _ rfl λi v x hv hx=> ?_))
   match i with
   | 0=>cases hv;cases hx;exact rk.mono hΦ2
   | 1=>cases hv;cases hx;exact rv.mono hΦ2
   | i+2=>simp at hv
  have hrel3:VL (entry μ2 Φ2 s.heap w') ⟨((s.env.set nt .junk).set tb .junk).set et (.pv (.tup [(Qh es j).1,(Qh es j).2])),s.heap⟩ ((((a'.put (some nt) (.tuple #[.bool true,e.key,e.val])).put (some tb) (.bool true))).put (some et) (.tuple #[e.key,e.val])) w':=⟨μ2,Φ2,hgw.rebase,henv3,by rw[Xt,Xt,Xt];exact hd'⟩
  rw[show osE=osE++[] by simp];refine NB hT osE psE 0 _ s2 _ w' (λo ho=>by rw[hE];simp[ho]) hpE (hrel3.grow _) hs2 ?_;intro a4 W4 hrel4;rw[Kn hrel4.choose_spec.choose_spec.2.2];show body.wpIn _ _ _ _ _ _
  have hrun:=hgets P (d9t rd nn (λ_ a' W'=> ∃ s',VL (entry μ2 Φ2 s.heap w') s' a' W'∧I (ord.map (Qh es)++[Qh es j]) s') hT hmix) (λn cd=>n=99∧cd=e3m "n") (entry μ2 Φ2 s.heap w')
   (by rintro n cd ⟨rfl,rfl⟩ st' a'' W' q hr' hE';exact⟨_,hr',hE'.2⟩) (λi m hi=>hgw.fresh i m (.inl (Ij.2 hi))) [.blk b1,.seq (e3m "n")] (.blk (.seq (.ext ⟨rfl,rfl⟩) .nil)) a4 W4 hrel4 body hbd.x
  obtain⟨u1,seen2,c2,u2,u3,u4,u5,u6⟩:=q5;have hfin : ∀ a5 W5,(∃ s',VL (entry μ2 Φ2 s.heap w') s' a5 W5∧I (ord.map (Qh es)++[Qh es j]) s') ->
    (∃ a' ord s μ2 Φ2,a5=wd [] a'∧a'.defers=[]∧I (ord.map (Qh es)) s∧Good c1 μ2 Φ2 s.heap W5∧XN μ2 Φ2 a'.tmps s.env∧(∃ z,μ2 li 0=some (w1.heap.size,z))∧(∃ z,μ2 lm2 0=some (B',z))∧Φ.le Φ2∧a6q W5 B' w1.heap.size mes clock ord) ∧
    (match W5.heap[w1.heap.size]? with|some (.mapIter _ _ seen _)=>mes.size - seen.size|_=>0)<(match W.heap[w1.heap.size]? with|some (.mapIter _ _ seen _)=>mes.size - seen.size|_=>0):=by
   rintro a5 W5 ⟨s',⟨μ5,Φ5,m1,m2,m3⟩,m4⟩;have hr5:W5.heap[w1.heap.size]? = some (.mapIter (some B') clock seen2 c2):=hgw.keeps m1 u2 rfl (.inr λ_ _ e=>by cases e);have hG5:=hgw.unbase m1;have hB5:W5.heap[B']? = some (.map mes clock):=by rw[hG5.frame B' (by rw[hc1w];exact hBlt) hc1B,hc1w];exact e2
   refine⟨⟨a5,ord++[j],s',μ5,Φ5,(Kn m3).symm,m3,by simpa using m4,hG5,m2,⟨z,m1.μle _ _ _ hz⟩,⟨zm,m1.μle _ _ _ hzm⟩,hΦ2.trans m1.Φle,hB5,seen2,c2,hr5,u3,u4,u5,u6⟩,?_⟩;have hlen2:=u5.length_le_of_subset (l₂:=Ik mes.size) (λi hi=>by simpa using u6 i hi);have e5:seen2.size=ord.length+1:=by have:=congrArg aK u4;simpa using this
   rw[hr5,hseen1];simp only[hseen2,e5];simp at hlen2;omega
  refine Iz (b4j hrun href) λe5 a5 W5 h=> ?_
  cases e5 with
  | normal=>exact hfin a5 W5 h
  | exit id=>
   simp only[KW,IU]at h ⊢;split
   ·rename_i e;rw[if_pos e]at h;exact hfin a5 W5 h
   ·rename_i e;rw[if_neg e]at h;obtain⟨_,_,hx,_⟩:=h;exact(hF' _ hx).elim
  | _=>obtain⟨_,_,hx,_⟩:=h;exact(hF' _ hx).elim
def f9f:Code->Bool
 | .seq (.region _ ops _) (.block _ (.loop _))=>match ops.toList.getLast? with|some o=>(match o.op with | .range _ _=>true|_=>false)|none=>false
 | _=>false
structure MapParts where
 psA:List PI
 m:IOp
 rt:Nat
 nt:Nat
 tb:Nat
 et:Nat
 b1:Nat
 psE:List PI
 ic:IC
def b2a(P:Program)(o:Oper):Option (Operand×Nat):=match o.guard,o.op,o.dst with
 | none,.range mt mo,some rt=>match P.underlying mt with|some (.map _ _)=>some (mo,rt)|_=>none
 | _,_,_=>none
def d0k(o:Oper):Option (Nat×Nat):=match o.guard,o.op,o.dst with
 | none,.next (.tmp rt) false,some nt=>some (rt,nt)
 | _,_,_=>none
def c5f(o:Oper):Option (Nat×Nat):=match o.guard,o.op,o.dst with
 | none,.extract (.tmp nt) 0,some tb=>some (nt,tb)
 | _,_,_=>none
def b6q(o:Oper):Option (Nat×Nat):=match o.guard,o.op,o.dst with
 | none,.entry (.tmp rt),some et=>some (rt,et)
 | _,_,_=>none
def Ph(P:Program):Code->Option MapParts
 | .seq (.region _ opsA false) (.block b0 (.loop (.seq (.region _ opsN false) (.seq (.cond (.tmp tb) .skip (.exit b0')) (.block b1 (.seq (.region _ opsE false) body))))))=>
  match opsA.toList.getLast?,opsN.toList,opsE.toList with
  | some oR,[oN,oX],oE::osE=>
   (b2a P oR).bind λr=>(d0k oN).bind λn=>(c5f oX).bind λx=>(b6q oE).bind λe=>(YL r.1).bind λm=>(XL P opsA 0 opsA.toList.dropLast).bind λpsA=>(XL P opsE 0 osE).bind λpsE=>(Um P body).bind λic=>if b0=b0'∧WW body=true∧n.1=r.2∧x=(n.2,tb)∧e.1=r.2∧r.2≠n.2∧r.2≠tb∧n.2≠tb then some ⟨psA,m,r.2,n.2,tb,e.2,b1,psE,ic⟩else none
  | _,_,_=>none
 | _=>none
theorem d4t{P:Program}{o:Oper}{r:Operand×Nat}(h:b2a P o=some r): ∃ mt kt vt,o.guard=none∧o.op = .range mt r.1∧o.dst=some r.2∧P.underlying mt=some (.map kt vt):=by
 unfold b2a at h;split at h
 ·rename_i mt mo rt h1 h2 h3;split at h
  ·rename_i kt vt hu;cases h;exact⟨mt,kt,vt,h1,h2,h3,hu⟩
  ·cases h
 ·cases h
theorem e2y{o:Oper}{r:Nat×Nat}(h:d0k o=some r):o.guard=none∧o.op = .next (.tmp r.1) false∧o.dst=some r.2:=by
 unfold d0k at h;split at h
 ·rename_i h1 h2 h3;cases h;exact⟨h1,h2,h3⟩
 ·cases h
theorem e4k{o:Oper}{r:Nat×Nat}(h:c5f o=some r):o.guard=none∧o.op = .extract (.tmp r.1) 0∧o.dst=some r.2:=by
 unfold c5f at h;split at h
 ·rename_i h1 h2 h3;cases h;exact⟨h1,h2,h3⟩
 ·cases h
theorem d0s{o:Oper}{r:Nat×Nat}(h:b6q o=some r):o.guard=none∧o.op = .entry (.tmp r.1)∧o.dst=some r.2:=by
 unfold b6q at h;split at h
 ·rename_i h1 h2 h3;cases h;exact⟨h1,h2,h3⟩
 ·cases h
theorem d4x{P:Program}{cd:Code}{p:MapParts}(h:Ph P cd=some p):
  ∃ ida idn ide b0 opsA opsN opsE a,cd = .seq (.region ida opsA false) (.block b0 (.loop (.seq (.region idn opsN false) (.seq (.cond (.tmp p.tb) .skip (.exit b0)) (.block p.b1 (.seq (.region ide opsE false) a))))))∧MapRange P opsA opsN opsE p.psA p.psE p.m p.rt p.nt p.tb p.et∧Tr P a p.ic∧WW a=true:=by
 unfold Ph at h;split at h
 ·rename_i ida opsA b0 idn opsN tb b0' b1 ide opsE a;split at h
  ·rename_i oR oN oX oE osE g D E;simp only[Ic]at h;obtain⟨r,h1,n,h2,x,h3,e,s,m,V,psA,S,psE,O,ic,I,i⟩:=h;split at i
   ·rename_i hc;obtain⟨rfl,F,J,U,y,u,z,H⟩:=hc;cases i;obtain⟨mt,kt,vt,W,K,Q,N⟩:=d4t h1;obtain⟨C,l,A⟩:=e2y h2;obtain⟨B,k,j⟩:=e4k h3;obtain⟨L,q,M⟩:=d0s s;rw[U]at k j;rw[J]at l;rw[y]at q;refine⟨ida,idn,ide,b0,opsA,opsN,opsE,a,rfl,⟨⟨opsA.toList.dropLast,oR,mt,kt,vt,r.1,?_,S,W,K,Q,V,N⟩,⟨oN,oX,D,C,l,A,B,k,j⟩,⟨oE,osE,E,L,q,M,O⟩,⟨u,z,H⟩⟩,AY I,F⟩;have b:opsA.toList≠[]:=by intro e;rw[e]at g;cases g
    rw[List.getLast?_eq_some_getLast b]at g;cases g;exact(List.dropLast_concat_getLast b).symm
   ·cases i
  ·cases h
 ·cases h
def i9n(T:ZO)(r:Nat)(p:MapParts)(st:St)(q:XE->St->Prop):Prop:=
 ∃ (b S:St) (j u g e:Nat) (es:List (PV×PV)) (keep sl:List Nat) (I:List (PV×PV)->St->Prop),
  Jm T st.heap.length p.psA (grow st (news p.psA))=some b∧ev b.env p.m = .map j∧b.heap[j]? = some (.obj (.map es)) ∧
  Gd r keep ⟨b.env.set p.rt (.ptr b.heap.length 0),b.heap.set j .dead++[.dead]⟩=some S∧p.m = .t g∧g≠p.rt∧S.env[g]? = some (.map e)∧I [] S ∧
  (∀ a s,I a s->(s.env[p.rt]? = some (.ptr u 0)∧p.nt<s.env.length∧p.tb<s.env.length∧p.et<s.env.length)∧s.heap[e]? = some .dead) ∧
  (∀ a i s h,es.Perm (a++i::h)->I a s-> ∃ l,Jm T s.heap.length p.psE (grow ⟨((s.env.set p.nt .junk).set p.tb .junk).set p.et (.pv (.tup [i.1,i.2])),s.heap⟩ (news p.psE))=some l∧ ∃ k,(∀ x,¬ k x) ∧
   Xp T (λn y _=>n=99∧I (a++[i]) y) s.heap.length k (.inl p.ic) [.blk p.b1,.seq (.ext 99 sl)] l) ∧
  ∀ a s,a.Perm es->I a s->q .normal ⟨(s.env.set p.nt .junk).set p.tb .junk,s.heap.set e (.obj (.map es))⟩
theorem g6z{u:Nat}{p:MapParts}{cd:Code}(r:YC P T)(b:P.follows .mixedOrders=true)(l:Ph P cd=some p)(D : ∀ i m,u<=i->c.μ0 i m=none){st:St}{a:Act}{w:World}{q:XE->St->Prop}(hr:VL c st a w)(A:i9n T u p st q):
  (Eh r b).W cd (λe a' w'=> ∃ x st',e=x.ex∧q x st'∧VL c st' a' w') a w:=by
 obtain⟨ida,idn,ide,b0,opsA,opsN,opsE,body,rfl,N,j,g⟩:=d4x l;obtain⟨st1,S,lm,li,msl,lm2,es,keep,sl,I,J,M,L,y,O,B,K,E,F,H,C⟩:=A
 have:=h5i (rd:=none) (nn:=4) (ida:=ida) (idn:=idn) (ide:=ide) (b0:=b0) (Q:=λe a' w'=> ∃ x st',e=x.ex∧q x st'∧VL c st' a' w') N r b hr D J M L y O B K I E F j g H λk s a' w' z hi h=>⟨.normal,_,rfl,C k s z hi,by rw[Kn h.choose_spec.choose_spec.2.2];exact h⟩
 rw[Kn hr.choose_spec.choose_spec.2.2]at this;exact wpIn_wide.1 this
end
end
open Go.MapKept (IsKey findNow_spec heap_set)
end Go.Pl
namespace Go.Pl
open Go.RowKit
open Enc (enc dec is)
open EncL (encL decL isL)
abbrev KJ{α β:Type}[EncL α][Enc β](pre:α->Bool)(F:α->β)(ps:List PV)(k:β->Prop):Prop:=preT pre ps=true∧ ∃ y:β,AV.pv (Zr F ps)=AV.pv (enc y)∧k y
abbrev ceP{α β:Type}[EncL α][Enc β](F:α->β)(ps:List PV)(k:β->Prop):Prop:= ∃ y:β,AV.pv (Zr F ps)=AV.pv (enc y)∧k y
abbrev Tt{α:Type}[Enc α](l:List α)(i:Int)(n:Nat)(k:α->Prop):Prop:=(decide (0<=i)&&decide (Int.toNat i<aK (cO (enc:α->PV) l))&&Enc.sz α==n)=true∧ ∃ y:α,AV.pv (PV.rptr (PV.cells (aM (cO (enc:α->PV) l) (Int.toNat i) default)))=AV.pv (PV.rptr (PV.cells (enc y)))∧k y
abbrev ctP(a b:List UInt8):Prop:=decide (a.length+b.length<=1099511627776)=true
end Go.Pl
namespace Go.Pl
open Go.RowKit
structure CloneC (P:Program) (f ty sz:Nat):Prop where
 nil : ∀ (n c:Nat) (w:World),Calls P f #[.slice none n c] w λe w'=>e = .returned (.slice none 0 0)∧w'=w
 zero : ∀ (a:Addr) (c:Nat) (w:World),Calls P f #[.slice (some a) 0 c] w λe w'=>(∃ g,e = .returned (.slice (some g) 0 0))∧Below w.heap.size w w'
 some_ : ∀ (a:Addr) (n c:Nat) (news:List Value) (w:World),0<n->n<=2000000->news.length=n*sz->(∀ j u,news[j]? = some u->w.cell? (a.add j)=some u)->(∀ u∈news,u.oneCell'=true) ->
  Calls P f #[.slice (some a) n c] w λe w'=> ∃ v',e = .returned v'∧w'.ownsRow w.heap.size ty sz v' n news∧Below w.heap.size w w'
def Sn(sz:Nat):List AV->List AObj->Bool
 | [.pv (.sl s _ xs)],[]=>(xs.isEmpty||s==sz)&&decide (xs.length<=2000000)
 | _,_=>false
def Fw(ty sz:Nat):List AV->List AObj->AV×List AObj×List AObj
 | [.pv (.sl _ _ xs)],_=>if xs.isEmpty=true then(.pv (.sl sz true []),[],[])else(.row 0 xs.length 0 xs.length,[],[.row false ty sz xs])
 | _,_=>(.pv .nilp,[],[])
def d2z{c:Ctx}{μ:Mu}{Φ:Ye}{σ:ZN}{w w':World}(e:Good c μ Φ σ w)(hb:Below w.heap.size w w'):Good c μ Φ σ w':=
 e.below hb (Ye.le.refl _) (λb cs hc=>by
  obtain⟨T,fz,h⟩:=e.phi b cs hc;have a:b<w.heap.size:=(Ih.1 h).1
  exact⟨T,fz,(hb.block b a).trans h⟩) (λb cs h=>.inl h)
def e2z{P:Program}{f ty sz:Nat}(H:CloneC P f ty sz)(hsz:0<sz):Y4 P f (Sn sz) (Fw ty sz):=by
 intro args os x os' ext l i;unfold Sn at l;split at l
 ·rename_i s t xs;simp only[Ii,decide_eq_true_eq]at l;obtain⟨hs,D⟩:=l;simp only[Fw]at i;by_cases h0:xs=[]
  ·subst h0;rw[if_pos (show([]:List PV).isEmpty=true from rfl)]at i;simp only[Ia]at i;obtain⟨rfl,rfl,rfl⟩:=i;refine⟨rfl,λμ Φ w vs y E=> ?_⟩;obtain⟨vs⟩:=vs
   match vs,E.1 with
   | [v],_=>
    have r:=Xa (E.2 0 v _ rfl rfl);obtain⟨p,cap,rfl⟩ : ∃ p cap,v = .slice p 0 cap:=by
     cases r with
     | sl0 a c sz t h=>exact⟨_,_,rfl⟩
     | sl b off cs c sz t xs u hb hc ht hs hu hr=>exact⟨_,_,rfl⟩
    cases p with
    | none=>refine(H.nil 0 cap w).mono ?_;rintro e w' ⟨rfl,rfl⟩;exact⟨_,μ,Φ,rfl,y,.pv _ _ (.sl0 _ _ _ _ λ_=>rfl)⟩
    | some a=>refine(H.zero a cap w).mono ?_;rintro e w' ⟨⟨g,rfl⟩,hb⟩;exact⟨_,μ,Φ,rfl,d2z y hb,.pv _ _ (.sl0 _ _ _ _ λ_=>rfl)⟩
  ·have A : ¬ xs.isEmpty=true:=by simpa using h0
   rw[if_neg A]at i;simp only[Ia]at i;obtain⟨rfl,rfl,rfl⟩:=i;refine⟨rfl,λμ Φ w vs y E=> ?_⟩;obtain⟨vs⟩:=vs
   match vs,E.1 with
   | [v],_=>
    have r:=Xa (E.2 0 v _ rfl rfl);obtain⟨b,off,Z,cs,N,V,z2,z3,z4,Q,z6,M,O⟩:=r.sl_cells y.phi h0;have e:s=sz:=by
     rcases bg _ _ |>.mp hs with h|h
     ·exact absurd h A
     ·exact beq_iff_eq.mp h
    subst e;subst V;have q:0<xs.length:=by
     cases xs with
     | nil=>exact absurd rfl h0
     | cons=>simp
    have K:N.length=xs.length*s:=by rw[M.1,Ul Q]
    refine(H.some_ ⟨b,off,none⟩ xs.length Z N w q D K (λj u X=>by rw[VZ];exact z6 j u X) O).mono ?_;rintro e w' ⟨v',rfl,z,hb⟩;have F:=y.grow 1;obtain⟨g,cap,J,rfl,W,g3,g4,g5,Y,S⟩:=LC y z (λk I=>hb.block k I) (xs:=xs) rfl q;obtain⟨μ',q1,T,U⟩:=O4 (w':=w') F (L:=0) (by simp[Xl]) (ty:=ty) (sz:=s) (xs:=xs) (B:=g) (C:=cap) (cs:=J) hb.os hb.tape hb.output hb.size (λk I=>hb.block k I) W g3 Y g4 g5 Q
     (by rw[S];exact M) (by rw[S];exact O)
    exact⟨_,μ',Φ,rfl,T,U⟩
 ·cases l
def Y4.frz{P:Program}{f:Nat}{pre:List AV->List AObj->Bool}{val val':List AV->List AObj->AV×List AObj×List AObj}(h:Y4 P f pre val)
  (F : ∀ args os,pre args os=true-> ∃ x b a p σ ys g u,val args os=(x,b,a)∧(frz x).run (Xl (b++a))=some (p,σ)∧Og os.length (Hd 256 (Ik os.length) [] σ) [] σ=some (ys,g)∧Sub p u∧val' args os=(.pv u,g.take os.length,g.drop os.length)):Y4 P f pre val':=by
 intro args os x os' ext k l;obtain⟨A,b,a,p,σ,ys,g,u,h1,h2,h3,C,z⟩:=F args os k;rw[l]at z;simp only[Ia]at z;obtain⟨rfl,rfl,rfl⟩:=z;obtain⟨q,hlen2⟩:=Ap h3;refine⟨by simp;omega,?_⟩;intro μ Φ w vs B s;have E : ∀ i m,os.length<=i->(entry μ Φ (Xl os) w).μ0 i m=none:=by intro i m hi;refine B.fresh i m (.inl ?_);rw[Ij];simp[Xl];exact hi
 refine((h args os A b a k h1).2 μ Φ w vs B s).mono ?_;rintro e w' ⟨v,μ',Φ',rfl,r,D⟩;obtain⟨Φ1,hle,hg1,hp⟩:=ER A h2 r D;have y:XN μ' Φ1 (#[]:Array Value) ([]:List AV):=⟨rfl,λj v x h=>by simp at h⟩
 obtain⟨k1,k2⟩:=Vu E hg1 y q;refine⟨v,μ'.ren (Hd 256 (Ik os.length) [] σ),Φ1,rfl,?_,.pv _ _ (RP.sub C hp)⟩;rw[IQ];exact k1
def Ub.subL{Φ:Ye}{vs:List Value}{ps qs:List PV}(h:Ub Φ vs ps)(k:Hu ps qs):Ub Φ vs qs:=
 ⟨h.1.trans k.1,λj v y e b=>by
  have g:j<ps.length:=by rw[k.1];exact(Ig.1 b).1
  have a:ps[j]? = some ps[j]:=Ib g
  exact k.2 j _ y a b Φ v (h.2 j v _ e a)⟩
def Y4.thaw{P:Program}{f:Nat}{pre pre':List AV->List AObj->Bool}{val val':List AV->List AObj->AV×List AObj×List AObj}(h:Y4 P f pre val)
  (l : ∀ args os,pre' args os=true-> ∃ n ps qs z x k y a,Hu ps qs∧(KM args).run (Xl os++Ir n .fresh)=some (ps,z)∧(PQ os.length pre val (qs.map .pv)).run z=some (x,k)∧Og os.length (Hd 256 (Ik os.length++Ho [x]) [] k) [x] k=some ([y],a)∧val' args os=(y,a.take os.length,a.drop os.length)):Y4 P f pre' val':=by
 intro args os I os' ext b g;obtain⟨n,ps,qs,z,x,k,y,a,hs,h2,h3,C,A⟩:=l args os b;rw[g]at A;simp only[Ia]at A;obtain⟨rfl,rfl,rfl⟩:=A;obtain⟨r,hlen2⟩:=Ap C;refine⟨by simp;omega,?_⟩;intro μ Φ w vs B s;have F : ∀ i m,os.length<=i->(entry μ Φ (Xl os) w).μ0 i m=none:=by intro i m hi;refine B.fresh i m (.inl ?_);rw[Ij];simp[Xl];exact hi
 obtain⟨Φ1,f1,f2,f3⟩:=Kz args h2 (B.grow n) s;refine(d8h (L:=os.length) h f2 (f3.subL hs).toRL h3).mono ?_;rintro e w' ⟨v,rfl,μ',Φ',k1,k2,k3,D⟩
 have u:XN μ' Φ' (#[v]:Array Value) [x]:=⟨rfl,λj v' x' l q=>by
  cases j with
  | zero=>simp at l q;subst l q;exact D
  | succ j=>simp at q⟩
 obtain⟨E,H⟩:=Vu F k3 u r;refine⟨v,_,Φ',rfl,?_,H.2 0 v I rfl rfl⟩;rw[IQ];exact E
def VB.of_own{P:Program}{f:Nat}{pre:List AV->List AObj->Bool}{val:List AV->List AObj->AV×List AObj×List AObj}{pre':List PV->Bool}{val':List PV->PV}(h:Y4 P f pre val)
  (A : ∀ ps,pre' ps=true-> ∃ qs x ext p σ,Hu ps qs∧pre (qs.map .pv) []=true∧val (qs.map .pv) []=(x,[],ext)∧(frz x).run (Xl ext)=some (p,σ)∧Sub p (val' ps)):VB P f pre' val':=by
 intro ps hps Φ w vs u s g;obtain⟨qs,x,ext,p,σ,h1,h2,h3,j,z⟩:=A ps hps;have y:=CF u s;refine((h (qs.map .pv) [] x [] ext h2 h3).2 (λ_ _=>none) Φ w vs y (g.subL h1).toRL).mono ?_;rintro e w' ⟨v,μ',Φ',rfl,a,q⟩;obtain⟨Φ1,hle,hg1,hp⟩:=ER x j a q;refine⟨v,Φ1,rfl,hg1.Φle,hg1.phi,RP.sub z hp,⟨hg1.os,hg1.tape,hg1.output,hg1.size,λk r=>hg1.frame k r (by rintro⟨l,o,h,_⟩;simp[Xl]at h)⟩,λb cs i=> ?_⟩;rcases hg1.dom b cs i with h|h|h
 ·exact .inl h
 ·exact .inr h
 ·obtain⟨l,o,h,_⟩:=h;simp[Xl]at h
def ZQ.of_own{P:Program}{f:Nat}{α β:Type}[EncL α][Enc β]{b:List AV->List AObj->Bool}{e:List AV->List AObj->AV×List AObj×List AObj}{pre:α->Bool}{F:α->β}(h:Y4 P f b e)
  (i : ∀ a:α,pre a=true-> ∃ x ext p σ,b ((EncL.encL a).map .pv) []=true∧e ((EncL.encL a).map .pv) []=(x,[],ext)∧(frz x).run (Xl ext)=some (p,σ)∧Sub p (Enc.enc (F a))):ZQ P f pre F:=
 VB.of_own h λps hps=>by simp only[preT,Ii]at hps;obtain⟨x,ext,p,σ,h1,h2,h3,g⟩:=i (EncL.decL ps) hps.2;exact⟨EncL.encL (EncL.decL ps:α),x,ext,p,σ,EncL.subL ps hps.1,h1,h2,h3,g⟩
open Enc (enc dec is)
open EncL (encL decL isL)
def d2t{P:Program}{f ty:Nat}{α:Type}[Enc α](hz:0<Enc.sz α)(h:Y4 P f (Sn (Enc.sz α)) (Fw ty (Enc.sz α))):
  ZQ P f (λx:List α×Unit=>decide (x.1.length<=2000000)) (λx:List α×Unit=>x.1):=ZQ.of_own h λa ha=>by
 obtain⟨l,u⟩:=a;have ha:l.length<=2000000:=by simpa using ha
 have e:Sn (Enc.sz α) ((EncL.encL ((l,u):List α×Unit)).map .pv) []=true:=by show(((l.map (enc:α->PV)).isEmpty||Enc.sz α==Enc.sz α)&&decide ((l.map (enc:α->PV)).length<=2000000))=true;rw[IR,decide_eq_true ha];simp
 by_cases h0:l=[]
 ·subst h0;exact⟨.pv (.sl (Enc.sz α) true []),[],.sl (Enc.sz α) true [],[],e,rfl,rfl,Sub.sl _ _ _⟩
 ·have b : ¬ (l.map (enc:α->PV)).isEmpty=true:=by simpa using h0
  refine⟨.row 0 (l.map (enc:α->PV)).length 0 (l.map (enc:α->PV)).length,[.row false ty (Enc.sz α) (l.map enc)],.sl (Enc.sz α) false (((l.map (enc:α->PV)).take (l.map (enc:α->PV)).length).drop 0),[.obj (.row true ty (Enc.sz α) (l.map enc))],e,?_,?_,?_⟩
  ·show(if (l.map (enc:α->PV)).isEmpty=true then _ else _)=_;rw[if_neg b]
  ·simp[frz,Iy,Xl,HM.req]
  ·rw[List.take_length,bv];exact .refl _
section
section
variable {P:Program} {T:ZO} {E:VT} {f:Nat} {fn:Func} {ic:IC} {rs:List IRes}
theorem g7q{c:Ctx}{st:St}{R:Ending->World->Prop}{B nn:Nat}{a:Act}(j:c.w0.heap.size<=B)(q : ∀ b,VL c st a b-> ∃ v,(results fn a.tmps).run P b = .ok v b∧R (.returned v) b):
  ∀ (ds:List Deferred) (w:World),PG B ds w->VL c st a w->LeavesInM (Xy none) nn P fn a.tmps R ds .returning w:=by
 intro ds
 induction ds with
 | nil=>intro w _ hr;exact q w hr
 | cons d ds ih=>
  rintro w ⟨h1,h2⟩ hr;rw[aG]at h1;obtain⟨D,s,k1,g⟩:=h2 d (by simp);refine⟨by simp,.inl ⟨D,_,by rw[k1],run_takeDeferred g,ih _ ⟨h1.2,λu hd'=> ?_⟩ ?_⟩⟩
  ·obtain⟨D',l,h,k⟩:=h2 u (by simp[hd']);refine⟨D',l,h,?_⟩;rw[IA ?_]
   ·exact k
   ·rintro rfl;rw[k1,<- h]at h1;exact h1.1 hd'
  ·obtain⟨μ,Φ,g1,g2,g3⟩:=hr;refine⟨μ,Φ,g1.grown (.inr λr e es ck i=> ?_) (grownBy_putObj' w D (.deferred none)) j (λr e=> ?_),g2,g3⟩
   ·cases e;rw[g]at i;cases i
   ·cases e;exact⟨s,_,g,rfl⟩
theorem ZQ.ofM{sel:Code->Bool}{α β:Type}[EncL α][Enc β]{pre:α->Bool}{F:α->β}(H:YC P T)(g:P.follows .mixedOrders=true)(Q:P.funcs[f]? = some fn)(z:c3a P sel fn=some ic)
  (D:Wz (XM P) fn.results.toList=some rs) {nt:Nat} (s:fn.ntmps=nt) (W : ∀ (B:Nat) (c:Ctx),c.w0.heap.size=B->(∀ i m,0<=i->c.μ0 i m=none)->g4d (EQ B 4 H g) (λn cd=>Tk P sel fn n=some cd) E c)
  (h : ∀ a,pre a=true->BC T E 0 (Za rs (Zg (F a))) ic [] (Ym nt (encL a))):ZQ P f pre F:=by
 obtain⟨cd,hb,u⟩:=c2t z;subst s;intro ps hps Φ w vs M X h2;simp only[preT,Ii]at hps;have b:=EncL.subL ps hps.1;have l:Ub Φ vs.toList (encL (decL ps:α)):=by
  refine⟨h2.1.trans b.1,λj v x Z I=> ?_⟩;have K:j<ps.length:=by rw[b.1];exact(Ig.1 I).1
  exact b.2 j _ _ (Ib K) I _ _ (h2.2 j v _ Z (Ib K))
 refine callsIn_wide.1 (callsIn_of_wp_marks (F:=Xy none) (n:=4) Q hb trivial ?_ rfl);have S:=CF M X;have k:vs.size=(encL (decL ps:α)).length:=by have:=l.1;simpa using this
 have r:VL (entry (λ_ _=>none) Φ [] w) (Ym fn.ntmps (encL (decL ps:α))) {tmps:=vs++IW (fn.ntmps - vs.size) undef,defers:=[]} w:=by refine⟨_,Φ,S,?_,rfl⟩;show RL _ _ _ _;rw[IV,IL,k];exact l.toRL.append (Wl _)
 refine Iz (h _ hps.2 P (EQ w.heap.size 4 H g) _ _ (W w.heap.size _ rfl (λ_ _ _=>rfl)) (λ_ _ _=>rfl) [] .nil _ w r cd u rfl [] ⟨bu,λd hd=>by simp at hd⟩) ?_;rintro e a' w' ⟨hm,he,st,⟨p,q,A,C⟩,hr⟩;rcases he with rfl|rfl
 all_goals
  show LeavesInM _ _ _ _ a'.tmps _ a'.defers .returning w';refine g7q (a:=wd [] a') (c:=entry (λ_ _=>none) Φ [] w) (Iw _) (λw2 y=> ?_) _ w' hm hr;obtain⟨d1,v,U,v',Φ'',N,Y,O,V,L⟩:=i5o D y q;refine⟨v,U,v',Φ'',N,Y,O,?_,L⟩;have J:=(Enc.sub _ A).2 _ _ V;rw[C]at J;exact J
end
def f2h:Code->Bool
 | .rangeFunc .. =>true
 | _=>false
end
end Go.Pl
namespace Go.Pl
open Go.RowKit
structure Steps (X X':Nat->Prop) (Φ Φ':Ye) (W W':World):Prop where
 os:W'.os=W.os
 tape:W'.tape=W.tape
 output:W'.output=W.output
 size:W.heap.size<=W'.heap.size
 keep : ∀ b,b<W.heap.size-> ¬ X b->W'.heap[b]? = W.heap[b]?
 le:Φ.le Φ'
 phi:Qg Φ' W'
 dom : ∀ b cs,Φ' b=some cs->Φ b=some cs∨X b∨W.heap.size<=b
 own : ∀ b,X' b->(X b∨W.heap.size<=b)∧b<W'.heap.size∧Φ' b=none
structure JOK (J:Ye->(Nat->Prop)->World->Prop):Prop where
 phi : ∀ {Φ X W},J Φ X W->Qg Φ W
 glob : ∀ {Φ X W},J Φ X W->GlobOK Φ
 out : ∀ {Φ X W b},J Φ X W->X b->b<W.heap.size∧Φ b=none
 step : ∀ {Φ X W Φ' X' W'},J Φ X W->Steps X X' Φ Φ' W W'->J Φ' X' W'
def e3o(J g:Ye->(Nat->Prop)->World->Prop)(Φ:Ye)(X:Nat->Prop)(a:World)(e:Ending)(W':World):Prop:=∃ Φ',Φ.le Φ'∧(∀ b,X b->W'.heap[b]? = a.heap[b]?)∧((e = .returned (.bool true)∧J Φ' X W')∨(e = .returned (.bool false)∧g Φ' X W'))
def d9m{α:Type}(P:Program)(l:Nat)(a:α->List PV)(xs:List α)(J:Nat->Ye->(Nat->Prop)->World->Prop)(e:Ye->(Nat->Prop)->World->Prop):Prop:=∀ n k x Φ X b (vs:Array Value),xs[k]? = some x->J k Φ X b->Ub Φ vs.toList (a x)->YieldAt aD n P l vs b (e3o (J (k+1)) e Φ X b)
def f4e{α:Type}(P:Program)(g:Nat)(encp:α->List PV)(pre:List (List PV)->Bool)(F:List (List PV)->List α):Prop:=
 (∃ fn,P.funcs[g]? = some fn∧fn.body.isSome=true∧(fn.name == "runtime.NumGoroutine")=false) ∧
 ∀ pss,pre pss=true-> ∀ Φ (lb:Array Value) (l:Nat) (J:Nat->Ye->(Nat->Prop)->World->Prop) (Jx:Ye->(Nat->Prop)->World->Prop) (W:World),
  i9q Φ lb.toList pss->(∀ k,JOK (J k))->JOK Jx->d9m P l encp (F pss) J Jx->J 0 Φ (λ_=>False) W ->
  Calls P g (#[.func (.yield l) #[] #[]]++lb) W λe W'=>(∃ v,e = .returned v)∧ ∃ Φ' X',(J (F pss).length Φ' X' W'∨Jx Φ' X' W')
def Good.steps{c:Ctx}{μ:Mu}{Φ Φ':Ye}{σ:ZN}{W W':World}{X X':Nat->Prop}(h:Good c μ Φ σ W)(s:Steps X X' Φ Φ' W W')(g : ∀ b,X b->c.w0.heap.size<=b∧ ∀ l o,σ[l]? = some (.obj o)->blk μ l o≠b):Good c μ Φ' σ W':=by
 refine⟨s.phi,?_,h.apart,h.fresh,h.own,s.os.trans h.os,s.tape.trans h.tape,s.output.trans h.output,IM h.size s.size,?_,h.Φle.trans s.le,h.μle,?_,h.laid⟩
 ·intro l o ho;have e:=h.obj l o ho;have a : ¬ X (blk μ l o):=λj=>(g _ j).2 l o ho rfl
  refine(e.keep (aS _) (λ_=>rfl) s.le ?_ (s.keep _ e.blk_lt a)).1;cases i:Φ' (blk μ l o)with
  | none=>
   cases q:Φ (blk μ l o)with
   | none=>rfl
   | some cs=>rw[s.le _ _ q]at i;cases i
  | some cs=>
   rcases s.dom _ _ i with hd|hd|hd
   ·exact hd.symm
   ·exact absurd hd a
   ·have:=e.blk_lt;omega
 ·intro b h1 h2;have a : ¬ X b:=λj=>by have:=(g _ j).1;omega
  rw[s.keep b (IP h1 h.size) a];exact h.frame b h1 h2
 ·intro b cs k;rcases s.dom b cs k with hd|hd|hd
  ·exact h.dom b cs hd
  ·exact .inr (.inl (g _ hd).1)
  ·exact .inr (.inl (IM h.size hd))
structure JB (B:Nat) (ds:List Deferred) (c:Ctx) (tm:Array Value) (env:List AV) (Φ1:Ye) (n0:Nat) (rec:Loop) (I:ZN->Prop) (Φ:Ye) (X:Nat->Prop) (W:World):Prop where
 ex : ∃ σ μ,I σ∧Good c μ Φ σ W∧XN μ Φ tm env∧ ∀ b,X b-> ∀ l o,σ[l]? = some (.obj o)->blk μ l o≠b
 xs : ∀ b,X b->n0+2<=b∧b<W.heap.size∧Φ b=none
 hn0:c.w0.heap.size<=n0
 le:Φ1.le Φ
 mks:PG B ds W
 mkb : ∀ d∈ds,∃ D,d={target:=.collected D,args:=#[]}∧D<n0
 lp:W.heap[n0+1]? = some (.loop rec)
 df:W.heap[n0]? = some (.deferred (some []))
def JB.ok{B:Nat}{ds:List Deferred}{c:Ctx}{tm:Array Value}{env:List AV}{Φ1:Ye}{n0:Nat}{rec:Loop}{I:ZN->Prop}:JOK (JB B ds c tm env Φ1 n0 rec I) where
 phi h:=by obtain⟨σ,μ,_,hg,_⟩:=h.ex;exact hg.phi
 glob h:=by obtain⟨σ,μ,_,hg,_⟩:=h.ex;exact hg.laid.mono hg.Φle
 out h a:=(h.xs _ a).2
 step {Φ X W Φ' X' W'} h s:=by
  obtain⟨σ,μ,h1,h2,h3,h4⟩:=h.ex;have hn : ∀ b,b<n0+2-> ¬ X b:=λb hb a=>by have:=(h.xs _ a).1;omega
  have e:n0+1<W.heap.size:=(Ih.1 h.lp).1;refine⟨⟨σ,μ,h1,h2.steps s λb hb=>⟨by have:=(h.xs _ hb).1;have:=h.hn0;omega,h4 b hb⟩,h3.mono (.refl _) s.le,λb hb l o i=> ?_⟩,λb hb=> ?_,h.hn0,h.le.trans s.le,⟨h.mks.1,λd hd=> ?_⟩,h.mkb,?_,?_⟩
  ·rcases (s.own b hb).1 with a|a
   ·exact h4 b a l o i
   ·have:=(h2.obj l o i).blk_lt;omega
  ·obtain⟨y,u,q⟩:=s.own b hb;refine⟨?_,u,q⟩;rcases y with a|a
   ·exact(h.xs _ a).1
   ·omega
  ·obtain⟨D,k,g,r⟩:=h.mks.2 d hd;obtain⟨D',j,e4⟩:=h.mkb d hd;have e5:D=D':=by rw[g]at j;simpa using j
   refine⟨D,k,g,?_⟩;rw[s.keep D (by omega) (hn D (by omega))];exact r
  ·rw[s.keep _ e (hn _ (by omega))];exact h.lp
  ·rw[s.keep _ (by omega) (hn _ (by omega))];exact h.df
def JB.putLoop{B:Nat}{ds:List Deferred}{c:Ctx}{tm:Array Value}{env:List AV}{Φ1:Ye}{n0:Nat}{rec rec':Loop}{I:ZN->Prop}{Φ:Ye}{X:Nat->Prop}{W:World}(h:JB B ds c tm env Φ1 n0 rec I Φ X W):JB B ds c tm env Φ1 n0 rec' I Φ X (W.putObj (n0+1) (.loop rec')):=by
 obtain⟨σ,μ,h1,h2,h3,h4⟩:=h.ex;have g:n0+1<W.heap.size:=(Ih.1 h.lp).1;have a:=grownBy_putObj' W (n0+1) (Obj.loop rec');refine⟨⟨σ,μ,h1,h2.grown (B:=n0+1) (.inr λr e es ck j=> ?_) a (by have:=h.hn0;omega) (λr e=> ?_),h3,h4⟩,λb hb=> ?_,h.hn0,h.le,⟨h.mks.1,λd hd=> ?_⟩,h.mkb,World.putObj_heap_same g,(IA (by omega)).trans h.df⟩
 ·cases e;rw[h.lp]at j;cases j
 ·cases e;exact⟨Iw _,_,h.lp,rfl⟩
 ·obtain⟨k1,k2,k3⟩:=h.xs b hb;exact⟨k1,by have:=a.size;omega,k3⟩
 ·obtain⟨D,l,i,q⟩:=h.mks.2 d hd;obtain⟨D',k,e4⟩:=h.mkb d hd;have e5:D=D':=by rw[i]at k;simpa using k
  exact⟨D,l,i,(IA (by omega)).trans q⟩
def JB.round{B:Nat}{ds:List Deferred}{c:Ctx}{tm:Array Value}{env:List AV}{Φ1:Ye}{n0:Nat}{rec:Loop}{I I':ZN->Prop}{Φ Φ':Ye}{X:Nat->Prop}{W W':World}{σ k:ZN}{μ μ':Mu}(h:JB B ds c tm env Φ1 n0 rec I Φ X W)
  (i:Good c μ Φ σ W) (y:XN μ Φ tm env) (s : ∀ b,X b-> ∀ l o,σ[l]? = some (.obj o)->blk μ l o≠b) (a:Good (entry μ Φ σ W) μ' Φ' k W') (q:I' k):JB B ds c tm env Φ1 n0 rec I' Φ' X W'∧ ∀ b,X b->W'.heap[b]? = W.heap[b]? :=by
 have g : ∀ b,X b-> ¬ (entry μ Φ σ W).own b:=by rintro b hb ⟨l,o,j,e⟩;exact s b hb l o j e
 refine⟨⟨⟨k,μ',q,i.unbase a,y.mono a.μle a.Φle,λb hb l o j e=> ?_⟩,λb hb=> ?_,h.hn0,h.le.trans a.Φle,h.mks.keep i a,h.mkb,i.keeps a h.lp rfl (.inr λes r e=>by cases e),i.keeps a h.df rfl (.inr λes r e=>by cases e)⟩,λb hb=> ?_⟩
 ·rcases a.own l o j with h1|h1
  ·have h1:W.heap.size<=blk μ' l o:=h1
   have:=(h.xs b hb).2.1;omega
  ·rw[e]at h1;exact g b hb h1
 ·obtain⟨k1,z,k3⟩:=h.xs b hb;refine⟨k1,IP z a.size,?_⟩;cases u:Φ' b with
  | none=>rfl
  | some cs=>
   rcases a.dom b cs u with h1|h1|h1
   ·have h1:Φ b=some cs:=h1;rw[k3]at h1;cases h1
   ·have h1:W.heap.size<=b:=h1;omega
   ·exact absurd h1 (g b hb)
 ·exact a.frame b (h.xs b hb).2.1 (g b hb)
def Ub.mapRL{μ:Mu}{Φ:Ye}{vs:List Value}{ps:List PV}(h:Ub Φ vs ps):RL μ Φ vs (ps.map .pv):=h.toRL
def NV(μ:Mu)(σ:ZN):Nat->Prop:=λb=> ∃ l o,σ[l]? = some (.obj o)∧blk μ l o=b
def d5b(σ:ZN):Prop:= ∀ (l:Nat) o,σ[l]? = some (Slot.obj o)-> ∀ ty sz xs,o ≠ .row true ty sz xs
def H5.none{μ:Mu}{Φ:Ye}{w:World}{l:Nat}{o:AObj}(h:H5 μ Φ w l o)(hs : ∀ ty sz xs,o ≠ .row true ty sz xs):Φ (blk μ l o)=none:=by
 cases o with
 | box xs=>obtain⟨B,C,S,T,cs,h1,h2,h3,e,a⟩:=h;simpa [blk,h1]using a
 | map es=>obtain⟨B,C,S,mes,ck,h1,h2,h3,e,a,g⟩:=h;simpa [blk,h1]using a
 | row fz ty sz xs=>
  obtain⟨B,C,cs,h1,h2,h3,e,a,g,h7,h8,h9,b⟩:=h;cases fz with
  | true=>exact absurd rfl (hs ty sz xs)
  | false=>simpa [blk,h1]using b
def Steps.of_good{μ μ':Mu}{Φ Φ':Ye}{σ g:ZN}{w w':World}(a:Good (entry μ Φ σ w) μ' Φ' g w')(hs:d5b g):Steps (NV μ σ) (NV μ' g) Φ Φ' w w' where
 os:=a.os
 tape:=a.tape
 output:=a.output
 size:=a.size
 keep b h1 h2:=a.frame b h1 h2
 le:=a.Φle
 phi:=a.phi
 dom b cs h:=by
  rcases a.dom b cs h with h1|h1|h1
  ·exact .inl h1
  ·exact .inr (.inr h1)
  ·exact .inr (.inl h1)
 own b hb:=by
  obtain⟨l,o,e,rfl⟩:=hb;refine⟨?_,(a.obj l o e).blk_lt,(a.obj l o e).none (hs l o e)⟩;rcases a.own l o e with h|h
  ·exact .inr h
  ·exact .inl h
def Good.moved{μ:Mu}{Φ Φ':Ye}{σ:ZN}{w w':World}{c:Ctx}(h:Good c μ Φ σ w)(i:GlobOK Φ')(e:Φ.le Φ')(g:Qg Φ' w')(hb : ∀ b,NV μ σ b->w'.heap[b]? = w.heap[b]?)(hn : ∀ b,NV μ σ b->Φ' b=none)(hs:d5b σ):Good (entry μ Φ' σ w') μ Φ' σ w' where
 phi:=g
 obj l o ho:=by have a:=h.obj l o ho;refine(a.keep (aS _) (λ_=>rfl) e ?_ (hb _ ⟨l,o,ho,rfl⟩)).1;rw[hn _ ⟨l,o,ho,rfl⟩,a.none (hs l o ho)]
 apart:=h.apart
 fresh:=h.fresh
 own l o ho:=.inr ⟨l,o,ho,rfl⟩
 os:=rfl
 tape:=rfl
 output:=rfl
 size:=Iw _
 frame _ _ _:=rfl
 Φle:=.refl _
 μle:=.refl _
 dom b cs h:=.inl h
 laid:=i
end Go.Pl
namespace Go.Pl
open Go.RowKit Go.Shelf Go.Sort Go.Proofs
section
section
variable {P:Program} {ρ:Ren} {c:Ctx} {μ:Mu} {Φ:Ye} {σ:ZN} {w:World}
theorem wpList_append_run{ops:Array Oper}{rest:List Oper}{o:Oper}{a:Act}{Q:Exit->Act->World->Prop}(b:o.guard=none)(s x:Operand)(t u:TypeId)
  (ho:o.op = .call {callee:=.builtin .append,args:=#[s,x],argTypes:=#[t,u]}) (v y:Value) (hs:a.eval s=v) (g:a.eval x=y) {e:Value->World->Prop}
  (hr:VS P (Builtin.append_ #[t,u] o.type #[v,y]) w e) (h : ∀ v' w',e v' w'->wpList P ops Q rest (a.put o.dst v') w'):wpList P ops Q (o::rest) a w:=by
 obtain⟨v',w',hr,j⟩:=hr;refine wpList_plain b λ_ i=> ?_
 unfold Oper.wp execOp;simp only[ho,resolve,invoke,builtin,aC,aV,I9,List.map_toArray,Iq,bG,hs,g,hr];exact i _ _ (h v' w' j)
end
end
end Go.Pl
namespace Go.Pl
open Go.RowKit
def JB.mid{B:Nat}{ds:List Deferred}{c:Ctx}{tm:Array Value}{env:List AV}{Φ1:Ye}{n0:Nat}{rec rec':Loop}{I:ZN->Prop}{Φ Φ':Ye}{X:Nat->Prop}{W W':World}{σ g:ZN}{μ μ':Mu}(h:JB B ds c tm env Φ1 n0 rec I Φ X W)
  (u:Good c μ Φ σ W) (y:XN μ Φ tm env) (z : ∀ b,X b-> ∀ l o,σ[l]? = some (.obj o)->blk μ l o≠b) (a:Good (entry μ Φ σ W) μ' Φ' g W') :
  JB B ds c tm env Φ1 n0 rec' (λs=>s=g) Φ' X (W'.putObj (n0+1) (.loop rec'))∧(∀ b,X b->(W'.putObj (n0+1) (.loop rec')).heap[b]? = W.heap[b]?)∧Good c μ' Φ' g (W'.putObj (n0+1) (.loop rec'))∧XN μ' Φ' tm env∧(∀ b,X b-> ∀ l o,g[l]? = some (.obj o)->blk μ' l o≠b):=by
 obtain⟨k1,A⟩:=h.round u y z a (I':=λs=>s=g) rfl;have j : ∀ b,X b-> ¬ (entry μ Φ σ W).own b:=by rintro b hb ⟨l,o,k,e⟩;exact z b hb l o k e
 have hsz:n0+1<W'.heap.size:=(Ih.1 k1.lp).1;have i:=grownBy_putObj' W' (n0+1) (Obj.loop rec');refine⟨k1.putLoop,λb hb=> ?_,(u.unbase a).grown (B:=n0+1) (.inr λr e es ck q=> ?_) i (by have:=h.hn0;omega) (λr e=> ?_),y.mono a.μle a.Φle,λb hb l o k e=> ?_⟩
 ·exact(IA (by have:=(h.xs b hb).1;omega)).trans (A b hb)
 ·cases e;rw[k1.lp]at q;cases q
 ·cases e;exact⟨Iw _,_,k1.lp,rfl⟩
 ·rcases a.own l o k with h1|h1
  ·have h1:W.heap.size<=blk μ' l o:=h1
   have:=(h.xs b hb).2.1;omega
  ·rw[e]at h1;exact j b hb h1
def b9h{c:Ctx}{μ:Mu}{Φ:Ye}{k:Nat}{ls:List Nat}{env:List AV}{σ:ZN}{w:World}{st':St}(r:Good c μ Φ σ w)(h:CG k ls env σ=some st'):
  ∀ (i:Nat) (o':AObj),st'.heap[i]? = some (.obj o')-> ∃ (l:Nat) (o:AObj),σ[l]? = some (.obj o)∧blk (μ.ren ls) i o'=blk μ l o:=by
 unfold CG at h;split at h
 ·rename_i hc;simp only[Ii,beq_iff_eq]at hc;obtain⟨hc1,hc2⟩:=hc;simp only[Ic,Cm]at h;obtain⟨os,b,env',henv,rfl⟩:=h;obtain⟨h1,h2⟩:=VM b;have u : ∀ l i,fwd ls l=some i-> ∀ n z,μ l n=some z->μ.ren ls i n=some z:=by intro l i hi n z y;simp[Mu.ren,Fj hi,y]
  have g : ∀ (i l:Nat),ls[i]? = some l-> ∀ n,μ.ren ls i n=μ l n:=λi l h n=>by simp[Mu.ren,h]
  intro i o' ho;have ho:os[i]? = some (Slot.obj o'):=ho;have hi:i<ls.length:=by have:=(Ig.1 ho).1;omega
  have:=h2 i ls[i] _ (Ib hi) ho;simp only[Ic]at this;obtain⟨s,hs,a⟩:=this;cases s with
  | fresh=>cases a
  | dead=>simp[QI]at a
  | obj o=>simp only[QI,Cm]at a;obtain⟨q,j,e⟩:=a;cases e;exact⟨ls[i],o,hs,(WM u (g i ls[i] (Ib hi)) (r.obj _ o hs) j).2⟩
 ·cases h
def JB.gc{B:Nat}{ds:List Deferred}{c:Ctx}{tm:Array Value}{env:List AV}{Φ1:Ye}{n0 k:Nat}{rec:Loop}{I I':ZN->Prop}{Φ:Ye}{X:Nat->Prop}{W:World}{keep:List Nat}(h:JB B ds c tm env Φ1 n0 rec I Φ X W)(e : ∀ i m,k<=i->c.μ0 i m=none)
  (q : ∀ σ,I σ-> ∃ a,Gd k keep ⟨env,σ⟩=some a∧a.env=env∧I' a.heap):JB B ds c tm env Φ1 n0 rec I' Φ X W:=by
 obtain⟨σ,μ,h1,h2,h3,h4⟩:=h.ex;obtain⟨a,g,u,z⟩:=q σ h1;obtain⟨s,j⟩:=Vu e h2 (CR h3) g;rw[u]at j;refine⟨⟨a.heap,_,z,s,j,λb hb l o r=> ?_⟩,h.xs,h.hn0,h.le,h.mks,h.mkb,h.lp,h.df⟩;obtain⟨l',o',k1,y⟩:=b9h h2 g l o r;rw[y];exact h4 b hb l' o' k1
def c5o{P:Program}{T:ZO}{B nn:Nat}{g:Operand}{ps:Array Tmp}{assign body:Code}{d:IOp}{gf:Nat}{ls:List Nat}{pss:List (List PV)}{α:Type}{encp:α->List PV}{pre:List (List PV)->Bool}{F:List (List PV)->List α}
  {icB:IC} {c:Ctx} {k0:Nat} {keep sl:List Nat} {S st:St} {a:Act} {w:World} {Q:XP} {icA:IC} {slA:List Nat} {Mid:Nat->α->St->Prop} (hT:YC P T) (hmix:P.follows .mixedOrders=true) (hnn:1<=nn)
  (hr:VL c st a w) (hk0 : ∀ i m,k0<=i->c.μ0 i m=none) (hB:B<=c.w0.heap.size) (hg:YL g=some d) (hev:ev st.env d = .fn gf [] (ls.map λl=>.ptr l 0)) (hnd:ls.Nodup) (hlen:ls.length=pss.length)
  (hbox : ∀ (j:Nat) l ps,ls[j]? = some l->pss[j]? = some ps->st.heap[l]? = some (.obj (.box (ps.map .pv)))) (hgc:Gd k0 keep ⟨st.env,f3s ls st.heap⟩=some S)
  (hI:f4e P gf encp pre F) (hpre:pre pss=true) (hsz : ∀ x,(encp x).length=ps.size)
  (I:Nat->ZN->Prop) (Ix:ZN->Prop) (h0:I 0 S.heap) (hag:Tr P assign icA) (hrefA:WW assign=true) (hbd:Tr P body icB) (href:WW body=true)
  (hround : ∀ k x σ,(F pss)[k]? = some x->I k σ->Xp T (λn S' _=>n=99∧Mid k x S') σ.length (λ_=>False) (.inl icA) [.seq (.ext 99 slA)] ⟨b0e ps.toList ((encp x).map .pv) S.env,σ⟩)
  (hbody : ∀ k x st,(F pss)[k]? = some x->Mid k x st->Xp T (λn S' _=>n=99∧ ∃ S2,Gd k0 keep ⟨S.env,S'.heap⟩=some S2∧S2.env=S.env∧I (k+1) S2.heap) st.heap.length (λst=>Ix st.heap) (.inl icB) [.seq (.ext 99 sl)] st)
  (hQ : ∀ σ a' w',I (F pss).length σ->a'.defers=[]->VL c ⟨S.env,σ⟩ a' w'->Q .normal a' w')
  (hQx : ∀ σ a' w',Ix σ->a'.defers=[]->VL c ⟨S.env,σ⟩ a' w'->Q .ret a' w'):(EQ B nn hT hmix).W (.rangeFunc g ps assign body) Q a w:=by
 intro hd0 ds hm;obtain⟨⟨fn0,hf1,hf2,hf3⟩,hI⟩:=hI;obtain⟨μ,Φ,hgd,he,_⟩:=hr
 have hcl:=Yj he hg;rw[hev]at hcl;obtain⟨lb,hlb,hlbn,hlbr⟩ : ∃ lb:Array Value,a.eval g = .func (.func gf) #[] lb∧lb.size=ls.length∧ ∀ (j:Nat) v x,lb[j]? = some v->(ls.map λl=>AV.ptr l 0)[j]? = some x->R μ Φ v x:=by
  generalize hq:a.eval g=q at hcl;cases hcl with
  | fn f cs ds xs ys hn hm h k=>
   have:cs = #[]:=by simpa using hn
   subst this;exact⟨ds,rfl,by simpa using hm,k⟩
 obtain⟨Φ1,m1,m2,m3⟩:=g9p ls pss hgd hnd hlen hbox;have hcaps:i9q Φ1 lb.toList pss:=by
  refine⟨by simp[hlbn,hlen],λj v p hv hp=> ?_⟩;have hj:=(Ig.1 hp).1;have hl:ls[j]? = some (ls[j]'(by omega)):=Ib (by omega);obtain⟨Bk,C,Sz,cs,e1,e2,e3,e4⟩:=m3 j _ p hl hp;have hv':lb[j]? = some v:=by simpa using hv
  have:=hlbr j v (.ptr (ls[j]'(by omega)) 0) hv' (by simp[hl]);cases this with
  | ptr l o B' C' S' h=>rw[e1]at h;cases h;exact⟨Bk,cs,rfl,e2,e3,e4⟩
 have he1:XN μ Φ1 a.tmps st.env:=he.mono (.refl _) m1;have hgc2 : ∃ μ',Good c μ' Φ1 S.heap w∧XN μ' Φ1 a.tmps S.env:=by obtain⟨k1,k2⟩:=Vu hk0 m2 (CR he1) hgc;exact⟨_,k1,k2⟩
 obtain⟨μ1,hg1,he2⟩:=hgc2;have hsz0:c.w0.heap.size<=w.heap.size:=hgd.size;have hmB : ∀ d∈ds,∃ D,d={target:=.collected D,args:=#[]}∧D<w.heap.size:=λd hd=>by obtain⟨D,_,e1,e2⟩:=hm.2 d hd;exact⟨D,e1,(Ih.1 e2).1⟩
 clear hgd he he1 m1 m2 m3 hlbr hcl hbox hgc;refine wpIn_rangeFunc ?_;intro fn hfn;obtain⟨W1,hW1⟩ : ∃ W1,(w.alloc (.deferred (some []))).alloc (.loop {state:=.ready,pending:=none,fn,tmps:=a.tmps,params:=ps,assign:=assign,body,defers:=w.heap.size})=W1:=⟨_,rfl⟩
 have hL1:W1.heap[w.heap.size+1]? = some (.loop {state:=.ready,pending:=none,fn,tmps:=a.tmps,params:=ps,assign:=assign,body,defers:=w.heap.size}):=by rw[<- hW1];have:=aH (w.alloc (.deferred (some []))) (.loop {state:=.ready,pending:=none,fn,tmps:=a.tmps,params:=ps,assign:=assign,body,defers:=w.heap.size});rwa [World.size_alloc]at this
 have hK1:W1.heap[w.heap.size]? = some (.deferred (some [])):=by rw[<- hW1];exact(Below.heap_alloc _ _ _ (by simp)).trans (aH w _)
 have hb1:Below w.heap.size w W1:=by rw[<- hW1];exact((Below.refl _ w).alloc (Iw _) _).alloc (by simp) _
 have hJ0:JB B ds c a.tmps S.env Φ1 w.heap.size {state:=.ready,pending:=none,fn,tmps:=a.tmps,params:=ps,assign:=assign,body,defers:=w.heap.size} (I 0) Φ1 (λ_=>False) W1:=by refine⟨⟨S.heap,μ1,h0,hg1.below hb1 (.refl _) (λb cs hc=>by obtain⟨T',fz,hh⟩:=hg1.phi b cs hc;exact⟨T',fz,(hb1.block b (Ih.1 hh).1).trans hh⟩) (λb cs h=>.inl h),he2,λb hb=>hb.elim⟩,λb hb=>hb.elim,hsz0,.refl _,⟨hm.1,λd hd=> ?_⟩,hmB,hL1,hK1⟩;obtain⟨D,e0,e1,e2⟩:=hm.2 d hd;exact⟨D,e0,e1,(hb1.block D (Ih.1 e2).1).trans e2⟩
 refine⟨w.heap.size+1,[{target:=.collected w.heap.size,args:=#[]}],W1,{target:=.fn (.func gf) lb,args:=#[.func (.yield (w.heap.size+1)) #[] #[]]},W1,gf,
  #[.func (.yield (w.heap.size+1)) #[] #[]]++lb,W1,?_,?_,?_,?_,?_,?_⟩
 ·rw[<- hW1];exact run_enterLoop_outer _ _ _ _ _
 ·simp only[resolve,Qp,hlb];simp[go_sem]
 ·intro f' hf';trivial
 ·simp[invoke,go_sem,JK hf1 hf2 hf3]
 ·intro _;exact hnn
 ·refine callsIn_wide.2 ((hI pss hpre Φ1 lb (w.heap.size+1)
   (λk=>JB B ds c a.tmps S.env Φ1 w.heap.size {state:=.ready,pending:=none,fn,tmps:=a.tmps,params:=ps,assign:=assign,body,defers:=w.heap.size} (I k))
   (JB B ds c a.tmps S.env Φ1 w.heap.size {state:=.done,pending:=some .ret,fn,tmps:=a.tmps,params:=ps,assign:=assign,body,defers:=w.heap.size} Ix) W1 hcaps (λk=>JB.ok) JB.ok ?_ hJ0).mono ?_)
  ·intro n k x Φ2 X W vs hx hj hvs;have hsize:vs.size=ps.size:=by have:=hvs.1;rw[hsz]at this;simpa using this
   have hy:=run_yield (P:=P) (args:=vs) hj.lp hsize;refine⟨fn,_,_,body,hy,roundIn_of_wpIn hfn ?_⟩;have e:(ps.zip vs).foldl (λt (q:Nat×Value)=>t.setIfInBounds q.1 q.2) a.tmps=a4r ps.toList vs.toList a.tmps:=by rw[<- Array.foldl_toList,Array.toList_zip];exact d8f _ _ _
   rw[e];obtain⟨σ,μ2,i1,i2,i3,i4⟩:=hj.ex;have hrelA:VL (entry μ2 Φ2 σ W) ⟨b0e ps.toList ((encp x).map .pv) S.env,σ⟩ {tmps:=a4r ps.toList vs.toList a.tmps,defers:=[]} W:=⟨μ2,Φ2,i2.rebase,d9c _ _ _ i3 hvs.mapRL,rfl⟩
   have hrunA:=hround k x σ hx i1 P
    (d9t (some (w.heap.size+1)) n (λ_ a' W'=> ∃ st',Mid k x st'∧VL (entry μ2 Φ2 σ W) st' a' W') hT hmix) (λn cd=>n=99∧cd=e3m "n") (entry μ2 Φ2 σ W)
    (by rintro n cd ⟨rfl,rfl⟩ st' a' W' q hr' hE;exact⟨_,hE.2,hr'⟩)
    (λi m hi=>i2.fresh i m (.inl (Ij.2 hi))) [.seq (e3m "n")] (.seq (.ext ⟨rfl,rfl⟩) .nil) _ W hrelA assign hag.x
   refine Iz (b4j hrunA hrefA) λe a1 W1' h=> ?_
   cases e with
   | ret=>obtain⟨_,st',hF,_⟩:=h;exact hF.elim
   | exit id=>obtain⟨h,_⟩:=h;rcases h with h|h <;> cases h
   | goto t=>obtain⟨h,_⟩:=h;rcases h with h|h <;> cases h
   | panic ch=>obtain⟨h,_⟩:=h;rcases h with h|h <;> cases h
   | outgrown=>obtain⟨h,_⟩:=h;rcases h with h|h <;> cases h
   | normal=>
   obtain⟨⟨env',σ'⟩,hmid,⟨μ3,Φ3,jA,heA,hdA⟩⟩:=h;obtain⟨hjL,hXk,g3,he3,hn3⟩:=hj.mid (rec':={state:=.busy,pending:=none,fn,tmps:=a.tmps,params:=ps,assign:=assign,body,defers:=w.heap.size}) i2 i3 i4 jA;obtain⟨kA,_⟩:=hj.round i2 i3 i4 jA (I':=λs=>s=σ') rfl;obtain⟨tm1,df1⟩:=a1;simp only at hdA;subst hdA;show ∃ w₂,(Instr.beginRound (w.heap.size+1)).run P W1' = .ok () w₂∧body.wpIn (Xy (some (w.heap.size+1))) n P _ {tmps:=tm1,defers:=[]} w₂;refine⟨_,run_beginRound kA.lp rfl,?_⟩;have hj2:=hjL;generalize W1'.putObj (w.heap.size+1) (.loop {state:=.busy,pending:=none,fn,tmps:=a.tmps,params:=ps,assign:=assign,body,defers:=w.heap.size})=W2 at hj2 hXk g3 hjL ⊢;have hle3:Φ2.le Φ3:=jA.Φle;have hrel:VL (entry μ3 Φ3 σ' W2) ⟨env',σ'⟩ {tmps:=tm1,defers:=[]} W2:=⟨μ3,Φ3,g3.rebase,heA,rfl⟩
   have hrun:=hbody k x ⟨env',σ'⟩ hx hmid P
    (d9t (some (w.heap.size+1)) n (λ_ a' W'=> ∃ σ'' env'',VL (entry μ3 Φ3 σ' W2) ⟨env'',σ''⟩ a' W'∧ ∃ S2,Gd k0 keep ⟨S.env,σ''⟩=some S2∧S2.env=S.env∧I (k+1) S2.heap) hT hmix) (λn cd=>n=99∧cd=e3m "n") (entry μ3 Φ3 σ' W2)
    (by rintro n cd ⟨rfl,rfl⟩ st' a' W' q hr' hE;exact⟨_,_,hr',hE.2⟩)
    (λi m hi=>g3.fresh i m (.inl (Ij.2 hi))) [.seq (e3m "n")] (.seq (.ext ⟨rfl,rfl⟩) .nil) _ W2 hrel body hbd.x
   refine Iz (b4j hrun href) λe a' W' h=> ?_
   cases e with
   | normal=>
    obtain⟨σ'',env'',⟨μ4,Φ4,j1,j2,j3⟩,j4⟩:=h;obtain⟨k0',k2⟩:=hj2.round g3 he3 hn3 j1 (I':=λs=> ∃ S2,Gd k0 keep ⟨S.env,s⟩=some S2∧S2.env=S.env∧I (k+1) S2.heap) j4;have k1:=k0'.gc (I':=I (k+1)) hk0 λs hs=>hs
    refine⟨_,_,run_endRound none k1.lp,Φ4,hle3.trans j1.Φle,λb hb=> ?_,.inl ⟨rfl,k1.putLoop⟩⟩;exact(IA (by have:=(hj.xs b hb).1;omega)).trans ((k2 b hb).trans (hXk b hb))
   | ret=>obtain⟨_,st',hF,⟨μ4,Φ4,j1,j2,j3⟩⟩:=h;obtain⟨k1,k2⟩:=hj2.round g3 he3 hn3 j1 hF;refine⟨_,_,run_endRound (some .ret) k1.lp,Φ4,hle3.trans j1.Φle,λb hb=> ?_,.inr ⟨rfl,k1.putLoop⟩⟩;exact(IA (by have:=(hj.xs b hb).1;omega)).trans ((k2 b hb).trans (hXk b hb))
   | exit id=>obtain⟨h,_⟩:=h;rcases h with h|h <;> cases h
   | goto t=>obtain⟨h,_⟩:=h;rcases h with h|h <;> cases h
   | panic ch=>obtain⟨h,_⟩:=h;rcases h with h|h <;> cases h
   | outgrown=>obtain⟨h,_⟩:=h;rcases h with h|h <;> cases h
  ·have hmk : ∀ {rec:Loop} {Iσ:ZN->Prop} {Φ':Ye} {X':Nat->Prop} {W':World},JB B ds c a.tmps S.env Φ1 w.heap.size rec Iσ Φ' X' W'->PG B ({target:=.collected w.heap.size,args:=#[]}::ds) W':=by
    intro rec Iσ Φ' X' W' hj;refine⟨aG.2 ⟨λhin=> ?_,hj.mks.1⟩,λd' hd'=> ?_⟩
    ·obtain⟨D',z1,z2⟩:=hj.mkb _ hin;simp only[Deferred.mk.injEq,Target.collected.injEq]at z1;omega
    ·rcases I1.1 hd' with rfl|hd'
     ·exact⟨w.heap.size,by omega,rfl,hj.df⟩
     ·exact hj.mks.2 d' hd'
   rintro e W2 ⟨⟨v,rfl⟩,Φ',X',hj|hj⟩
   ·have hj':=hj.putLoop (rec':={state:=.exhausted,pending:=none,fn,tmps:=a.tmps,params:=ps,assign:=assign,body,defers:=w.heap.size});obtain⟨σ,μ3,k1,k2,k3,_⟩:=hj'.ex;exact⟨none,_,run_endLoop hj.lp (by simp),hmk hj',hQ σ _ _ k1 rfl ⟨μ3,Φ',k2,k3,rfl⟩⟩
   ·have hj':=hj.putLoop (rec':={state:=.exhausted,pending:=some .ret,fn,tmps:=a.tmps,params:=ps,assign:=assign,body,defers:=w.heap.size});obtain⟨σ,μ3,k1,k2,k3,_⟩:=hj'.ex;exact⟨some .ret,_,run_endLoop hj.lp (by simp),wpIn_ret ⟨hmk hj',hQx σ _ _ k1 rfl ⟨μ3,Φ',k2,k3,rfl⟩⟩⟩
def Pq(P:Program):Code->Option (IOp×List Nat×IC×IC)
 | .rangeFunc g ps a b=>if WW a=true∧WW b=true then(YL g).bind λd=>(Um P a).bind λe=>(Um P b).map λic=>(d,ps.toList,e,(DU [] [] ic []).1)else none
 | _=>none
def c7i{P:Program}{cd:Code}{d:IOp}{ps:List Nat}{e ic:IC}(h:Pq P cd=some (d,ps,e,ic)):
  ∃ g psA a b,cd = .rangeFunc g psA a b∧YL g=some d∧psA.toList=ps∧Tr P a e∧Tr P b ic∧WW a=true∧WW b=true:=by
 unfold Pq at h;split at h
 ·rename_i g psA a b;split at h
  ·rename_i hn;simp only[Ic,Cm,Ia]at h;obtain⟨d',h1,ia',h2,ic',h3,rfl,rfl,rfl,rfl⟩:=h;exact⟨g,psA,a,b,rfl,h1,rfl,AY h2,b7n (AY h3) _ _ _,hn.1,hn.2⟩
  ·cases h
 ·cases h
def f9k{α:Type}(T:ZO)(z:Nat)(d:IOp)(A:Nat)(ps:List Nat)(i h:IC)(g:α->List PV)(pre:List (List PV)->Bool)(F:List (List PV)->List α)(st:St)(q:XE->St->Prop):Prop:=
 ∃ (b:List Nat) (a:List (List PV)) (keep u sl:List Nat) (S:St) (I:Nat->ZN->Prop) (y:ZN->Prop) (e:Nat->α->St->Prop),
  ev st.env d = .fn A [] (b.map λl=>.ptr l 0)∧b.Nodup∧b.length=a.length∧(∀ (j:Nat) l ps,b[j]? = some l->a[j]? = some ps->st.heap[l]? = some (.obj (.box (ps.map .pv)))) ∧
  Gd z keep ⟨st.env,f3s b st.heap⟩=some S∧pre a=true∧I 0 S.heap ∧
  (∀ k x σ,(F a)[k]? = some x->I k σ->Xp T (λn r _=>n=99∧e k x r) σ.length (λ_=>False) (.inl i) [.seq (.ext 99 u)] ⟨b0e ps ((g x).map .pv) S.env,σ⟩) ∧
  (∀ k x st,(F a)[k]? = some x->e k x st->Xp T (λn r _=>n=99∧ ∃ s,Gd z keep ⟨S.env,r.heap⟩=some s∧s.env=S.env∧I (k+1) s.heap) st.heap.length (λst=>y st.heap) (.inl h) [.seq (.ext 99 sl)] st) ∧
  (∀ σ,I (F a).length σ->q .normal ⟨S.env,σ⟩)∧(∀ σ,y σ->q .ret ⟨S.env,σ⟩)
def e3d{P:Program}{T:ZO}{α:Type}{C D B:Nat}{d:IOp}{ps:List Nat}{r l:IC}{h:α->List PV}{pre:List (List PV)->Bool}{F:List (List PV)->List α}{cd:Code}
  (A:YC P T) (j:P.follows .mixedOrders=true) (E:f4e P D h pre F) (y : ∀ x,(h x).length=ps.length) (u:Pq P cd=some (d,ps,r,l))
  {c:Ctx} (hB:c.w0.heap.size=B) (U : ∀ i m,C<=i->c.μ0 i m=none) {st:St} {a:Act} {w:World} {q:XE->St->Prop} (hr:VL c st a w) (M:f9k T C d D ps r l h pre F st q) :
  (EQ B 4 A j).W cd (λe a' w'=> ∃ x st',e=x.ex∧q x st'∧VL c st' a' w') a w:=by
 obtain⟨g,psA,aA,b,rfl,h1,h2,h3,H,Y,X⟩:=c7i u;obtain⟨ls,pss,keep,slA,sl,S,I,Ix,Mid,K,V,O,J,N,e6,Z,Q,s,L,z⟩:=M;subst h2;exact c5o A j (by omega) hr U (by omega) h1 K V O J N E e6 (λx=>by rw[y];simp) I Ix Z h3 Y H X Q s (λσ a' w' hi hd k=>⟨.normal,_,rfl,L σ hi,k⟩) (λσ a' w' hi hd k=>⟨.ret,_,rfl,z σ hi,k⟩)
def b8w(L:List (Nat×AV)): ∀ (n i j:Nat),(Wx n i L)[j]? = if j<n then some (((L.find? (·.1==i+j)).map (·.2)).getD .junk)else none:=by
 intro n
 induction n with
 | zero=>intro i j;simp[Wx]
 | succ n ih=>
  intro i j;cases j with
  | zero=>simp[Wx]
  | succ j=>simp only[Wx,af,ih,Nat.add_lt_add_iff_right];rw[show i+1+j=i+(j+1) by omega]
def c1i(L:List (Nat×AV))(n i:Nat):(Wx n i L).length=n:=by
 induction n generalizing i with
 | zero=>rfl
 | succ n ih=>simp[Wx,ih]
def f1w{L:List (Nat×AV)}{j:Nat}{x:AV}(h:((L.find? (·.1==j)).map (·.2)).getD .junk=x):x = .junk∨(j,x)∈L:=by
 cases e:L.find? (·.1==j)with
 | none=>rw[e]at h;exact .inl h.symm
 | some q=>
  rw[e]at h;have h1:=List.find?_some e;have h2:=List.mem_of_find?_eq_some e;obtain⟨a,b⟩:=q;have h1:a=j:=by simpa using h1
  have h:b=x:=h;subst h1 h;exact .inr h2
def a9z{μ:Mu}{Φ:Ye}{t:Array Value}{n:Nat}{L:List (Nat×AV)}(hn:t.size=n)(h : ∀ p∈L,∀ v,t[p.1]? = some v->R μ Φ v p.2):XN μ Φ t (Wx n 0 L):=by
 refine⟨by rw[c1i];simpa using hn,λj v x b a=> ?_⟩;rw[b8w]at a;split at a
 ·simp only[Ie,aY]at a;rcases f1w a with rfl|hm
  ·exact .junk v
  ·exact h (j,x) hm v (by simpa using b)
 ·cases a
def f1g{μ:Mu}{Φ:Ye}{t:Array Value}{n:Nat}{L:List (Nat×AV)}(h:XN μ Φ t (Wx n 0 L)):t.size=n∧ ∀ (i:Nat) x,i<n->((L.find? (·.1==i)).map (·.2))=some x-> ∃ v,t[i]? = some v∧R μ Φ v x:=by
 have h1:t.size=n:=by have:=h.1;rw[c1i]at this;simpa using this
 refine⟨h1,λi x hi a=> ?_⟩;have b:t[i]? = some t[i]:=Il (by omega);exact⟨_,b,h.2 i _ x (by simp) (by rw[b8w,if_pos hi,aY,a];rfl)⟩
def e2u{Φ:Ye}{B:Nat}{cs:Array Value}{ps:List PV}(h:Φ B=some cs)(hr:Ub Φ cs.toList ps)(ho:X5 cs.toList):RP Φ (.pointer (some ⟨B,0,none⟩)) (.rptr ps):=by
 have g:cs.size=ps.length:=by have:=hr.1;simpa using this
 refine .rptr B 0 cs ps (λj=>cs.getD j undef) h (λj p b=> ?_) (λj p b=> ?_)
 ·have a:j<cs.size:=by rw[g];exact(Ig.1 b).1
  have e:cs.getD j undef=cs[j]:=by simp[dD,a]
  rw[aY,e];exact⟨Il a,ho _ (by simp)⟩
 ·have a:j<cs.size:=by rw[g];exact(Ig.1 b).1
  have e:cs.getD j undef=cs[j]:=by simp[dD,a]
  show RP Φ (cs.getD j undef) p;rw[e];exact hr.2 j _ p (by simp[a]) b
section
section
variable {P:Program} {T:ZO} {c:Ctx} {nn:Nat}
theorem d7y(g:YC P T){ops:Array Oper}{Q:XP}{b L:Nat}{rest os:List Oper}{ps:List PI}{st st':St}{a:Act}{w:World}(hm : ∀ o∈os,o∈ops.toList)(j:XL P ops L os=some ps)(hr:VL c st a w)
  (h:Jm T b ps st=some st') (i : ∀ a' w',VL c st' a' w'->wpListIn (Xy none) nn P ops Q rest a' w'):wpListIn (Xy none) nn P ops Q (os++rest) a w:=by
 have hd:a.defers=[]:=by obtain⟨μ,Φ,hg,he,hd⟩:=hr;exact hd
 have:=NB (rd:=none) (nn:=nn) (ds:=[]) (Q:=Q) (rest:=rest) g os ps L st st' a w hm j hr h (λa' w' e=>by
  have hd':a'.defers=[]:=by obtain⟨μ,Φ,hg,he,hd⟩:=e;exact hd
  rw[Kn hd']
  exact i a' w' e)
 rwa [Kn hd]at this
theorem g9h(g:YC P T){id:Nat}{ops:Array Oper}{Q:XP}{b L:Nat}{ps:List PI}{st st':St}{a:Act}{w:World}(j:XL P ops L ops.toList=some ps)(hr:VL c st a w)(h:Jm T b ps st=some st')
  (i : ∀ a' w',VL c st' a' w'->Q .normal a' w'):(Code.region id ops false).wpIn (Xy none) nn P Q a w:=by
 refine wpIn_region_list ?_
 have:=d7y (c:=c) (nn:=nn) (Q:=Q) (rest:=[]) g (λo ho=>ho) j hr h (λa' w' e=>i a' w' e)
 rwa [ah]at this
theorem f1n{ops:Array Oper}{Q:XP}{rest:List Oper}{o:Oper}{a:Act}{w:World}{l d j:Nat}{xs:Array Operand}{ts:Array TypeId}{vs:Array Value}{R:Ending->World->Prop}
  (ho:o.op = .call {callee:=.value (.tmp j),args:=xs,argTypes:=ts}) (y:o.guard=none) (hd:o.dst=some d) (z:a.eval (.tmp j) = .func (.yield l) #[] #[]) (k:xs.map a.eval=vs)
  (r:YieldAt aD (nn - 1) P l vs w R) (s : ∀ e w',R e w'-> ∃ v,e = .returned v∧wpListIn (Xy none) nn P ops Q rest (a.put (some d) v) w'):wpListIn (Xy none) nn P ops Q (o::rest) a w:=by
 obtain⟨fn,g,assign,i,q,A⟩:=r;unfold wpListIn;simp only[bD,y,if_true];have b:(execOp a.eval o).run P w = .ok (.round l fn g assign i) w:=by subst k;simp only[execOp,ho,resolve,aC,aV,I9,z];simpa [invoke,callFunc,Deferred.ofValue]using q
 refine⟨λ_ _=>trivial,?_⟩;rw[Cf (λc=>by rw[ho];simp),b,Oper.uponIn_round];refine⟨λh=>by simp[Xy,aD]at h,A.mono ?_⟩;intro e w' hr;obtain⟨v,rfl,u⟩:=s e w' hr;rw[hd];exact u
theorem c1h{ops:Array Oper}{Q:XP}{rest:List Oper}{o:Oper}{a:Act}{w:World}{f d:Nat}{xs:Array Operand}{ts:Array TypeId}{vs:Array Value}{R:Ending->World->Prop}{fn:Func}
  (ho:o.op = .call {callee:=.value (.func f),args:=xs,argTypes:=ts}) (hg:o.guard=none) (hd:o.dst=some d) (hf:P.funcs[f]? = some fn) (hb:fn.body.isSome=true) (hn:(fn.name == "runtime.NumGoroutine")=false) (hx:xs.map a.eval=vs)
  (hY:Calls P f vs w R) (hK : ∀ e w',R e w'-> ∃ v,e = .returned v∧wpListIn (Xy none) nn P ops Q rest (a.put (some d) v) w'):wpListIn (Xy none) nn P ops Q (o::rest) a w:=by
 unfold wpListIn;simp only[bD,hg,if_true];have hrun:(execOp a.eval o).run P w = .ok (.enter f vs) w:=by subst hx;simp only[execOp,ho,resolve,aC,aV,I9];have he:a.eval (.func f) = .func (.func f) #[] #[]:=rfl;simp only[he];simpa [invoke,Deferred.ofValue]using JK (args:=xs.map a.eval) hf hb hn
 refine⟨λ_ _=>trivial,?_⟩;rw[Cf (λc=>by rw[ho];simp),hrun,Oper.uponIn_enter];refine⟨λh=>by simp[Xy,aD]at h,(callsIn_wide.2 hY).mono ?_⟩;intro e w' hr;obtain⟨v,rfl,hk⟩:=hK e w' hr;rw[hd];exact hk
end
end
section
def Ci(P:Program)(T:ZO)(ops:Array Oper)(os:List Oper)(st:St):Option St:=(XL P ops 0 os).bind λps=>Jm T st.heap.length ps (grow st (news ps))
section
variable {P:Program} {T:ZO} {c:Ctx} {nn:Nat}
theorem RG(b:YC P T){ops:Array Oper}{Q:XP}{rest os:List Oper}{st st':St}{a:Act}{w:World}(hm : ∀ o∈os,o∈ops.toList)(h:Ci P T ops os st=some st')(hr:VL c st a w)
  (e : ∀ a' w',VL c st' a' w'->wpListIn (Xy none) nn P ops Q rest a' w'):wpListIn (Xy none) nn P ops Q (os++rest) a w:=by
 unfold Ci at h;rw[Ic]at h;obtain⟨ps,h1,h2⟩:=h;exact d7y b hm h1 (hr.grow _) h2 e
theorem Mi(b:YC P T){id:Nat}{ops:Array Oper}{Q:XP}{st st':St}{a:Act}{w:World}(h:Ci P T ops ops.toList st=some st')(hr:VL c st a w)
  (e : ∀ a' w',VL c st' a' w'->Q .normal a' w'):(Code.region id ops false).wpIn (Xy none) nn P Q a w:=by
 unfold Ci at h;rw[Ic]at h;obtain⟨ps,h1,h2⟩:=h;exact g9h b h1 (hr.grow _) h2 e
end
def d8x:AV->Bool
 | .pv _ | .yld _ | .junk=>true
 | _=>false
def h1p{μ μ':Mu}{Φ Φ':Ye}{v:Value}{x:AV}(h:R μ Φ v x)(b:d8x x=true)(a:Φ.le Φ'):R μ' Φ' v x:=by
 cases h with
 | pv v p h=>exact .pv v p (h.mono a)
 | junk v=>exact .junk v
 | yld l=>exact .yld l
 | _=>cases b
def g7x{μ μ':Mu}{Φ Φ':Ye}{t:Array Value}{n:Nat}{L b:List (Nat×AV)}(k:XN μ Φ t (Wx n 0 L))(a:Φ.le Φ')(h : ∀ p∈b,p.1<n∧((L.find? (·.1==p.1)).map (·.2))=some p.2∧d8x p.2=true):XN μ' Φ' t (Wx n 0 b):=by
 obtain⟨h1,h2⟩:=f1g k;refine a9z h1 λp i v g=> ?_
 obtain⟨k1,j,k3⟩:=h p i;obtain⟨u,e,hr⟩:=h2 p.1 _ k1 j;rw[e]at g;cases g;exact h1p hr k3 a
def LZ{μ μ':Mu}{Φ Φ':Ye}{σ e:ZN}{W W':World}{X:Nat->Prop}(i:Good (entry μ Φ σ W) μ' Φ' e W')(hs:d5b e)(a : ∀ b,X b->b<W.heap.size∧Φ b=none)(hn : ∀ b,X b-> ¬ NV μ σ b):
  Steps (λb=>X b∨NV μ σ b) (λb=>X b∨NV μ' e b) Φ Φ' W W'∧ ∀ b,X b->W'.heap[b]? = W.heap[b]? :=by
 have s:=Steps.of_good i hs;refine⟨⟨s.os,s.tape,s.output,s.size,λb h1 h2=>s.keep b h1 λh=>h2 (.inr h),s.le,s.phi,λb cs h=> ?_,λb h=> ?_⟩,λb h=>s.keep b (a b h).1 (hn b h)⟩
 ·rcases s.dom b cs h with h|h|h
  ·exact .inl h
  ·exact .inr (.inl (.inr h))
  ·exact .inr (.inr h)
 ·rcases h with h|h
  ·refine⟨.inl (.inl h),IP (a b h).1 s.size,?_⟩;cases g:Φ' b with
   | none=>rfl
   | some cs=>
    rcases s.dom b cs g with hq|hq|hq
    ·rw[(a b h).2]at hq;cases hq
    ·exact absurd hq (hn b h)
    ·have:=(a b h).1;omega
  ·obtain⟨h1,h2,h3⟩:=s.own b h;exact⟨h1.imp_left .inr,h2,h3⟩
def Steps.drop{X X' Y:Nat->Prop}{Φ Φ':Ye}{W W':World}(s:Steps X X' Φ Φ' W W')(h : ∀ b,Y b->X' b):Steps X Y Φ Φ' W W':=⟨s.os,s.tape,s.output,s.size,s.keep,s.le,s.phi,s.dom,λb hb=>s.own b (h b hb)⟩
def a1g(μ:Mu):NV μ []=λ_=>False:=by funext b;exact propext ⟨λ⟨l,o,h,_⟩=>by simp at h,λh=>h.elim⟩
def a5t{μ μ':Mu}{Φ Φ':Ye}{a:ZN}{W W':World}{X:Nat->Prop}(i:Good (entry μ Φ [] W) μ' Φ' a W')(hs:d5b a)(g : ∀ b,X b->b<W.heap.size∧Φ b=none):
  Steps X (λb=>X b∨NV μ' a b) Φ Φ' W W'∧(∀ b,X b->W'.heap[b]? = W.heap[b]?)∧ ∀ b,X b-> ¬ NV μ' a b:=by
 obtain⟨h1,h2⟩:=LZ i hs g (λb _ h=>by rw[a1g]at h;exact h);refine⟨?_,h2,λb hb ⟨l,o,j,e⟩=> ?_⟩
 ·have e:(λb=>X b∨NV μ [] b)=X:=by funext b;rw[a1g];exact propext ⟨λh=>h.elim id False.elim,.inl⟩
  rw[e]at h1;exact h1
 ·rcases i.own l o j with h|h
  ·have h:W.heap.size<=blk μ' l o:=h
   have:=(g b hb).1;omega
  ·have h:NV μ [] (blk μ' l o):=h;rw[a1g]at h;exact h
end
open Enc (enc dec is)
open EncL (encL decL isL)
section
instance:Enc Unit where
 sz:=0
 enc _:=.tup []
 dec _:=()
 is p:=match p with | .tup []=>true|_=>false
 is_enc _:=rfl
 dec_enc _:=rfl
 sub p h:=by
  cases p with
  | tup xs=>cases xs with
   | nil=>exact⟨⟨rfl,λj x y h1 h2=>by cases h1.symm.trans h2;exact λΦ v h=>h⟩,λΦ v h=>h⟩
   | cons _ _=>cases h
  | _=>cases h
def AV.asPV:AV->PV
 | .pv p=>p
 | _=>.nilp
def f6k(n:Nat)(os:List AObj):List PV:=match os.drop n with
 | .box cs::_=>cs.map AV.asPV
 | _=>[]
def j4i(args:List AV):List PV:=(args.drop 1).map AV.asPV
def c4e(l:List PV):(l.map AV.pv).map AV.asPV=l:=by rw[cK];exact List.map_id l
def Zf{S:Type}[EncL S](s:S):AObj:=.box ((encL s).map .pv)
def Zn{α:Type}[EncL α](a:α):List AV:=.ptr 0 0::(encL a).map .pv
section
variable {S α β:Type} [EncL S] [EncL α] [Enc β]
set_option linter.unusedSectionVars false
open Classical in
noncomputable def Xb(mk:α->List AV)(b e:List AObj)(pre:S->α->Bool)(args:List AV)(os:List AObj):Bool:=decide (∃ s a,args=mk a∧os=b++Zf s::e∧pre s a=true)
def h0i(un:List AV->α)(n:Nat)(F:S->α->β×S)(args:List AV)(os:List AObj):PV:=enc (F (decL (f6k n os)) (un args)).1
def g4a(un:List AV->α)(n:Nat)(F:S->α->β×S)(args:List AV)(os:List AObj):List AV:=(encL (F (decL (f6k n os)) (un args)).2).map .pv
def Xj(un:List AV->α)(a b:List AObj)(F:S->α->β×S)(args:List AV)(os:List AObj):AV×List AObj×List AObj:=(.pv (h0i un a.length F args os),a++ .box (g4a un a.length F args os)::b,[])
open Classical in
theorem d5q{mk:α->List AV}{b e:List AObj}{pre:S->α->Bool}{args:List AV}{os:List AObj}(s:S)(a:α)(h1:args=mk a)(h2:os=b++Zf s::e)(h:pre s a=true):Xb mk b e pre args os=true:=by unfold Xb;exact decide_eq_true ⟨s,a,h1,h2,h⟩
open Classical in
theorem Pj{mk:α->List AV}{b e:List AObj}{pre:S->α->Bool}{args:List AV}{os:List AObj}(h:Xb mk b e pre args os=true): ∃ s a,args=mk a∧os=b++Zf s::e∧pre s a=true:=by unfold Xb at h;exact of_decide_eq_true h
def Om(mk:α->List AV)(un:List AV->α):Prop:= ∀ a,un (mk a)=a
def Z8{α:Type}[EncL α](args:List AV):α:=decL (j4i args)
theorem Zx:Om (Zn:α->List AV) Z8:=λa=>by unfold Z8 j4i Zn;rw[List.drop_succ_cons,bv,c4e,EncL.dec_encL]
theorem O9(a b:List AObj)(s:S):(decL (f6k a.length (a++Zf s::b)):S)=s:=by unfold f6k;rw[List.drop_append_of_le_length (Iw _),List.drop_length,ai];show decL (((encL s).map AV.pv).map AV.asPV)=s;rw[c4e,EncL.dec_encL]
theorem O3{mk:α->List AV}{b e:List AObj}{un:List AV->α}(hm:Om mk un)(F:S->α->β×S)(s:S)(a:α):h0i un b.length F (mk a) (b++Zf s::e)=enc (F s a).1:=by unfold h0i;rw[O9,hm a]
theorem OO{mk:α->List AV}{b e:List AObj}{un:List AV->α}(hm:Om mk un)(F:S->α->β×S)(s:S)(a:α):g4a un b.length F (mk a) (b++Zf s::e)=(encL (F s a).2).map .pv:=by unfold g4a;rw[O9,hm a]
def ZM(P:Program)(f:Nat)(mk:α->List AV)(un:List AV->α)(a b:List AObj)(pre:S->α->Bool)(F:S->α->β×S):Prop:=Y4 P f (Xb mk a b pre) (Xj un a b F)
def ZB(a b:List AObj)(y:β)(s:S)(r:AV×List AObj×List AObj):Prop:= ∃ p,r.1 = .pv p∧Zg y p∧r.2=(a++Zf s::b,[])
theorem Ws{y:β}{s:S}{p:PV}{cs:List AV}(h:Zg y p)(hc:cs=(encL s).map .pv):ZB [] [] y s (.pv p,[.box cs],[]):=⟨p,rfl,h,by rw[hc];rfl⟩
theorem ZM.of{P:Program}{T:ZO}{f:Nat}{fn:Func}{ic:IC}{rs:List IRes}{mk:α->List AV}{b i:List AObj}{pre:S->α->Bool}{un:List AV->α}{F:S->α->β×S}(hm:Om mk un)(N:YC P T)(r:P.follows .mixedOrders=true)(E:P.funcs[f]? = some fn)(C:Ox P fn=some ic)
  (I:Wz (XM P) fn.results.toList=some rs) {nt:Nat} (y:fn.ntmps=nt) {k:Nat} (hk:b.length+1+i.length=k) (h : ∀ s a,pre s a=true->Zk T k (Zl k rs (ZB b i (F s a).1 (F s a).2)) ic [] (ZT nt (mk a) (b++Zf s::i))):ZM P f mk un b i pre F:=by
 classical
 have M : ∀ s a,pre s a=true-> ∃ p,Zk T k (λst=>c8l k st rs=some (.pv p,b++Zf (F s a).2::i,[])) ic [] (ZT nt (mk a) (b++Zf s::i))∧Zg (F s a).1 p:=λs a ha=>by obtain⟨x,st',h1,h2,⟨r1,r2⟩,h3,p,q,E,hr⟩:=h s a ha;simp only at q hr;subst q hr;exact⟨p,⟨x,st',h1,h2,h3⟩,E⟩
 let g:S->α->PV:=λs a=>if q:pre s a=true then(M s a q).choose else .nilp
 have L : ∀ s a,pre s a=true->Zk T k (λst=>c8l k st rs=some (.pv (g s a),b++Zf (F s a).2::i,[])) ic [] (ZT nt (mk a) (b++Zf s::i))∧Zg (F s a).1 (g s a):=λs a ha=>by simp only[g,dif_pos ha];exact(M s a ha).choose_spec
 have B:Y4 P f (Xb mk b i pre) (λargs os=>(.pv (g (decL (f6k b.length os)) (un args)),b++ .box (g4a un b.length F args os)::i,[])):=by
  refine g6b N r E C I y λargs os q=> ?_
  obtain⟨s,a,rfl,rfl,ha⟩:=Pj q;have O:(b++Zf s::i).length=k:=by rw[List.length_append,List.length_cons];omega
  refine⟨g s a,g s a,b++Zf (F s a).2::i,[],?_,Sub.refl _,?_⟩
  ·rw[O];exact(L s a ha).1
  ·rw[O9 b i,hm a,OO hm];rfl
 intro args os x os' ext j l;obtain⟨s,a,rfl,rfl,ha⟩:=Pj j;simp only[Xj,Ia]at l;obtain⟨rfl,rfl,rfl⟩:=l;refine⟨by simp,?_⟩;intro μ Φ w vs J A;refine((B (mk a) (b++Zf s::i) _ _ _ j rfl).2 μ Φ w vs J A).mono ?_;rintro e w' ⟨v,μ',Φ',rfl,z,u⟩;refine⟨v,μ',Φ',rfl,z,?_⟩;rw[O9,hm a]at u;rw[O3 hm];obtain⟨D,H⟩:=(L s a ha).2;cases u with
 | pv _ _ u=>refine .pv _ _ ?_;have K:=(Enc.sub _ D).2 _ _ u;rw[H]at K;exact K
theorem ZM.weaken{P:Program}{f:Nat}{mk:α->List AV}{e i:List AObj}{pre pre':S->α->Bool}{F g:S->α->β×S}{un:List AV->α}(hm:Om mk un)(h:ZM P f mk un e i pre F)(k : ∀ s a,pre' s a=true->pre s a=true)(j : ∀ s a,pre' s a=true->F s a=g s a):ZM P f mk un e i pre' g:=by
 refine Y4.congr h (λargs os b=> ?_) (λargs os b=> ?_)
 ·obtain⟨s,a,rfl,rfl,ha⟩:=Pj b;exact d5q s a rfl rfl (k s a ha)
 ·obtain⟨s,a,rfl,rfl,ha⟩:=Pj b;unfold Xj;rw[O3 hm,O3 hm,OO hm,OO hm,j s a ha]
theorem ZM.none{P:Program}{f:Nat}{mk:α->List AV}{un:List AV->α}{g e:List AObj}{pre:S->α->Bool}{F:S->α->β×S}(h : ∀ s a,pre s a=false):ZM P f mk un g e pre F:=by intro args os x os' ext b hval;obtain⟨s,a,_,_,ha⟩:=Pj b;rw[h s a]at ha;cases ha
def Xw(mk:α->List AV)(un:List AV->α)(a b:List AObj)(pre:S->α->Bool)(F:S->α->β×S)(args:List AV)(os:List AObj)(K:β->S->Prop):Prop:=Xb mk a b pre args os=true∧ ∃ y,AV.pv (h0i un a.length F args os)=AV.pv (enc y)∧ ∃ s,AObj.box (g4a un a.length F args os)=AObj.box ((encL s).map .pv)∧K y s
theorem Ya{mk:α->List AV}{un:List AV->α}(hm:Om mk un){b e:List AObj}{pre:S->α->Bool}{F:S->α->β×S}{args:List AV}{os:List AObj}{K:β->S->Prop}(s:S)(a:α)(h1:args=mk a)(h2:os=b++Zf s::e)(g:pre s a=true)(k:K (F s a).1 (F s a).2):Xw mk un b e pre F args os K:=⟨d5q s a h1 h2 g,(F s a).1,by rw[h1,h2,O3 hm],(F s a).2,by rw[h1,h2,OO hm],k⟩
end
end
end Go.Pl
namespace Go.Pl
open Go.RowKit
section
structure SameT (L:List Nat) (a a':Act):Prop where
 size:a'.tmps.size=a.tmps.size
 defers:a'.defers=a.defers
 tmp : ∀ t,t ∉ L->a'.tmps[t]? = a.tmps[t]?
end
open EncL (encL decL isL)
def e1s(P:Program)(f:Nat):Option (IC×Nat×List IRes):=
 match P.funcs[f]? with
 | some fn=>match fn.body.isSome&& !(fn.name == "runtime.NumGoroutine")with
  | true=>(Ox P fn).bind λic=>(Wz (XM P) fn.results.toList).map λrs=>(ic,fn.ntmps,rs)
  | false=>none
 | none=>none
def ivO(C:Nat->Option (IC×Nat×List IRes))(T:ZO)(N f:Nat)(args:List AV)(os:List AObj):Option (AV×List AObj×List AObj):=(C f).bind λ(ic,nt,rs)=>M9 T N ic nt rs args os
def ivT(C:Nat->Option (IC×Nat×List IRes))(a:ZO)(N:Nat):Nat->ZO
 | 0=>a
 | n+1=>λf=>match a f with
  | some D=>some D
  | none=>match C f with
   | some _=>some (.own (λargs os=>(ivO C (ivT C a N n) N f args os).isSome) (λargs os=>(ivO C (ivT C a N n) N f args os).getD (.undef,[],[])))
   | none=>none
def b6k{P:Program}{f:Nat}{ic:IC}{nt:Nat}{rs:List IRes}(h:e1s P f=some (ic,nt,rs)):
  ∃ fn cd,P.funcs[f]? = some fn∧fn.body=some cd∧(fn.name == "runtime.NumGoroutine")=false∧Tr P cd ic∧Wz (XM P) fn.results.toList=some rs∧fn.ntmps=nt:=by
 unfold e1s at h;split at h
 ·rename_i fn hf;split at h
  ·rename_i hb;simp only[Ic,Cm,Ia]at h;obtain⟨ic',h1,rs',h2,rfl,rfl,rfl⟩:=h;obtain⟨cd,h3,h4⟩:=OI h1;simp only[Ii,aQ]at hb;exact⟨fn,cd,hf,h3,hb.2,h4,h2,rfl⟩
  ·cases h
 ·cases h
def i1a{P:Program}{C:Nat->Option (IC×Nat×List IRes)}(h : ∀ f x,C f=some x->e1s P f=some x){T:ZO}(e:YC P T)(a:P.follows .mixedOrders=true){N f:Nat}:
  Y4 P f (λargs os=>(ivO C T N f args os).isSome) (λargs os=>(ivO C T N f args os).getD (.undef,[],[])):=by
 cases hc:C f with
 | none=>intro args os x os' ext b;simp[ivO,hc]at b
 | some z=>
  obtain⟨ic,nt,rs⟩:=z;obtain⟨fn,cd,h1,h2,h3,g,i,rfl⟩:=b6k (h _ _ hc);refine g0b e a h1 h2 g i λargs os b=>⟨N,?_⟩
  obtain⟨r,hr⟩:=ae.1 b;rw[hr];simpa [ivO,hc]using hr
def g4b{P:Program}{C:Nat->Option (IC×Nat×List IRes)}(e : ∀ f x,C f=some x->e1s P f=some x){g:ZO}(b:YC P g)(a:P.follows .mixedOrders=true)(N:Nat): ∀ n,YC P (ivT C g N n)
 | 0=>b
 | n+1=>by
  intro f D h;simp only[ivT]at h;split at h
  ·rename_i D' i;cases h;exact b f D i
  ·split at h
   ·rename_i z j;cases h;obtain⟨ic,nt,rs⟩:=z;obtain⟨fn,cd,h1,h2,h3,_⟩:=b6k (e _ _ j);exact⟨⟨fn,h1,by simp[h2],h3⟩,i1a e (g4b e b a N n) a⟩
   ·cases h
def ZQ.iv{P:Program}{f:Nat}{α β:Type}[EncL α][Enc β]{pre:α->Bool}{F:α->β}{C:Nat->Option (IC×Nat×List IRes)}(k : ∀ f x,C f=some x->e1s P f=some x){g:ZO}(l:YC P g)(b:P.follows .mixedOrders=true)(N n:Nat)
  (h : ∀ a,pre a=true-> ∃ p,((C f).bind λ(ic,nt,rs)=>PH (ivT C g N n) N ic nt rs (encL a))=some p∧Zg (F a) p):ZQ P f pre F:=by
 cases hc:C f with
 | none=>exact ZQ.ofPure (pre':=λ_=>false) (val':=λ_=>.nilp) (λps e=>by cases e) (λa ha=>by obtain⟨p,h1,_⟩:=h a ha;simp[hc]at h1)
 | some z=>
  obtain⟨ic,nt,rs⟩:=z;obtain⟨fn,cd,h1,h2,h3,q,s,rfl⟩:=b6k (k _ _ hc);have j:VB P f (λps=>(PH (ivT C g N n) N ic fn.ntmps rs ps).isSome) (λps=>(PH (ivT C g N n) N ic fn.ntmps rs ps).getD .nilp):=by
   refine e0n (g4b k l b N n) b h1 h2 q s λps e=>⟨N,?_⟩
   obtain⟨r,hr⟩:=ae.1 e;rw[hr];rfl
  refine ZQ.ofPure j λa ha=> ?_
  obtain⟨p,e,i⟩:=h a ha;simp only[hc,IK]at e;refine⟨?_,?_⟩
  ·show(PH (ivT C g N n) N ic fn.ntmps rs (encL a)).isSome=true;rw[e];rfl
  ·show Zg (F a) ((PH (ivT C g N n) N ic fn.ntmps rs (encL a)).getD .nilp);rw[e];exact i
def Oc{P:Program}{f:Nat}{α β:Type}[EncL α][Enc β]{pre:α->Bool}{F:α->β}(h:ZQ P f pre F){fn:Func}(hf:P.funcs[f]? = some fn)(hb:(fn.body.isSome&& !(fn.name == "runtime.NumGoroutine"))=true){l:List (Nat×Den)}(k:YC P (YG l)):YC P (YG ((f,.pure (preT pre) (Zr F))::l)):=b7o (ent hf hb h) k
end Go.Pl
