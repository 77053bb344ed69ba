/-
  Texts of mine that belong together (packed by pack.py), for every input: Post, PlGl, LaidY, LaidZ, Sh, ShB, OkCe, OkN, OkR, ShC, ShD, Ok4, OkT, OpY, OpT.
-/
import Derived.Test.YtjfgiaooglnomaaGreatDoorChecked
import Derived.Test.YtjfgiaooglnomaaGreatDoorRows
import Derived.Test.YtjfgiaooglnomaaGreatDoorKX2
import Derived.Test.YtjfgiaooglnomaaGreatDoorKX3
import Derived.Test.YtjfgiaooglnomaaGreatDoorKX4
import Derived.Below
import Derived.ChangeSame
import Derived.ChangeShapes
import Derived.ChangeSlices
import Derived.WideShapes
import Derived.RowKit
import Derived.Stop.LaidErr
import Derived.Lib.LaidTab
import Derived.Shelf.Strconv.AtoiAll
import Derived.Shelf.Strconv.Itoa3
import Derived.Shelf.Strings.Prefix
import Derived.Shelf.Sort.Plain
import Derived.Shelf.Small.Strs
import Derived.Shelf.Slices.In.SortNone
import Derived.KernelRfl
import Derived.Shelf.Strings.Trim
set_option linter.unusedVariables false
set_option linter.unusedSimpArgs false
namespace Go.Proofs.YtjfgiaooglnomaaGreatDoor
open Go.RowKit Go.WideShapes Go.ChangeShapes
section
variable {H:Type} {enc:TypeId×Value->H} {P:Program}
theorem DW{f:Func}{s:ChangeSpec}{apart fresh handsOn again:Bool}{W W':World}{args:Array Value}{v:Value}{ds gs:List (DataW H)}{before pa pv:List MemPlace}
  (hW:DataW.Whole enc P f.params.toList s.vars apart W args.toList ds gs before)
  (hres : ∀ (b:Nat) (sp:Nat->Bool) (hd:Bool),DataW.TrodAll enc P W' b sp hd f.resultTypes.toList (v.resultList f.resultTypes.size) (s.fn H (ds++gs)).results [])
  (hargs : ∀ sp:Nat->Bool,(∀ p∈before,sp p.block=true)->DataW.TrodAll enc P W' 0 sp true f.params.toList args.toList (s.fn H (ds++gs)).args pa)
  (hvars : ∀ sp:Nat->Bool,(∀ p∈before,sp p.block=true)->DataW.TrodVars enc P W' sp s.vars (s.fn H (ds++gs)).vars pv)
  (hps:before=pa++pv) (hb:Below W.heap.size W W')
  (hok : ∀ (j:Nat) (t:TypeId) (r:Value),f.resultTypes[j]? = some t->(v.resultList f.resultTypes.size)[j]? = some r->Value.okWide P W' .any 0 t r) :
  s.post enc P f apart fresh handsOn again W args v W':=by
 have hlt : ∀ p∈before,p.block<W.heap.size:=fun p hp=>hW.lt p hp
 have hold : ∀ p∈before,(fun b=>decide (b<W.heap.size)) p.block=true:=fun p hp=>by simpa using hlt p hp
 refine⟨ds,gs,before,[],pa,pv,hW,hres _ _ _,hargs _ hold,hvars _ hold,World.keptBut_mono (fun p hp=>⟨hp,?_⟩) (hb.frame (· ∈ before)),fun _=> ?_⟩
 ·rw[hps,List.mem_append]at hp
  exact Or.inr hp
 ·obtain⟨_,_,_,_,_,hz,hn⟩:=hW
  refine⟨hok,_,_,([]++pa)++pv,⟨[]++pa,pv,trodAll_append (hargs _ (fun _ _=>rfl)) (hres _ _ _),hvars _ (fun _ _=>rfl),rfl,?_,?_⟩,?_⟩
  ·intro b off hp
   have hin:MemPlace.cell b off∈before:=by rw[hps];simpa using hp
   rw[hb.frozen (hlt _ hin)]
   exact hz b off hin
  ·intro ha
   have:=hn ha
   rw[hps]at this
   simpa using this
  ·intro p hp _
   rw[hps]
   simpa using hp
end
end Go.Proofs.YtjfgiaooglnomaaGreatDoor

namespace Go.Pl
open Go.RowKit Go.WideShapes Go.ChangeShapes
def DR(w:World):Z5:=fun b=>match w.heap[b]? with|some (.cells cs _ _)=>some cs|_=>none
theorem a8f(w:World):X0 (DR w) w:=fun b cs h=>by
 unfold DR at h
 split at h
 ·rename_i c T fz hb
  cases h
  exact⟨T,fz,hb⟩
 ·cases h
def J4(P:Program)(e:TypeId)(ps:List PV):PV:=match YV P e with|true=>.agg ps|false=>ps.headD .nilp
def XJ(P:Program):Nat->TypeId->List PV->Prop
 | 0,_,_=>False
 | n+1,t,ps=>match P.underlying t with
  | some .bool=> ∃ b,ps=[.bool b]
  | some (.int k)=> ∃ m,ps=[.int k m]∧(Lit.int k m).wf=true
  | some .string=> ∃ s:List UInt8,ps=[.str s]∧s.length<=maxLen
  | some (.slice e)=> ∃ qs:List (List PV),ps=[.sl (P.cellsOf e) false (qs.map (J4 P e))]∧qs.length<=maxLen∧ ∀ q∈qs,q.length=P.cellsOf e∧XJ P n e q
  | some (.struct fs)=>ps.length=P.cellsOf t∧ ∀ f∈fs.toList,XJ P n f.type ((ps.drop f.offset).take (P.cellsOf f.type))
  | some (.array m e)=>ps.length=P.cellsOf t∧ ∀ i<m,XJ P n e ((ps.drop (i*P.cellsOf e)).take (P.cellsOf e))
  | _=>False
def UL(P:Program):Nat->List Field->Nat->Bool
 | o,[],n=>o==n
 | o,f::fs,n=>f.offset==o&&UL P (o+P.cellsOf f.type) fs n
def Az(P:Program)(S:List TypeId):Bool:=S.all fun t=>match P.underlying t with
 | some .bool|some (.int _)|some .string=>P.cellsOf t==1
 | some (.slice e)=>P.cellsOf t==1&&S.contains e&&decide (0<P.cellsOf e)&&(YV P e||P.cellsOf e==1)
 | some (.struct fs)=>UL P 0 fs.toList (P.cellsOf t)&&fs.toList.all fun f=>S.contains f.type
 | some (.array m e)=>S.contains e&&m*P.cellsOf e==P.cellsOf t
 | _=>false
section
variable {H:Type} {enc:TypeId×Value->H} {P:Program} {w:World} {base:Nat} {sp:Nat->Bool} {held:Bool} {S:List TypeId}
theorem Gc{α β:Type}{f:α->Option β}: ∀ {l:List α} {r:List β},l.mapM f=some r->r.length=l.length∧ ∀ (j:Nat) x y,l[j]? = some x->r[j]? = some y->f x=some y:=by
 intro l
 induction l with
 | nil=>intro r h;simp at h;subst h;exact⟨rfl,fun j x y h=>by simp at h⟩
 | cons a l ih=>
  intro r h
  simp only[List.mapM_cons,Option.bind_eq_bind,Option.bind_eq_some_iff]at h
  obtain⟨b,hb,bs,hbs,h⟩:=h
  simp at h
  subst h
  obtain⟨h1,h2⟩:=ih hbs
  refine⟨by simp[h1],fun j x y hx hy=> ?_⟩
  cases j with
  | zero=>cases hx;cases hy;exact hb
  | succ j=>exact h2 j x y hx hy
def Cl(w:World)(cs:List Value)(ps:List PV):Prop:=X5 (DR w) cs ps∧Yu cs
theorem Cl.one{v:Value}{p:PV}(h:RP (DR w) v p)(h1:v.oneCell'=true):Cl w [v] [p]:=⟨⟨rfl,fun j x q hx hq=>match j with
 | 0=>by cases hx;cases hq;exact h
 | j+1=>by simp at hx⟩,fun v hv=>by simp at hv;subst hv;exact h1⟩
theorem Cl.append{cs ds:List Value}{ps qs:List PV}(h:Cl w cs ps)(k:Cl w ds qs):Cl w (cs++ds) (ps++qs):=by
 refine⟨⟨by simp[h.1.1,k.1.1],fun j v p hv hp=> ?_⟩,fun v hv=> ?_⟩
 ·by_cases hj:j<cs.length
  ·rw[List.getElem?_append_left hj]at hv
   rw[List.getElem?_append_left (by rw[<- h.1.1];exact hj)]at hp
   exact h.1.2 j v p hv hp
  ·rw[List.getElem?_append_right (by omega)]at hv
   rw[List.getElem?_append_right (by rw[<- h.1.1];omega),<- h.1.1]at hp
   exact k.1.2 _ v p hv hp
 ·rcases List.mem_append.1 hv with h'|h'
  ·exact h.2 v h'
  ·exact k.2 v h'
theorem Cl.nil:Cl w [] []:=⟨⟨rfl,fun j v p h=>by simp at h⟩,fun v h=>by simp at h⟩
theorem CO(hS:Az P S=true){t:TypeId}(ht:t∈S):(match P.underlying t with
 | some .bool|some (.int _)|some .string=>P.cellsOf t==1
 | some (.slice e)=>P.cellsOf t==1&&S.contains e&&decide (0<P.cellsOf e)&&(YV P e||P.cellsOf e==1)
 | some (.struct fs)=>UL P 0 fs.toList (P.cellsOf t)&&fs.toList.all fun f=>S.contains f.type
 | some (.array m e)=>S.contains e&&m*P.cellsOf e==P.cellsOf t
 | _=>false)=true:=List.all_eq_true.1 hS t ht
theorem Sy{n:Nat}{cs:List Value}(ih : ∀ (t:TypeId) (cs:List Value) (x:DataW H×List MemPlace),t∈S->DataW.trod enc P w base sp held n t cs=some x-> ∃ ps,Cl w cs ps∧XJ P n t ps):
  ∀ (fs:List Field) (o N:Nat) (xs:List (DataW H×List MemPlace)),UL P o fs N=true->(∀ f∈fs,f.type∈S)->cs.length=N->o<=N ->
   fs.mapM (fun f=>DataW.trod enc P w base sp held n f.type ((cs.drop f.offset).take (P.cellsOf f.type)))=some xs ->
   ∃ ps,Cl w (cs.drop o) ps∧ ∀ qs:List PV,qs.length=o-> ∀ f∈fs,XJ P n f.type (((qs++ps).drop f.offset).take (P.cellsOf f.type)):=by
 intro fs
 induction fs with
 | nil=>
  intro o N xs hc _ hl ho _
  simp[UL]at hc
  refine⟨[],?_,fun qs _ f hf=>by simp at hf⟩
  rw[List.drop_of_length_le (by omega)]
  exact Cl.nil
 | cons f fs ihf=>
  intro o N xs hc hm hl ho h
  simp only[UL,Bool.and_eq_true,beq_iff_eq]at hc
  obtain⟨hfo,hc⟩:=hc
  simp only[List.mapM_cons,Option.bind_eq_bind,Option.bind_eq_some_iff]at h
  obtain⟨x,hx,xs',hxs,_⟩:=h
  obtain⟨p1,k1,k2⟩:=ih _ _ x (hm f List.mem_cons_self) hx
  have hle:o+P.cellsOf f.type<=N:=by
   have : ∀ (fs:List Field) (a:Nat),UL P a fs N=true->a<=N:=by
    intro fs
    induction fs with
    | nil=>intro a h;simp[UL]at h;omega
    | cons g fs ih=>intro a h;simp only[UL,Bool.and_eq_true]at h;have:=ih _ h.2;omega
   exact this _ _ hc
  obtain⟨p2,k3,k4⟩:=ihf (o+P.cellsOf f.type) N xs' hc (fun g hg=>hm g (List.mem_cons_of_mem _ hg)) hl hle hxs
  have hp1:p1.length=P.cellsOf f.type:=by
   rw[<- k1.1.1,List.length_take,List.length_drop,hfo]
   omega
  refine⟨p1++p2,?_,fun qs hq g hg=> ?_⟩
  ·have:=k1.append k3
   rw[hfo]at this
   have e:cs.drop o=(cs.drop o).take (P.cellsOf f.type)++cs.drop (o+P.cellsOf f.type):=by rw[<- List.drop_drop,List.take_append_drop]
   rw[e]
   exact this
  ·rcases List.mem_cons.1 hg with rfl|hg
   ·rw[hfo,<- hq,List.drop_left,<- hp1,List.take_left]
    exact k2
   ·have:=k4 (qs++p1) (by simp[hq,hp1]) g hg
    rwa [List.append_assoc]at this
theorem A7{n m sz:Nat}{e:TypeId}(he:P.cellsOf e=sz){cs:List Value}(ih : ∀ i,i<m-> ∃ ps,Cl w ((cs.drop (i*sz)).take sz) ps∧XJ P n e ps)(hl:cs.length=m*sz):
  ∃ ps,Cl w cs ps∧ ∀ i<m,XJ P n e ((ps.drop (i*sz)).take sz):=by
 induction m generalizing cs with
 | zero=>
  have:cs=[]:=List.length_eq_zero_iff.1 (by omega)
  subst this
  exact⟨[],Cl.nil,fun i h=>by omega⟩
 | succ m ihm=>
  obtain⟨p1,k1,k2⟩:=ih 0 (by omega)
  simp only[Nat.zero_mul,List.drop_zero]at k1
  have hl1:p1.length=sz:=by
   rw[<- k1.1.1,List.length_take,hl,Nat.succ_mul]
   omega
  obtain⟨p2,k3,k4⟩:=ihm (cs:=cs.drop sz) (fun i hi=>by
   have:=ih (i+1) (by omega)
   rwa [Nat.succ_mul,Nat.add_comm,<- List.drop_drop]at this) (by rw[List.length_drop,hl,Nat.succ_mul];omega)
  refine⟨p1++p2,by have:=k1.append k3;rwa [List.take_append_drop]at this,fun i hi=> ?_⟩
  cases i with
  | zero=>
   simp only[Nat.zero_mul,List.drop_zero]
   rw[<- hl1,List.take_left]
   exact k2
  | succ i=>
   have:=k4 i (by omega)
   have e2:(p1++p2).drop ((i+1)*sz)=p2.drop (i*sz):=by
    rw[Nat.succ_mul,Nat.add_comm,<- List.drop_drop]
    congr 1
    rw[<- hl1,List.drop_left]
   rwa [e2]
theorem LX{e:TypeId}{q:List PV}(h:YV P e=true∨P.cellsOf e=1)(hl:q.length=P.cellsOf e)(h1:YV P e=false-> ∀ p∈q,p.cells=[p]):(J4 P e q).cells=q:=by
 unfold J4
 cases ha:YV P e with
 | true=>rfl
 | false=>
  rcases h with h|h
  ·rw[h]at ha;cases ha
  ·rw[h]at hl
   match q,hl with
   | [p],_=>exact h1 ha p (by simp)
theorem EE{n:Nat}{e:TypeId}{q:List PV}(h:XJ P n e q)(ha:YV P e=false): ∀ p∈q,p.cells=[p]:=by
 cases n with
 | zero=>exact h.elim
 | succ n=>
  unfold XJ at h
  unfold YV at ha
  split at h
  ·obtain⟨b,rfl⟩:=h;intro p hp;simp at hp;subst hp;rfl
  ·obtain⟨m,rfl,_⟩:=h;intro p hp;simp at hp;subst hp;rfl
  ·obtain⟨s,rfl,_⟩:=h;intro p hp;simp at hp;subst hp;rfl
  ·obtain⟨s,rfl,_⟩:=h;intro p hp;simp at hp;subst hp;rfl
  ·rename_i hu;rw[hu]at ha;cases ha
  ·rename_i hu;rw[hu]at ha;cases ha
  ·exact h.elim
theorem Tz{α:Type}{R:Nat->α->Prop}: ∀ (n:Nat),(∀ i,i<n-> ∃ q,R i q)-> ∃ qs:List α,qs.length=n∧ ∀ (i:Nat) q,qs[i]? = some q->R i q:=by
 intro n
 induction n with
 | zero=>intro _;exact⟨[],rfl,fun i q h=>by simp at h⟩
 | succ n ih=>
  intro h
  obtain⟨qs,h1,h2⟩:=ih fun i hi=>h i (by omega)
  obtain⟨q,hq⟩:=h n (by omega)
  refine⟨qs++[q],by simp[h1],fun i q' hi=> ?_⟩
  by_cases hlt:i<qs.length
  ·rw[List.getElem?_append_left hlt]at hi;exact h2 i q' hi
  ·rw[List.getElem?_append_right (by omega)]at hi
   have:i=n:=by
    have:=(List.getElem?_eq_some_iff.1 hi).1
    simp at this
    omega
   subst this
   rw[h1,Nat.sub_self]at hi
   cases hi
   exact hq
theorem Fv(a:Addr)(i j:Nat):(a.add i).add j=a.add (i+j):=by
 unfold Addr.add
 by_cases hi:i=0 <;> by_cases hj:j=0 <;> simp[hi,hj,Nat.add_assoc]
theorem M6{base n:Nat}{a:Addr}{cs:List Value}(h:w.cells? base a n=some cs):cs.length=n∧ ∀ (r:Nat) v,cs[r]? = some v->w.cell? (a.add r)=some v:=by
 unfold World.cells? at h
 split at h
 ·obtain⟨h1,h2⟩:=Gc h
  refine⟨by simpa using h1,fun r v hv=> ?_⟩
  have hr:=(List.getElem?_eq_some_iff.1 hv).1
  have hr2:r<n:=by rw[h1]at hr;simpa using hr
  exact h2 r r v (by simp[hr2]) hv
 ·cases h
theorem CG{a:Addr}{v:Value}(h:w.cell? a=some v): ∃ b off cs,a=⟨b,off,none⟩∧DR w b=some cs∧cs[off]? = some v:=by
 obtain⟨b,off,spot⟩:=a
 unfold World.cell? at h
 split at h
 ·rename_i c T fz hb
  split at h
  ·cases h
  ·rename_i hs
   have:spot=none:=by cases spot with|none=>rfl|some=>simp at hs
   subst this
   exact⟨b,off,c,rfl,by simp only[DR];rw[hb],h⟩
 ·cases h
theorem Pz{n:Nat}{e:TypeId}{a:Addr}{len cap:Nat}{xs:List (DataW H×List MemPlace)}(hsz:0<P.cellsOf e)(hag:YV P e=true∨P.cellsOf e=1)(hcap:len<=cap)(hmax:cap<=maxLen)
  (ih : ∀ (cs:List Value) (x:DataW H×List MemPlace),DataW.trod enc P w base sp held n e cs=some x-> ∃ ps,Cl w cs ps∧XJ P n e ps)
  (h:(List.range len).mapM (fun i=>(w.cells? base (a.add (i*P.cellsOf e)) (P.cellsOf e)).bind (DataW.trod enc P w base sp held n e))=some xs) :
  ∃ qs:List (List PV),RP (DR w) (.slice (some a) len cap) (.sl (P.cellsOf e) false (qs.map (J4 P e)))∧qs.length<=maxLen∧ ∀ q∈qs,q.length=P.cellsOf e∧XJ P n e q:=by
 obtain⟨hl,hg⟩:=Gc h
 rw[List.length_range]at hl
 have key : ∀ i,i<len-> ∃ q:List PV,(q.length=P.cellsOf e∧XJ P n e q)∧ ∀ (r:Nat) p,q[r]? = some p-> ∃ v,w.cell? (a.add (i*P.cellsOf e+r))=some v∧v.oneCell'=true∧RP (DR w) v p:=by
  intro i hi
  have hx:=List.getElem?_eq_getElem (show i<xs.length by omega)
  have:=hg i i _ (by simp[hi]) hx
  rw[Option.bind_eq_some_iff]at this
  obtain⟨cs,h1,h2⟩:=this
  obtain⟨q,k1,k2⟩:=ih cs _ h2
  obtain⟨c1,c2⟩:=M6 h1
  refine⟨q,⟨by rw[<- k1.1.1,c1],k2⟩,fun r p hp=> ?_⟩
  have hr:r<cs.length:=by rw[k1.1.1];exact(List.getElem?_eq_some_iff.1 hp).1
  have hv:=List.getElem?_eq_getElem hr
  refine⟨_,?_,k1.2 _ (List.getElem_mem hr),k1.1.2 r _ p hv hp⟩
  rw[<- Fv]
  exact c2 r _ hv
 obtain⟨qs,hq1,hq2⟩:=Tz len key
 have hcells : ∀ q∈qs,(J4 P e q).cells=q:=by
  intro q hq
  obtain⟨i,hi,rfl⟩:=List.getElem_of_mem hq
  have:=(hq2 i _ (List.getElem?_eq_getElem hi)).1
  exact LX hag this.1 fun ha=>EE this.2 ha
 refine⟨qs,?_,by omega,fun q hq=> ?_⟩
 ·by_cases h0:len=0
  ·subst h0
   have:qs=[]:=List.length_eq_zero_iff.1 hq1
   subst this
   exact .sl0 _ _ _ _ fun e=>by cases e
  ·-- the first cell tells the block
   obtain⟨b,off,cs,rfl,hb,-⟩ : ∃ b off cs,a=⟨b,off,none⟩∧DR w b=some cs∧True:=by
    have hq0:=List.getElem?_eq_getElem (show 0<qs.length by omega)
    obtain⟨⟨f1,f2⟩,f3⟩:=hq2 0 _ hq0
    have hp:=List.getElem?_eq_getElem (show 0<(qs[0]'(by omega)).length by omega)
    obtain⟨v,hv,_⟩:=f3 0 _ hp
    simp[Addr.add]at hv
    obtain⟨b,off,cs,e1,e2,_⟩:=CG hv
    exact⟨b,off,cs,e1,e2,trivial⟩
   have hs : ∀ x∈qs.map (J4 P e),x.cells.length=P.cellsOf e:=by
    intro x hx
    obtain⟨q,hq,rfl⟩:=List.mem_map.1 hx
    rw[hcells q hq]
    obtain⟨i,hi,rfl⟩:=List.getElem_of_mem hq
    exact(hq2 i _ (List.getElem?_eq_getElem hi)).1.1
   have hat : ∀ (j:Nat) p,(flat (qs.map (J4 P e)))[j]? = some p-> ∃ v,cs[off+j]? = some v∧v.oneCell'=true∧RP (DR w) v p:=by
    intro j p hp
    have hj:j<len*P.cellsOf e:=by
     have:=(List.getElem?_eq_some_iff.1 hp).1
     rw[X3 hs]at this
     simpa [hq1]using this
    have hi:j / P.cellsOf e<qs.length:=by rw[hq1];exact(Nat.div_lt_iff_lt_mul hsz).2 hj
    have hr:j % P.cellsOf e<P.cellsOf e:=Nat.mod_lt _ hsz
    have hqi:=List.getElem?_eq_getElem hi
    have e0:j=j / P.cellsOf e*P.cellsOf e+j % P.cellsOf e:=by rw[Nat.mul_comm];exact(Nat.div_add_mod _ _).symm
    have hxi:(qs.map (J4 P e))[j / P.cellsOf e]? = some (J4 P e qs[j / P.cellsOf e]):=by rw[List.getElem?_map,hqi];rfl
    have hfg:=SL hs hxi hr
    rw[<- e0,hcells _ (List.getElem_mem hi)]at hfg
    rw[hfg]at hp
    obtain⟨v,hv,h1,h2⟩:=(hq2 _ _ hqi).2 _ p hp
    rw[<- e0,Xi]at hv
    obtain⟨b',off',cs',e1,e2,e3⟩:=CG hv
    cases e1
    rw[hb]at e2
    cases e2
    exact⟨v,e3,h1,h2⟩
   have hlen:len=(qs.map (J4 P e)).length:=by simp[hq1]
   rw[hlen]
   refine .sl b off cs cap _ false _ (fun j=>(cs[off+j]?).getD default) hb (by rw[<- hlen];exact hcap) (fun e=>by cases e) hs (fun j p hp=> ?_) (fun j p hp=> ?_)
   ·obtain⟨v,h1,h2,h3⟩:=hat j p hp
    rw[h1]
    exact⟨rfl,h2⟩
   ·obtain⟨v,h1,h2,h3⟩:=hat j p hp
    rw[h1]
    exact h3
 ·obtain⟨i,hi,rfl⟩:=List.getElem_of_mem hq
  exact(hq2 i _ (List.getElem?_eq_getElem hi)).1
theorem Fg(hS:Az P S=true): ∀ (n:Nat) (t:TypeId) (cs:List Value) (x:DataW H×List MemPlace),t∈S->DataW.trod enc P w base sp held n t cs=some x-> ∃ ps,Cl w cs ps∧XJ P n t ps:=by
  intro n
  induction n with
  | zero=>intro t cs x _ h;simp[DataW.trod]at h
  | succ n ih=>
    intro t cs x ht h
    have hp:=CO hS ht
    unfold DataW.trod at h
    unfold XJ
    split at h <;> (try rename_i hu) <;> (try simp only[hu]at hp ⊢) <;> try (cases hp;done)
    all_goals first
      | (exact⟨_,Cl.one (.bool _) rfl,_,rfl⟩)
      | (split at h
         · rename_i hc
           obtain⟨rfl,hw⟩:=hc
           exact⟨_,Cl.one (.int _ _) rfl,_,rfl,hw⟩
         · cases h)
      | (split at h
         · rename_i hc
           exact⟨_,Cl.one (.str _) rfl,_,rfl,by simpa using hc⟩
         · cases h)
      | (cases h;done)
      | skip
    · exact⟨_,Cl.one (.sl0 _ _ _ false (fun e=>by cases e)) rfl,[],rfl,by simp,fun q hq=>by simp at hq⟩
    · rename_i e a len cap
      simp only[Bool.and_eq_true,Bool.or_eq_true,beq_iff_eq,decide_eq_true_eq]at hp
      simp only at h
      split at h
      · rename_i hc
        rw[Option.bind_eq_some_iff]at h
        obtain⟨xs,h1,_⟩:=h
        obtain⟨qs,k1,k2,k3⟩:=Pz hp.1.2 hp.2 hc.2.1 hc.2.2 (fun cs x hx=>ih e cs x (by simpa using hp.1.1.2) hx) h1
        exact⟨_,Cl.one k1 rfl,qs,rfl,k2,k3⟩
      · cases h
    · rename_i cs2 fs
      simp only[Bool.and_eq_true]at hp
      split at h
      · rename_i hc
        rw[Option.map_eq_some_iff]at h
        obtain⟨xs,h1,_⟩:=h
        obtain⟨ps,k1,k2⟩:=Sy ih fs.toList 0 (P.cellsOf t) xs hp.1 (fun f hf=>by simpa using List.all_eq_true.1 hp.2 f hf) hc (Nat.zero_le _) h1
        rw[List.drop_zero]at k1
        exact⟨ps,k1,by rw[<- k1.1.1,hc],fun f hf=>by simpa using k2 [] rfl f hf⟩
      · cases h
    · rename_i cs1 _ cs2 m e
      simp only[Bool.and_eq_true,beq_iff_eq]at hp
      split at h
      · rename_i hc
        rw[Option.map_eq_some_iff]at h
        obtain⟨xs,h1,_⟩:=h
        obtain⟨hl,hg⟩:=Gc h1
        rw[List.length_range]at hl
        obtain⟨ps,k1,k2⟩:=A7 (n:=n) (m:=m) (e:=e) rfl (cs:=cs1) (fun i hi=>by
          have hx:=List.getElem?_eq_getElem (show i<xs.length by omega)
          exact ih e _ _ (by simpa using hp.1) (hg i i _ (by simp[hi]) hx)) (by rw[hc,hp.2])
        exact⟨ps,k1,by rw[<- k1.1.1,hc],k2⟩
      · cases h
theorem TL(hS:Az P S=true){t:TypeId}(ht:t∈S){r:Reach}{b0:Nat}{v:Value}{d:DataW H}{p:List MemPlace}(hval:Value.okWide P w r b0 t v)(h:DataW.Trod enc P w base sp held t v d p):
  ∃ n q,RP (DR w) v (J4 P t q)∧XJ P n t q:=by
 obtain⟨n,h⟩:=h
 obtain⟨q,k1,k2⟩:=Fg hS n t _ _ ht h
 refine⟨n,q,?_,k2⟩
 have hp:=CO hS ht
 have scal:v.cells = #[v]->YV P t=false->RP (DR w) v (J4 P t q):=by
  intro hc ha
  rw[hc]at k1
  have hl:=k1.1.1
  match q,hl with
  | [x],_=>simp only[J4,ha,List.headD_cons];exact k1.1.2 0 v x rfl rfl
 have agg : ∀ cs,v = .agg cs->YV P t=true->RP (DR w) v (J4 P t q):=by
  rintro cs rfl ha
  simp only[J4,ha]
  exact .agg cs q (by have:=k1.1.1;simpa [Value.cells]using this) (fun x hx=>k1.2 x (by simpa [Value.cells]using hx)) fun j x y hx hy=>k1.1.2 j x y (by simpa [Value.cells]using hx) hy
 split at hp
 ·rename_i hu
  obtain⟨b,rfl⟩:=okWide_bool hu hval
  exact scal rfl (by simp[YV,hu])
 ·rename_i hu
  obtain⟨b,rfl⟩:=okWide_int hu hval
  exact scal rfl (by simp[YV,hu])
 ·rename_i hu
  obtain⟨b,rfl⟩:=okWide_string hu hval
  exact scal rfl (by simp[YV,hu])
 ·rename_i hu
  obtain⟨a,l,c,rfl⟩:=okWide_slice hu hval
  exact scal rfl (by simp[YV,hu])
 ·rename_i hu
  simp only[Value.okWide,hu]at hval
  obtain⟨cs,rfl,_⟩:=hval
  exact agg cs rfl (by simp[YV,hu])
 ·rename_i hu
  simp only[Value.okWide,hu]at hval
  obtain⟨cs,rfl,_⟩:=hval
  exact agg cs rfl (by simp[YV,hu])
 ·cases hp
def H5(P:Program)(t:TypeId):Option (List (Nat×TypeId)):=match P.underlying t with
 | some (.struct fs)=>some (fs.toList.map fun f=>(f.offset,f.type))
 | _=>none
def a7c(P:Program)(n:Nat)(q:List PV):List (Nat×TypeId)->Prop
 | []=>True
 | (o,t)::r=>XJ P n t ((q.drop o).take (P.cellsOf t))∧a7c P n q r
theorem Qk{n c:Nat}{t:TypeId}{q:List PV}{l:List (Nat×TypeId)}(hs:H5 P t=some l)(hc:P.cellsOf t=c)(h:XJ P n t q): ∃ m,n=m+1∧q.length=c∧a7c P m q l:=by
 cases n with
 | zero=>exact h.elim
 | succ m=>
  unfold H5 at hs
  split at hs
  ·rename_i fs hu
   cases hs
   simp only[XJ,hu]at h
   refine⟨m,rfl,by rw[h.1,hc],?_⟩
   have key : ∀ l:List Field,(∀ f∈l,XJ P m f.type ((q.drop f.offset).take (P.cellsOf f.type)))->a7c P m q (l.map fun f=>(f.offset,f.type)):=by
    intro l
    induction l with
    | nil=>intro _;trivial
    | cons f l ih=>intro h;exact⟨h f List.mem_cons_self,ih fun g hg=>h g (List.mem_cons_of_mem _ hg)⟩
   exact key _ h.2
  ·cases hs
theorem SI{n:Nat}{t:TypeId}{k:IntKind}{q:List PV}(hu:P.underlying t=some (.int k))(h:XJ P n t q): ∃ m,q=[.int k m]∧(Lit.int k m).wf=true:=by
 cases n with
 | zero=>exact h.elim
 | succ m=>simpa only[XJ,hu]using h
theorem A8{n:Nat}{t:TypeId}{q:List PV}(hu:P.underlying t=some .string)(h:XJ P n t q): ∃ s:List UInt8,q=[.str s]∧s.length<=maxLen:=by
 cases n with
 | zero=>exact h.elim
 | succ m=>simpa only[XJ,hu]using h
theorem RG{n c:Nat}{t e:TypeId}{q:List PV}(hu:P.underlying t=some (.slice e))(hc:P.cellsOf e=c)(h:XJ P n t q): ∃ m,n=m+1∧ ∃ qs:List (List PV),q=[.sl c false (qs.map (J4 P e))]∧qs.length<=maxLen∧ ∀ x∈qs,x.length=c∧XJ P m e x:=by
 cases n with
 | zero=>exact h.elim
 | succ m=>
  subst hc
  simp only[XJ,hu]at h
  exact⟨m,rfl,h⟩
theorem a2r{Φ:Z5}:X5 Φ (#[]:Array Value).toList []:=⟨rfl,fun j v p h=>by simp at h⟩
theorem a9k{Φ:Z5}{v:Value}{vs:List Value}{p:PV}{ps:List PV}(h:RP Φ v p)(k:X5 Φ vs ps):X5 Φ (v::vs) (p::ps):=
 ⟨by simp[k.1],fun j u q hu hq=>match j with
  | 0=>by cases hu;cases hq;exact h
  | j+1=>k.2 j u q (by simpa using hu) (by simpa using hq)⟩
theorem M4{f:Nat}{pre:List PV->Bool}{val:List PV->PV}(h:Wt P f pre val){ps:List PV}(hp:pre ps=true)(hv:val ps = .bool true){vs:Array Value}(hL:GlobOK (DR w))(hr:X5 (DR w) vs.toList ps):
  Calls P f vs w fun e w'=>e = .returned (.bool true)∧Below w.heap.size w w':=by
 refine(h ps hp (DR w) w vs hL (a8f w) hr).mono ?_
 rintro e w' ⟨v,Φ',rfl,_,_,h1,h2,_⟩
 rw[hv]at h1
 cases h1
 exact⟨rfl,h2⟩
end
end Go.Pl

namespace Go.Proofs.YtjfgiaooglnomaaGreatDoor
open Go.Pl Go.RowKit Go.ChangeShapes
set_option maxRecDepth 100000
theorem Nj{P:Program}{W:World}{n:String}{g:Nat}{cs:Array Value}(hg:P.globalNamed n=some g)(h:W.var? P n=some cs):DR W g=some cs:=by
 unfold World.var? at h
 rw[hg]at h
 simp only[Option.bind_some]at h
 unfold DR
 exact h
theorem a6n:Tryz.prog.globalNamed "internal/strconv.uint64pow10" = some 1:=by kernel_rfl
theorem b0h:Tryz.prog.globalNamed "strconv.ErrRange" = some 3:=by kernel_rfl
theorem b0l:Tryz.prog.globalNamed "strconv.ErrSyntax" = some 2:=by kernel_rfl
theorem Fx:Tryz.prog.underlying 213=some (.interface ((match Tryz.prog.underlying 213 with|some (.interface ms)=>ms|_=>#[]))):=by kernel_rfl
theorem a7k{W:World}{r:List (String×DataW Unit)}(h:laidMet Tryz.prog (("internal/strconv.uint64pow10",Rows.laid_internal_strconv_uint64pow10)::r) W):DR W 1=some DC:=by
 have h1:Lib.TabIs Tryz.prog W "internal/strconv.uint64pow10" .u64 ((List.range 20).map fun i=>((10 ^ i:Nat):Int)):=Lib.tabIs_of_head (e:=200) (t:=301) a6n (by kernel_rfl) (n:=20) (by kernel_rfl) (by kernel_rfl) (by kernel_rfl) (by kernel_rfl) h
 exact(Nj a6n h1).trans rfl
theorem a1q{W:World}{n:String}{g:Nat}{text:List UInt8}{r:List (String×DataW Unit)}(hg:Tryz.prog.globalNamed n=some g)(ht:(Tryz.prog.globals[g]?).map (·.type)=some 213)(h:laidMet Tryz.prog ((n,.iface "*errors.errorString" (.ptr (.agg [.lit (.string text)])))::r) W): ∃ cs,DR W g=some cs∧GL cs:=by
 obtain⟨ps,⟨g0,t0,cs0,f0,p0,q0,hg0,ht0,hv0,hd0,_,e0⟩,_,hrows⟩:=h
 obtain rfl:=Option.some.inj (hg.symm.trans hg0)
 obtain rfl:=Option.some.inj (ht.symm.trans ht0)
 subst e0
 refine⟨cs0,Nj hg hv0,?_⟩
 obtain⟨f1,u,v,e,_⟩:=iface_of_trod Fx hd0
 obtain⟨l0⟩:=cs0
 have e:l0=[.iface u v]:=e
 subst e
 exact⟨_,rfl,.inr ⟨u,v,rfl⟩⟩
noncomputable def a8r:DataW Unit->Value
 | .lit (.int k n)=>.int k n
 | _=>.int .i64 0
noncomputable def Aw:DataW Unit->Array Value
 | .agg ds=>(ds.map a8r).toArray
 | _=>#[]
noncomputable def a1x:DataW Unit->ByteArray
 | .iface _ (.ptr (.agg [.lit (.string bs)]))=>⟨bs.toArray⟩
 | _=>⟨#[]⟩
noncomputable def low:Nat:=(World.holding Tryz.prog default ⟨#[],#[],[]⟩).heap.size
noncomputable def PZ(cs:Array Value):Obj->Obj
 | .cells _ t frozen=>.cells cs t frozen
 | o=>o
end Go.Proofs.YtjfgiaooglnomaaGreatDoor

namespace Go.Proofs.YtjfgiaooglnomaaGreatDoor
open Go.Pl Go.RowKit Go.ChangeShapes
set_option maxRecDepth 100000
theorem a2e{W:World}{x y z:String×DataW Unit}{r:List (String×DataW Unit)}(h:laidMet Tryz.prog (x::y::("internal/strconv.uint64pow10",Rows.laid_internal_strconv_uint64pow10)::z::("strconv.ErrRange",Rows.laid_strconv_ErrRange)::("strconv.ErrSyntax",Rows.laid_strconv_ErrSyntax)::r) W):GlobOK (DR W):=
 ⟨a1q b0l (by kernel_rfl) h.tail.tail.tail.tail.tail,a1q b0h (by kernel_rfl) h.tail.tail.tail.tail,a7k h.tail.tail⟩
noncomputable def a5o:DataW Unit->Array Value
 | .agg ds=>(ds.flatMap fun d=>match d with | .agg es=>es.map a8r|d=>[a8r d]).toArray
 | _=>#[]
noncomputable def GY(os:Os):World:=
 let w0:=World.holding Tryz.prog os ⟨#[.cells #[.string (a1x Rows.laid_strconv_ErrRange)] 326,.cells #[.string (a1x Rows.laid_strconv_ErrSyntax)] 326],#[],[]⟩
 {w0 with heap:=((((((w0.heap.modify 3 (PZ #[.iface 324 (.pointer (some ⟨low,0,none⟩))])).modify 2 (PZ #[.iface 324 (.pointer (some ⟨low+1,0,none⟩))])).modify 1 (PZ (Aw Rows.laid_internal_strconv_uint64pow10))).modify 6 (PZ (Aw Rows.laid_math_bits_deBruijn32tab))).modify 7 (PZ (Aw Rows.laid_math_bits_deBruijn64tab))).modify 5 (PZ (a5o Rows.laid_unicode_utf8_acceptRanges))).modify 4 (PZ (Aw Rows.laid_unicode_utf8_first))}
end Go.Proofs.YtjfgiaooglnomaaGreatDoor

namespace Go.Proofs.YtjfgiaooglnomaaGreatDoor
open Go.Shelf
def Tryz.lays172_ren:Go.Shelf.Ren:=⟨fun|172=>182|244=>242|245=>243|247=>278|279=>279|280=>280|281=>281|282=>282|287=>298|316=>299|171=>76|205=>300|321=>308|322=>309|243=>146|246=>214|283=>260|284=>261|285=>262|286=>263|129=>276|317=>287|318=>288|319=>289|320=>290|337=>301|338=>302|n=>n,fun|9=>9|3=>3|75=>213|76=>214|4=>4|5=>5|167=>290|37=>38|0=>0|85=>291|2=>2|168=>293|53=>200|175=>309|46=>171|210=>313|127=>323|145=>326|143=>324|21=>21|171=>273|173=>275|212=>301|51=>288|20=>20|213=>302|232=>327|233=>328|80=>329|n=>n,fun|15=>2|16=>3|17=>1|18=>6|19=>7|n=>n⟩
theorem Tryz.lays172:Go.Proofs.LaysC.n172 Tryz.prog Tryz.lays172_ren:={
 mixed:=by kernel_rfl
 f129:=Tryz.func276.trans (congrArg some (by kernel_rfl))
 f171:=Tryz.func76.trans (congrArg some (by kernel_rfl))
 f172:=Tryz.func182.trans (congrArg some (by kernel_rfl))
 f205:=Tryz.func300.trans (congrArg some (by kernel_rfl))
 f243:=Tryz.func146.trans (congrArg some (by kernel_rfl))
 f244:=Tryz.func242.trans (congrArg some (by kernel_rfl))
 f245:=Tryz.func243.trans (congrArg some (by kernel_rfl))
 f246:=Tryz.func214.trans (congrArg some (by kernel_rfl))
 f247:=Tryz.func278.trans (congrArg some (by kernel_rfl))
 f279:=Tryz.func279.trans (congrArg some (by kernel_rfl))
 f280:=Tryz.func280.trans (congrArg some (by kernel_rfl))
 f281:=Tryz.func281.trans (congrArg some (by kernel_rfl))
 f282:=Tryz.func282.trans (congrArg some (by kernel_rfl))
 f283:=Tryz.func260.trans (congrArg some (by kernel_rfl))
 f284:=Tryz.func261.trans (congrArg some (by kernel_rfl))
 f285:=Tryz.func262.trans (congrArg some (by kernel_rfl))
 f286:=Tryz.func263.trans (congrArg some (by kernel_rfl))
 f287:=Tryz.func298.trans (congrArg some (by kernel_rfl))
 f316:=Tryz.func299.trans (congrArg some (by kernel_rfl))
 f317:=Tryz.func287.trans (congrArg some (by kernel_rfl))
 f318:=Tryz.func288.trans (congrArg some (by kernel_rfl))
 f319:=Tryz.func289.trans (congrArg some (by kernel_rfl))
 f320:=Tryz.func290.trans (congrArg some (by kernel_rfl))
 f321:=Tryz.func308.trans (congrArg some (by kernel_rfl))
 f322:=Tryz.func309.trans (congrArg some (by kernel_rfl))
 f337:=Tryz.func301.trans (congrArg some (by kernel_rfl))
 f338:=Tryz.func302.trans (congrArg some (by kernel_rfl))
 t0:=Tryz.underlying0
 a0:=Tryz.isAgg0
 z0:=Tryz.sizeOf0
 v0:=Tryz.zeroValue0
 t2:=Tryz.underlying2
 a2:=Tryz.isAgg2
 z2:=Tryz.sizeOf2
 v2:=Tryz.zeroValue2
 t3:=Tryz.underlying3
 a3:=Tryz.isAgg3
 z3:=Tryz.sizeOf3
 v3:=Tryz.zeroValue3
 t4:=Tryz.underlying4
 a4:=Tryz.isAgg4
 z4:=Tryz.sizeOf4
 v4:=Tryz.zeroValue4
 t5:=Tryz.underlying5
 a5:=Tryz.isAgg5
 z5:=Tryz.sizeOf5
 v5:=Tryz.zeroValue5
 t9:=Tryz.underlying9
 a9:=Tryz.isAgg9
 z9:=Tryz.sizeOf9
 v9:=Tryz.zeroValue9
 t20:=Tryz.underlying20
 a20:=Tryz.isAgg20
 z20:=Tryz.sizeOf20
 v20:=Tryz.zeroValue20
 t21:=Tryz.underlying21
 a21:=Tryz.isAgg21
 z21:=Tryz.sizeOf21
 v21:=Tryz.zeroValue21
 t37:=Tryz.underlying38
 a37:=Tryz.isAgg38
 z37:=Tryz.sizeOf38
 v37:=Tryz.zeroValue38
 t46:=Tryz.underlying171
 a46:=Tryz.isAgg171
 z46:=Tryz.sizeOf171
 v46:=Tryz.zeroValue171
 t51:=Tryz.underlying288
 a51:=Tryz.isAgg288
 z51:=Tryz.sizeOf288
 v51:=Tryz.zeroValue288
 t53:=Tryz.underlying200
 a53:=Tryz.isAgg200
 z53:=Tryz.sizeOf200
 v53:=Tryz.zeroValue200
 t75:=Tryz.underlying213
 a75:=Tryz.isAgg213
 z75:=Tryz.sizeOf213
 v75:=Tryz.zeroValue213
 t76:=Tryz.underlying214
 a76:=Tryz.isAgg214
 z76:=Tryz.sizeOf214
 v76:=Tryz.zeroValue214
 t85:=Tryz.underlying291
 a85:=Tryz.isAgg291
 z85:=Tryz.sizeOf291
 v85:=Tryz.zeroValue291
 t127:=Tryz.underlying323
 a127:=Tryz.isAgg323
 z127:=Tryz.sizeOf323
 v127:=Tryz.zeroValue323
 t143:=Tryz.underlying324
 a143:=Tryz.isAgg324
 z143:=Tryz.sizeOf324
 v143:=Tryz.zeroValue324
 t145:=Tryz.underlying326
 a145:=Tryz.isAgg326
 z145:=Tryz.sizeOf326
 v145:=Tryz.zeroValue326
 t167:=Tryz.underlying290
 a167:=Tryz.isAgg290
 z167:=Tryz.sizeOf290
 v167:=Tryz.zeroValue290
 t168:=Tryz.underlying293
 a168:=Tryz.isAgg293
 z168:=Tryz.sizeOf293
 v168:=Tryz.zeroValue293
 t171:=Tryz.underlying273
 a171:=Tryz.isAgg273
 z171:=Tryz.sizeOf273
 v171:=Tryz.zeroValue273
 t173:=Tryz.underlying275
 a173:=Tryz.isAgg275
 z173:=Tryz.sizeOf275
 v173:=Tryz.zeroValue275
 t175:=Tryz.underlying309
 a175:=Tryz.isAgg309
 z175:=Tryz.sizeOf309
 v175:=Tryz.zeroValue309
 t210:=Tryz.underlying313
 a210:=Tryz.isAgg313
 z210:=Tryz.sizeOf313
 v210:=Tryz.zeroValue313
 t212:=Tryz.underlying301
 a212:=Tryz.isAgg301
 z212:=Tryz.sizeOf301
 v212:=Tryz.zeroValue301
 t213:=Tryz.underlying302
 a213:=Tryz.isAgg302
 z213:=Tryz.sizeOf302
 t232:=Tryz.underlying327
 a232:=Tryz.isAgg327
 z232:=Tryz.sizeOf327
 v232:=Tryz.zeroValue327
 t233:=Tryz.underlying328
 a233:=Tryz.isAgg328
 z233:=Tryz.sizeOf328
 v233:=Tryz.zeroValue328
 g15:=by kernel_rfl
 g16:=by kernel_rfl
 g17:=by kernel_rfl
 g18:=by kernel_rfl
 g19:=by kernel_rfl
 t80:=Tryz.underlying329
 a80:=Tryz.isAgg329
 z80:=Tryz.sizeOf329
 v80:=Tryz.zeroValue329
 i0:=by kernel_rfl
 i2:=by kernel_rfl
 i3:=by kernel_rfl
 i4:=by kernel_rfl
 i5:=by kernel_rfl
 i9:=by kernel_rfl
 i20:=by kernel_rfl
 i21:=by kernel_rfl
 i37:=by kernel_rfl
 i46:=by kernel_rfl
 i51:=by kernel_rfl
 i53:=by kernel_rfl
 i75:=by kernel_rfl
 i76:=by kernel_rfl
 i80:=by kernel_rfl
 i85:=by kernel_rfl
 i127:=by kernel_rfl
 i143:=by kernel_rfl
 i145:=by kernel_rfl
 i167:=by kernel_rfl
 i168:=by kernel_rfl
 i171:=by kernel_rfl
 i173:=by kernel_rfl
 i175:=by kernel_rfl
 i210:=by kernel_rfl
 i212:=by kernel_rfl
 i232:=by kernel_rfl
 i233:=by kernel_rfl
 m15:=by kernel_rfl
 m16:=by kernel_rfl
 m17:=by kernel_rfl
 m18:=by kernel_rfl
 m19:=by kernel_rfl
 c0:=by kernel_rfl
 c2:=by kernel_rfl
 c3:=by kernel_rfl
 c4:=by kernel_rfl
 c5:=by kernel_rfl
 c9:=by kernel_rfl
 c20:=by kernel_rfl
 c21:=by kernel_rfl
 c37:=by kernel_rfl
 c46:=by kernel_rfl
 c51:=by kernel_rfl
 c53:=by kernel_rfl
 c75:=by kernel_rfl
 c76:=by kernel_rfl
 c80:=by kernel_rfl
 c85:=by kernel_rfl
 c127:=by kernel_rfl
 c143:=by kernel_rfl
 c145:=by kernel_rfl
 c167:=by kernel_rfl
 c168:=by kernel_rfl
 c171:=by kernel_rfl
 c173:=by kernel_rfl
 c175:=by kernel_rfl
 c210:=by kernel_rfl
 c212:=by kernel_rfl
 c213:=by kernel_rfl
 c232:=by kernel_rfl
 c233:=by kernel_rfl}
def Tryz.lays171_ren:Go.Shelf.Ren:=⟨fun|171=>76|243=>146|246=>214|283=>260|284=>261|285=>262|286=>263|129=>276|317=>287|318=>288|319=>289|320=>290|337=>301|338=>302|n=>n,fun|3=>3|9=>9|2=>2|4=>4|171=>273|0=>0|53=>200|37=>38|5=>5|173=>275|212=>301|51=>288|20=>20|213=>302|46=>171|232=>327|233=>328|n=>n,fun|17=>1|18=>6|19=>7|n=>n⟩
theorem Tryz.lays171:Go.Proofs.LaysM.n171 Tryz.prog Tryz.lays171_ren:={
 mixed:=by kernel_rfl
 f129:=Tryz.func276.trans (congrArg some (by kernel_rfl))
 f171:=Tryz.func76.trans (congrArg some (by kernel_rfl))
 f243:=Tryz.func146.trans (congrArg some (by kernel_rfl))
 f246:=Tryz.func214.trans (congrArg some (by kernel_rfl))
 f283:=Tryz.func260.trans (congrArg some (by kernel_rfl))
 f284:=Tryz.func261.trans (congrArg some (by kernel_rfl))
 f285:=Tryz.func262.trans (congrArg some (by kernel_rfl))
 f286:=Tryz.func263.trans (congrArg some (by kernel_rfl))
 f317:=Tryz.func287.trans (congrArg some (by kernel_rfl))
 f318:=Tryz.func288.trans (congrArg some (by kernel_rfl))
 f319:=Tryz.func289.trans (congrArg some (by kernel_rfl))
 f320:=Tryz.func290.trans (congrArg some (by kernel_rfl))
 f337:=Tryz.func301.trans (congrArg some (by kernel_rfl))
 f338:=Tryz.func302.trans (congrArg some (by kernel_rfl))
 t0:=Tryz.underlying0
 a0:=Tryz.isAgg0
 z0:=Tryz.sizeOf0
 v0:=Tryz.zeroValue0
 t2:=Tryz.underlying2
 a2:=Tryz.isAgg2
 z2:=Tryz.sizeOf2
 v2:=Tryz.zeroValue2
 t3:=Tryz.underlying3
 a3:=Tryz.isAgg3
 z3:=Tryz.sizeOf3
 v3:=Tryz.zeroValue3
 t4:=Tryz.underlying4
 a4:=Tryz.isAgg4
 z4:=Tryz.sizeOf4
 v4:=Tryz.zeroValue4
 t5:=Tryz.underlying5
 a5:=Tryz.isAgg5
 z5:=Tryz.sizeOf5
 v5:=Tryz.zeroValue5
 t9:=Tryz.underlying9
 a9:=Tryz.isAgg9
 z9:=Tryz.sizeOf9
 v9:=Tryz.zeroValue9
 t20:=Tryz.underlying20
 a20:=Tryz.isAgg20
 z20:=Tryz.sizeOf20
 v20:=Tryz.zeroValue20
 t37:=Tryz.underlying38
 a37:=Tryz.isAgg38
 z37:=Tryz.sizeOf38
 v37:=Tryz.zeroValue38
 t46:=Tryz.underlying171
 a46:=Tryz.isAgg171
 z46:=Tryz.sizeOf171
 v46:=Tryz.zeroValue171
 t51:=Tryz.underlying288
 a51:=Tryz.isAgg288
 z51:=Tryz.sizeOf288
 v51:=Tryz.zeroValue288
 t53:=Tryz.underlying200
 a53:=Tryz.isAgg200
 z53:=Tryz.sizeOf200
 v53:=Tryz.zeroValue200
 t171:=Tryz.underlying273
 a171:=Tryz.isAgg273
 z171:=Tryz.sizeOf273
 v171:=Tryz.zeroValue273
 t173:=Tryz.underlying275
 a173:=Tryz.isAgg275
 z173:=Tryz.sizeOf275
 v173:=Tryz.zeroValue275
 t212:=Tryz.underlying301
 a212:=Tryz.isAgg301
 z212:=Tryz.sizeOf301
 v212:=Tryz.zeroValue301
 t213:=Tryz.underlying302
 a213:=Tryz.isAgg302
 z213:=Tryz.sizeOf302
 t232:=Tryz.underlying327
 a232:=Tryz.isAgg327
 z232:=Tryz.sizeOf327
 v232:=Tryz.zeroValue327
 t233:=Tryz.underlying328
 a233:=Tryz.isAgg328
 z233:=Tryz.sizeOf328
 v233:=Tryz.zeroValue328
 g17:=by kernel_rfl
 g18:=by kernel_rfl
 g19:=by kernel_rfl
 i0:=by kernel_rfl
 i2:=by kernel_rfl
 i3:=by kernel_rfl
 i4:=by kernel_rfl
 i5:=by kernel_rfl
 i9:=by kernel_rfl
 i20:=by kernel_rfl
 i37:=by kernel_rfl
 i46:=by kernel_rfl
 i51:=by kernel_rfl
 i53:=by kernel_rfl
 i171:=by kernel_rfl
 i173:=by kernel_rfl
 i212:=by kernel_rfl
 i232:=by kernel_rfl
 i233:=by kernel_rfl
 m17:=by kernel_rfl
 m18:=by kernel_rfl
 m19:=by kernel_rfl}
def Tryz.lays99_ren:Go.Shelf.Ren:=⟨fun|99=>152|206=>221|n=>n,fun|9=>9|4=>4|3=>3|n=>n,fun|n=>n⟩
theorem Tryz.lays99:Go.Proofs.Lays.n99 Tryz.prog Tryz.lays99_ren:={
 mixed:=by kernel_rfl
 f99:=Tryz.func152.trans (congrArg some (by kernel_rfl))
 f206:=Tryz.func221.trans (congrArg some (by kernel_rfl))
 t3:=Tryz.underlying3
 a3:=Tryz.isAgg3
 z3:=Tryz.sizeOf3
 v3:=Tryz.zeroValue3
 t4:=Tryz.underlying4
 a4:=Tryz.isAgg4
 z4:=Tryz.sizeOf4
 v4:=Tryz.zeroValue4
 t9:=Tryz.underlying9
 a9:=Tryz.isAgg9
 z9:=Tryz.sizeOf9
 v9:=Tryz.zeroValue9}
def Tryz.lays190_ren:Go.Shelf.Ren:=⟨fun|190=>154|125=>223|258=>222|128=>275|129=>276|302=>267|303=>268|304=>269|305=>270|306=>271|307=>272|308=>244|309=>273|310=>274|333=>293|329=>294|330=>295|334=>296|335=>297|336=>283|344=>307|n=>n,fun|31=>76|9=>9|3=>3|46=>171|0=>0|51=>288|53=>200|4=>4|183=>282|182=>281|131=>129|5=>5|218=>304|222=>148|228=>321|229=>247|n=>n,fun|n=>n⟩
theorem Tryz.lays190:Go.Proofs.Lays.n190 Tryz.prog Tryz.lays190_ren:={
 mixed:=by kernel_rfl
 f125:=Tryz.func223.trans (congrArg some (by kernel_rfl))
 f128:=Tryz.func275.trans (congrArg some (by kernel_rfl))
 f129:=Tryz.func276.trans (congrArg some (by kernel_rfl))
 f190:=Tryz.func154.trans (congrArg some (by kernel_rfl))
 f258:=Tryz.func222.trans (congrArg some (by kernel_rfl))
 f302:=Tryz.func267.trans (congrArg some (by kernel_rfl))
 f303:=Tryz.func268.trans (congrArg some (by kernel_rfl))
 f304:=Tryz.func269.trans (congrArg some (by kernel_rfl))
 f305:=Tryz.func270.trans (congrArg some (by kernel_rfl))
 f306:=Tryz.func271.trans (congrArg some (by kernel_rfl))
 f307:=Tryz.func272.trans (congrArg some (by kernel_rfl))
 f308:=Tryz.func244.trans (congrArg some (by kernel_rfl))
 f309:=Tryz.func273.trans (congrArg some (by kernel_rfl))
 f310:=Tryz.func274.trans (congrArg some (by kernel_rfl))
 f329:=Tryz.func294.trans (congrArg some (by kernel_rfl))
 f330:=Tryz.func295.trans (congrArg some (by kernel_rfl))
 f333:=Tryz.func293.trans (congrArg some (by kernel_rfl))
 f334:=Tryz.func296.trans (congrArg some (by kernel_rfl))
 f335:=Tryz.func297.trans (congrArg some (by kernel_rfl))
 f336:=Tryz.func283.trans (congrArg some (by kernel_rfl))
 f344:=Tryz.func307.trans (congrArg some (by kernel_rfl))
 t0:=Tryz.underlying0
 a0:=Tryz.isAgg0
 z0:=Tryz.sizeOf0
 v0:=Tryz.zeroValue0
 t3:=Tryz.underlying3
 a3:=Tryz.isAgg3
 z3:=Tryz.sizeOf3
 v3:=Tryz.zeroValue3
 t4:=Tryz.underlying4
 a4:=Tryz.isAgg4
 z4:=Tryz.sizeOf4
 v4:=Tryz.zeroValue4
 t5:=Tryz.underlying5
 a5:=Tryz.isAgg5
 z5:=Tryz.sizeOf5
 v5:=Tryz.zeroValue5
 t9:=Tryz.underlying9
 a9:=Tryz.isAgg9
 z9:=Tryz.sizeOf9
 v9:=Tryz.zeroValue9
 t31:=Tryz.underlying76
 a31:=Tryz.isAgg76
 z31:=Tryz.sizeOf76
 v31:=Tryz.zeroValue76
 t46:=Tryz.underlying171
 a46:=Tryz.isAgg171
 z46:=Tryz.sizeOf171
 v46:=Tryz.zeroValue171
 t51:=Tryz.underlying288
 a51:=Tryz.isAgg288
 z51:=Tryz.sizeOf288
 v51:=Tryz.zeroValue288
 t53:=Tryz.underlying200
 a53:=Tryz.isAgg200
 z53:=Tryz.sizeOf200
 v53:=Tryz.zeroValue200
 t131:=Tryz.underlying129
 a131:=Tryz.isAgg129
 z131:=Tryz.sizeOf129
 v131:=Tryz.zeroValue129
 t182:=Tryz.underlying281
 a182:=Tryz.isAgg281
 z182:=Tryz.sizeOf281
 v182:=Tryz.zeroValue281
 t183:=Tryz.underlying282
 a183:=Tryz.isAgg282
 z183:=Tryz.sizeOf282
 v183:=Tryz.zeroValue282
 t218:=Tryz.underlying304
 a218:=Tryz.isAgg304
 z218:=Tryz.sizeOf304
 v218:=Tryz.zeroValue304
 t222:=Tryz.underlying148
 a222:=Tryz.isAgg148
 z222:=Tryz.sizeOf148
 v222:=Tryz.zeroValue148
 t228:=Tryz.underlying321
 a228:=Tryz.isAgg321
 z228:=Tryz.sizeOf321
 v228:=Tryz.zeroValue321
 t229:=Tryz.underlying247
 a229:=Tryz.isAgg247
 z229:=Tryz.sizeOf247
 v229:=Tryz.zeroValue247}
end Go.Proofs.YtjfgiaooglnomaaGreatDoor

namespace Go.Proofs.YtjfgiaooglnomaaGreatDoor
open Go.Pl Go.RowKit
open Enc (enc dec is)
open EncL (encL decL isL)
set_option maxRecDepth 100000
theorem VW:ZE Tryz.prog 152 (fun _:Str×Str×Unit=>true) (fun x:Str×Str×Unit=>x.2.1.s.isPrefixOf x.1.s):=Xe (by
  rintro⟨⟨s⟩,⟨p⟩,⟨⟩⟩ hps Φ w vs hL hΦ hv
  obtain⟨u,v,rfl,h1,h2⟩:=a4h hv
  rw[UX h1,UX h2]
  refine(Any.strings_HasPrefix Tryz.lays99 ⟨s.toArray⟩ ⟨p.toArray⟩ w).mono ?_
  rintro e w' ⟨rfl,rfl⟩
  exact⟨_,rfl,.bool _,.refl _ _⟩)
theorem SV:ZE Tryz.prog 182 (fun x:Str×Unit=>decide (x.1.s.length<=1000000)) (fun x:Str×Unit=>ZU x.1):=Xe (by
  rintro⟨⟨s⟩,⟨⟩⟩ hps Φ w vs hL hΦ hv
  have hs:s.length<=1000000:=by simpa using hps
  obtain⟨v,rfl,h1⟩:=a9y hv
  rw[UX h1]
  have hsz:(⟨s.toArray⟩:ByteArray).size=s.length:=rfl
  cases h:Lib.atoiAll s
  ·rename_i n
   have e1:ZU ⟨s⟩=(n,⟨false⟩):=by simp only[ZU,h]
   rw[e1]
   refine(Any.strconv_Atoi_ok Tryz.lays172 ⟨s.toArray⟩ (by rw[hsz];omega) n h w).mono ?_
   rintro e w' ⟨rfl,hw⟩
   refine⟨_,rfl,.tup _ _ rfl ?_,?_⟩
   ·intro j v x hv hx
    match j with
    | 0=>cases hv;cases hx;exact .int _ _
    | 1=>cases hv;cases hx;exact .nili
    | j+2=>simp at hv
   ·rcases hw with rfl|⟨t,rfl⟩
    ·exact .refl _ _
    ·exact TE _ _ 0 _
  ·skip
   have e1:ZU ⟨s⟩=(0,⟨true⟩):=by simp only[ZU,h]
   rw[e1]
   obtain⟨cs,hc,ev,he,hev⟩:=hL.syn
   refine(Any.strconv_Atoi_syntax Tryz.lays172 ⟨s.toArray⟩ (by rw[hsz];omega) h ev w (CZ hΦ hc he) hev).mono ?_
   rintro e w' ⟨N,rfl,_,_,hb⟩
   refine⟨_,rfl,.tup _ _ rfl ?_,hb⟩
   intro j v x hv hx
   match j with
   | 0=>cases hv;cases hx;exact .int _ _
   | 1=>cases hv;cases hx;exact .ifc _ _
   | j+2=>simp at hv
  ·skip
   have e1:ZU ⟨s⟩=(Lib.atoiSat s,⟨true⟩):=by simp only[ZU,h]
   rw[e1]
   obtain⟨cs,hc,ev,he,hev⟩:=hL.rng
   refine(Any.strconv_Atoi_range Tryz.lays172 ⟨s.toArray⟩ (by rw[hsz];omega) h ev w (CZ hΦ hc he) hev).mono ?_
   rintro e w' ⟨N,rfl,_,_,hb⟩
   refine⟨_,rfl,.tup _ _ rfl ?_,hb⟩
   intro j v x hv hx
   match j with
   | 0=>cases hv;cases hx;exact .int _ _
   | 1=>cases hv;cases hx;exact .ifc _ _
   | j+2=>simp at hv)
theorem TP:ZE Tryz.prog 76 (fun x:Int×Unit=>decide (-9223372036854775808<=x.1)&&decide (x.1<=9223372036854775807)) (fun x:Int×Unit=>ZC x.1):=Xe (by
  rintro⟨n,⟨⟩⟩ hps Φ w vs hL hΦ hv
  obtain⟨v,rfl,h1⟩:=a9y hv
  have h1:RP Φ v (.int .i64 n):=h1
  rw[a8b h1]
  have hn : -9223372036854775808<=n∧n<=9223372036854775807:=by simpa using hps
  have hg:=hL.pow
  obtain⟨T,fz,hh⟩:=hΦ _ _ hg
  refine(Any.strconv_Itoa Tryz.lays171 n hn.1 hn.2 w ?_).mono ?_
  ·unfold Lib.TabIs World.var?
   rw[show Program.globalNamed Tryz.prog "internal/strconv.uint64pow10" = some 1 by kernel_rfl]
   simp only[Option.bind_some,hh]
   rfl
  ·rintro e w' ⟨rfl,k,os,rfl⟩
   refine⟨_,rfl,.str _,?_⟩
   exact⟨rfl,rfl,rfl,by show w.heap.size<=(w.heap++os).size;simp,fun j hj=>by show(w.heap++os)[j]? = _;rw[Array.getElem?_append_left hj]⟩)
end Go.Proofs.YtjfgiaooglnomaaGreatDoor

namespace Go.Proofs.YtjfgiaooglnomaaGreatDoor
open Go.Pl
open Enc (enc dec is)
open EncL (encL decL isL)
set_option maxRecDepth 100000
theorem Yg:Tryz.prog.follows .mixedOrders=true:=by kernel_rfl
theorem AP:ZY Tryz.prog 154 YU XY:=M3 (Any.slices_Sort_string Tryz.lays190) (Any.slices_Sort_string_none Tryz.lays190)
theorem UF:ZE Tryz.prog 155 (fun _:UInt8×Unit=>true) (fun x:UInt8×Unit=>Zj x.1):=ZE.of (T:=P5) (ic:=HV) (rs:=BG) Zp Yg Tryz.func155 (by kernel_rfl) (by kernel_rfl) (by kernel_rfl) Ee
theorem V7:ZE Tryz.prog 156 (fun _:UInt8×Unit=>true) (fun x:UInt8×Unit=>ZT x.1):=ZE.of (T:=PM) (ic:=BX) (rs:=Bp) Zp Yg Tryz.func156 (by kernel_rfl) (by kernel_rfl) (by kernel_rfl) a0a
theorem Bf:ZE Tryz.prog 83 (fun _:Int×Unit=>true) (fun x:Int×Unit=>Z7 x.1):=ZE.of (T:=Gz) (ic:=Qr) (rs:=K9) Zp Yg Tryz.func83 (by kernel_rfl) (by kernel_rfl) (by kernel_rfl) Pf
theorem JS:ZE Tryz.prog 84 (fun _:Str×Unit=>true) (fun x:Str×Unit=>Zr x.1):=ZE.of (T:=XN) (ic:=Xa) (rs:=Y6) (Zb (YK Tryz.func155 (by kernel_rfl) UF) (Zb (YK Tryz.func156 (by kernel_rfl) V7) Zp)) Yg Tryz.func84 (by kernel_rfl) (by kernel_rfl) (by kernel_rfl) MB
theorem Uv:ZE Tryz.prog 20 (fun x:Lin×Unit=>Zz x.1) (fun x:Lin×Unit=>Zh x.1):=ZE.of (T:=X9) (ic:=Xq) (rs:=Xu) (Zb (YK Tryz.func83 (by kernel_rfl) Bf) (Zb (YK Tryz.func84 (by kernel_rfl) JS) Zp)) Yg Tryz.func20 (by kernel_rfl) (by kernel_rfl) (by kernel_rfl) Rt
theorem PP:ZE Tryz.prog 16 (fun x:Lin×Int×Unit=>Zz x.1) (fun x:Lin×Int×Unit=>BV x.1 x.2.1):=ZE.of (T:=Q9) (ic:=UH) (rs:=UI) Zp Yg Tryz.func16 (by kernel_rfl) (by kernel_rfl) (by kernel_rfl) a2d
theorem a0q:ZY Tryz.prog 89 Qt QI:=Ve (T:=ZH) (ic:=ZA) (rs:=Zy) Zp Yg Tryz.func89 (by kernel_rfl) (by kernel_rfl) (by kernel_rfl) Fy
theorem Tw:ZE Tryz.prog 89 (fun x:Lin×Str×Int×Unit=>decide (x.1.t.length<=1000000)) (fun x:Lin×Str×Int×Unit=>Wn x.1 x.2.1 x.2.2.1):=LP a0q
theorem Lf:ZE Tryz.prog 144 (fun _:Int×Unit=>true) (fun x:Int×Unit=>Z7 x.1):=ZE.of (T:=F6) (ic:=Pq) (rs:=RX) Zp Yg Tryz.func144 (by kernel_rfl) (by kernel_rfl) (by kernel_rfl) a3p
theorem JO:ZE Tryz.prog 119 (fun x:Str×Unit=>decide (x.1.s.length<=1000000)) (fun x:Str×Unit=>Zr x.1):=ZE.of (T:=XL) (ic:=Y9) (rs:=Y8) (Zb (YK Tryz.func152 (by kernel_rfl) VW) (Zb (YK Tryz.func182 (by kernel_rfl) SV) (Zb (YK Tryz.func76 (by kernel_rfl) TP) Zp))) Yg Tryz.func119 (by kernel_rfl) (by kernel_rfl) (by kernel_rfl) Fz
theorem Xt:ZE Tryz.prog 73 (fun x:Lin×Unit=>Zu x.1) (fun x:Lin×Unit=>Zh x.1):=ZE.of (T:=We) (ic:=Xx) (rs:=Xv) (Zb (YK Tryz.func144 (by kernel_rfl) Lf) (Zb (YK Tryz.func119 (by kernel_rfl) JO) Zp)) Yg Tryz.func73 (by kernel_rfl) (by kernel_rfl) (by kernel_rfl) PY
theorem Gl:Yt Tryz.prog YT:=(Zb (YK Tryz.func154 (by kernel_rfl) AP) (Zb (YK Tryz.func73 (by kernel_rfl) Xt) Zp))
theorem Ch{cd:Code}(h:JG Tryz.prog MF Tryz.f82 0=some cd):KM Tryz.prog cd=some Tp:=by
 have:(JG Tryz.prog MF Tryz.f82 0).bind (KM Tryz.prog)=some Tp:=by kernel_rfl
 rw[h]at this
 exact this
theorem a3t(args:List AV)(os:List AObj)(h:YH args os=true)(c:Ctx)(hk : ∀ i m,os.length<=i->c.μ0 i m=none):O9 (UB Gl Yg) (fun n cd=>JG Tryz.prog MF Tryz.f82 n=some cd) Bj c:=by
 rintro n cd hcd st a w q hr ⟨rfl,hE⟩
 have h2:os.length=2:=by
  unfold YH at h
  split at h
  ·rfl
  ·cases h
 rw[h2]at hk
 exact NY Gl Yg (Ch hcd) hk hr hE
theorem a4m:ZY Tryz.prog 82 YH V9:=a6k (T:=YT) (ic:=Yy) (rs:=YG) (E:=Bj) (sel:=MF) Gl Yg Tryz.func82 (by kernel_rfl) (by kernel_rfl) (by kernel_rfl) a3t a1m a2c
theorem Et:ZY Tryz.prog 82 YH KC:=a5p a4m
theorem Ex:ZY Tryz.prog 114 WQ KX:=Ve (T:=Qg) (ic:=VP) (rs:=VQ) Zp Yg Tryz.func114 (by kernel_rfl) (by kernel_rfl) (by kernel_rfl) a4j
theorem Sq:ZE Tryz.prog 111 (fun x:Lin×Lin×Int×Unit=>Zu x.1&&Zu x.2.1) (fun x:Lin×Lin×Int×Unit=>YB x.1 x.2.1 x.2.2.1):=ZE.of (T:=Jv) (ic:=QZ) (rs:=Ka) (Zb (YK Tryz.func73 (by kernel_rfl) Xt) (Zb (YK Tryz.func114 (by kernel_rfl) Ex) (Zb (YK Tryz.func82 (by kernel_rfl) Et) Zp))) Yg Tryz.func111 (by kernel_rfl) (by kernel_rfl) (by kernel_rfl) Ri
theorem L9:ZE Tryz.prog 39 (fun x:Lin×Lin×Unit=>Zu x.1&&Zu x.2.1) (fun x:Lin×Lin×Unit=>YB x.1 x.2.1 1):=ZE.of (T:=Bn) (ic:=Da) (rs:=Dh) (Zb (YK Tryz.func111 (by kernel_rfl) Sq) Zp) Yg Tryz.func39 (by kernel_rfl) (by kernel_rfl) (by kernel_rfl) Fu
end Go.Proofs.YtjfgiaooglnomaaGreatDoor

namespace Go.Proofs.YtjfgiaooglnomaaGreatDoor
open Go.Pl
open Enc (enc dec is)
open EncL (encL decL isL)
set_option maxRecDepth 100000
end Go.Proofs.YtjfgiaooglnomaaGreatDoor

namespace Go.Proofs.YtjfgiaooglnomaaGreatDoor
open Go.Pl
open Enc (enc dec is)
open EncL (encL decL isL)
set_option maxRecDepth 100000
theorem Gh:ZE Tryz.prog 85 (fun x:Lin×Lin×Unit=>Zz x.1) (fun x:Lin×Lin×Unit=>UC x.1 x.2.1):=ZE.of (T:=Qe) (ic:=VM) (rs:=VU) Zp Yg Tryz.func85 (by kernel_rfl) (by kernel_rfl) (by kernel_rfl) a0t
theorem BB:ZE Tryz.prog 21 (fun x:Lin×Lin×Unit=>Zz x.1) (fun x:Lin×Lin×Unit=>UC x.1 x.2.1==0):=ZE.of (T:=FM) (ic:=Px) (rs:=Pw) (Zb (YK Tryz.func85 (by kernel_rfl) Gh) Zp) Yg Tryz.func21 (by kernel_rfl) (by kernel_rfl) (by kernel_rfl) a2w
end Go.Proofs.YtjfgiaooglnomaaGreatDoor

namespace Go.Proofs.YtjfgiaooglnomaaGreatDoor
open Go.Shelf
def Tryz.lays102_ren:Go.Shelf.Ren:=⟨fun|102=>77|209=>147|207=>215|n=>n,fun|9=>9|4=>4|3=>3|n=>n,fun|n=>n⟩
theorem Tryz.lays102:Go.Proofs.Lays.n102 Tryz.prog Tryz.lays102_ren:={
 mixed:=by kernel_rfl
 f102:=Tryz.func77.trans (congrArg some (by kernel_rfl))
 f207:=Tryz.func215.trans (congrArg some (by kernel_rfl))
 f209:=Tryz.func147.trans (congrArg some (by kernel_rfl))
 t3:=Tryz.underlying3
 a3:=Tryz.isAgg3
 z3:=Tryz.sizeOf3
 v3:=Tryz.zeroValue3
 t4:=Tryz.underlying4
 a4:=Tryz.isAgg4
 z4:=Tryz.sizeOf4
 v4:=Tryz.zeroValue4
 t9:=Tryz.underlying9
 a9:=Tryz.isAgg9
 z9:=Tryz.sizeOf9
 v9:=Tryz.zeroValue9}
def Tryz.lays161_ren:Go.Shelf.Ren:=⟨fun|161=>151|231=>217|227=>218|233=>219|235=>220|228=>264|197=>265|151=>266|260=>291|152=>292|137=>303|119=>304|224=>305|225=>306|217=>310|266=>311|n=>n,fun|9=>9|4=>4|3=>3|5=>5|117=>240|116=>239|0=>0|124=>243|105=>277|21=>21|119=>315|46=>171|139=>318|138=>317|n=>n,fun|3=>4|4=>5|n=>n⟩
theorem Tryz.lays161:Go.Proofs.Lays.n161 Tryz.prog Tryz.lays161_ren:={
 mixed:=by kernel_rfl
 f119:=Tryz.func304.trans (congrArg some (by kernel_rfl))
 f137:=Tryz.func303.trans (congrArg some (by kernel_rfl))
 f151:=Tryz.func266.trans (congrArg some (by kernel_rfl))
 f152:=Tryz.func292.trans (congrArg some (by kernel_rfl))
 f161:=Tryz.func151.trans (congrArg some (by kernel_rfl))
 f197:=Tryz.func265.trans (congrArg some (by kernel_rfl))
 f217:=Tryz.func310.trans (congrArg some (by kernel_rfl))
 f224:=Tryz.func305.trans (congrArg some (by kernel_rfl))
 f225:=Tryz.func306.trans (congrArg some (by kernel_rfl))
 f227:=Tryz.func218.trans (congrArg some (by kernel_rfl))
 f228:=Tryz.func264.trans (congrArg some (by kernel_rfl))
 f231:=Tryz.func217.trans (congrArg some (by kernel_rfl))
 f233:=Tryz.func219.trans (congrArg some (by kernel_rfl))
 f235:=Tryz.func220.trans (congrArg some (by kernel_rfl))
 f260:=Tryz.func291.trans (congrArg some (by kernel_rfl))
 f266:=Tryz.func311.trans (congrArg some (by kernel_rfl))
 t0:=Tryz.underlying0
 a0:=Tryz.isAgg0
 z0:=Tryz.sizeOf0
 v0:=Tryz.zeroValue0
 t3:=Tryz.underlying3
 a3:=Tryz.isAgg3
 z3:=Tryz.sizeOf3
 v3:=Tryz.zeroValue3
 t4:=Tryz.underlying4
 a4:=Tryz.isAgg4
 z4:=Tryz.sizeOf4
 v4:=Tryz.zeroValue4
 t5:=Tryz.underlying5
 a5:=Tryz.isAgg5
 z5:=Tryz.sizeOf5
 v5:=Tryz.zeroValue5
 t9:=Tryz.underlying9
 a9:=Tryz.isAgg9
 z9:=Tryz.sizeOf9
 v9:=Tryz.zeroValue9
 t21:=Tryz.underlying21
 a21:=Tryz.isAgg21
 z21:=Tryz.sizeOf21
 v21:=Tryz.zeroValue21
 t46:=Tryz.underlying171
 a46:=Tryz.isAgg171
 z46:=Tryz.sizeOf171
 v46:=Tryz.zeroValue171
 t105:=Tryz.underlying277
 a105:=Tryz.isAgg277
 z105:=Tryz.sizeOf277
 v105:=Tryz.zeroValue277
 t116:=Tryz.underlying239
 a116:=Tryz.isAgg239
 z116:=Tryz.sizeOf239
 t117:=Tryz.underlying240
 a117:=Tryz.isAgg240
 z117:=Tryz.sizeOf240
 v117:=Tryz.zeroValue240
 t119:=Tryz.underlying315
 a119:=Tryz.isAgg315
 z119:=Tryz.sizeOf315
 t124:=Tryz.underlying243
 a124:=Tryz.isAgg243
 z124:=Tryz.sizeOf243
 v124:=Tryz.zeroValue243
 t138:=Tryz.underlying317
 a138:=Tryz.isAgg317
 z138:=Tryz.sizeOf317
 v138:=Tryz.zeroValue317
 t139:=Tryz.underlying318
 a139:=Tryz.isAgg318
 z139:=Tryz.sizeOf318
 v139:=Tryz.zeroValue318
 g3:=by kernel_rfl
 g4:=by kernel_rfl}
def Tryz.lays106_ren:Go.Shelf.Ren:=⟨fun|106=>212|213=>259|265=>286|n=>n,fun|9=>9|3=>3|n=>n,fun|n=>n⟩
theorem Tryz.lays106:Go.Proofs.Lays.n106 Tryz.prog Tryz.lays106_ren:={
 mixed:=by kernel_rfl
 f106:=Tryz.func212.trans (congrArg some (by kernel_rfl))
 f213:=Tryz.func259.trans (congrArg some (by kernel_rfl))
 f265:=Tryz.func286.trans (congrArg some (by kernel_rfl))
 t3:=Tryz.underlying3
 a3:=Tryz.isAgg3
 z3:=Tryz.sizeOf3
 v3:=Tryz.zeroValue3
 t9:=Tryz.underlying9
 a9:=Tryz.isAgg9
 z9:=Tryz.sizeOf9
 v9:=Tryz.zeroValue9}
end Go.Proofs.YtjfgiaooglnomaaGreatDoor

namespace Go.Proofs.YtjfgiaooglnomaaGreatDoor
open Go.Pl Go.RowKit
open Enc (enc dec is)
open EncL (encL decL isL)
set_option maxRecDepth 100000
theorem Sn(s:List UInt8):Lib.trimLeftB s 32=Za s:=rfl
theorem KI:ZE Tryz.prog 151 (fun x:Str×Str×Unit=>decide (x.2.1=⟨[32]⟩)) (fun x:Str×Str×Unit=>(⟨Za x.1.s⟩:Str)):=Xe (by
  rintro⟨⟨s⟩,⟨p⟩,⟨⟩⟩ hps Φ w vs hL hΦ hv
  obtain⟨u,v,rfl,h1,h2⟩:=a4h hv
  have hp:p=[32]:=by
   have:(⟨p⟩:Str)=⟨[32]⟩:=of_decide_eq_true hps
   cases this;rfl
  subst hp
  rw[UX h1,UX h2]
  refine(Any.strings_TrimLeft_one Tryz.lays161 ⟨s.toArray⟩ 32 (by decide) w).mono ?_
  rintro e w' ⟨rfl,rfl⟩
  rw[show(⟨s.toArray⟩:ByteArray).data.toList=s from rfl,Sn]
  exact⟨_,rfl,.str _,.refl _ _⟩)
theorem Gw:ZE Tryz.prog 77 (fun x:Str×Str×Unit=>decide (x.1.s.length<=1000000)) (fun x:Str×Str×Unit=>(⟨Lib.trimSuffix x.1.s x.2.1.s⟩:Str)):=Xe (by
  rintro⟨⟨s⟩,⟨p⟩,⟨⟩⟩ hps Φ w vs hL hΦ hv
  have hs:s.length<=1000000:=by simpa using hps
  obtain⟨u,v,rfl,h1,h2⟩:=a4h hv
  rw[UX h1,UX h2]
  have hsz:(⟨s.toArray⟩:ByteArray).size=s.length:=rfl
  refine(Any.strings_TrimSuffix Tryz.lays102 ⟨s.toArray⟩ ⟨p.toArray⟩ w (by rw[hsz];omega)).mono ?_
  rintro e w' ⟨rfl,rfl⟩
  exact⟨_,rfl,.str _,.refl _ _⟩)
theorem SH:ZE Tryz.prog 212 (fun _:Str×Str×Unit=>true) (fun x:Str×Str×Unit=>Lib.compareBytes x.1.s x.2.1.s):=Xe (by
  rintro⟨⟨s⟩,⟨p⟩,⟨⟩⟩ hps Φ w vs hL hΦ hv
  obtain⟨u,v,rfl,h1,h2⟩:=a4h hv
  rw[UX h1,UX h2]
  refine(Any.strings_Compare Tryz.lays106 ⟨s.toArray⟩ ⟨p.toArray⟩ w).mono ?_
  rintro e w' ⟨rfl,rfl⟩
  exact⟨_,rfl,.int _ _,.refl _ _⟩)
end Go.Proofs.YtjfgiaooglnomaaGreatDoor

namespace Go.Proofs.YtjfgiaooglnomaaGreatDoor
open Go.Pl
open Enc (enc dec is)
open EncL (encL decL isL)
set_option maxRecDepth 100000
theorem U0:ZE Tryz.prog 148 (fun _:UInt8×Unit=>true) (fun x:UInt8×Unit=>Zj x.1):=ZE.of (T:=Pb) (ic:=Bt) (rs:=Ae) Zp Yg Tryz.func148 (by kernel_rfl) (by kernel_rfl) (by kernel_rfl) a0l
theorem QT:ZE Tryz.prog 153 (fun _:UInt8×Unit=>true) (fun x:UInt8×Unit=>Zv x.1):=ZE.of (T:=Dn) (ic:=Jo) (rs:=Jl) (Zb (YK Tryz.func148 (by kernel_rfl) U0) Zp) Yg Tryz.func153 (by kernel_rfl) (by kernel_rfl) (by kernel_rfl) R9
theorem Cm:ZY Tryz.prog 80 ZO UT:=Ve (T:=Dq) (ic:=K6) (rs:=Jq) (Zb (YK Tryz.func151 (by kernel_rfl) KI) Zp) Yg Tryz.func80 (by kernel_rfl) (by kernel_rfl) (by kernel_rfl) Pe
theorem FR:ZY Tryz.prog 216 (Xb 148) (C8 Zj):=Ve (T:=UW) (ic:=WR) (rs:=Vt) (Zb (YK Tryz.func148 (by kernel_rfl) U0) Zp) Yg Tryz.func216 (by kernel_rfl) (by kernel_rfl) (by kernel_rfl) M5
theorem a0z:ZY Tryz.prog 216 (Xb 153) (C8 Zv):=Ve (T:=UO) (ic:=VB) (rs:=VJ) (Zb (YK Tryz.func153 (by kernel_rfl) QT) Zp) Yg Tryz.func216 (by kernel_rfl) (by kernel_rfl) (by kernel_rfl) LF
theorem Lt:ZY Tryz.prog 150 ZO Uy:=Ve (T:=Gn) (ic:=Jj) (rs:=Jy) (Zb (YK Tryz.func216 (by kernel_rfl) FR) (Zb (YK Tryz.func182 (by kernel_rfl) SV) Zp)) Yg Tryz.func150 (by kernel_rfl) (by kernel_rfl) (by kernel_rfl) RH
theorem SS:ZY Tryz.prog 149 ZO UU:=Ve (T:=QX) (ic:=U8) (rs:=U5) (Zb (YK Tryz.func216 (by kernel_rfl) a0z) (Zb (YK Tryz.func119 (by kernel_rfl) JO) Zp)) Yg Tryz.func149 (by kernel_rfl) (by kernel_rfl) (by kernel_rfl) Bu
theorem a3d:ZY Tryz.prog 81 ZO KD:=Ve (T:=Uz) (ic:=Vl) (rs:=Vk) (Zb (YK Tryz.func152 (by kernel_rfl) VW) Zp) Yg Tryz.func81 (by kernel_rfl) (by kernel_rfl) (by kernel_rfl) Ea
theorem a3y:ZY Tryz.prog 79 QD KQ:=Ve (T:=Dc) (ic:=Hd) (rs:=KP) (Zb (YK Tryz.func148 (by kernel_rfl) U0) (Zb (YK Tryz.func149 (by kernel_rfl) SS) (Zb (YK Tryz.func150 (by kernel_rfl) Lt) (Zb (YK Tryz.func151 (by kernel_rfl) KI) (Zb (YK Tryz.func152 (by kernel_rfl) VW) (Zb (YK Tryz.func80 (by kernel_rfl) Cm) (Zb (YK Tryz.func153 (by kernel_rfl) QT) Zp))))))) Yg Tryz.func79 (by kernel_rfl) (by kernel_rfl) (by kernel_rfl) OE
theorem GG:Yt Tryz.prog YM:=(Zb (YK Tryz.func154 (by kernel_rfl) AP) (Zb (YK Tryz.func73 (by kernel_rfl) Xt) Zp))
theorem EH(args:List AV)(os:List AObj)(h:YN args os=true)(c:Ctx)(hk : ∀ i m,os.length<=i->c.μ0 i m=none):O9 (UB GG Yg) (fun n cd=>JG Tryz.prog MF Tryz.f82 n=some cd) K4 c:=by
 rintro n cd hcd st a w q hr ⟨rfl,hE⟩
 have h2:os.length=2:=by
  unfold YN at h
  split at h
  ·rfl
  ·cases h
 rw[h2]at hk
 exact NY GG Yg (Ch hcd) hk hr hE
theorem a3w:ZY Tryz.prog 82 YN Ub:=a6k (T:=YM) (ic:=YJ) (rs:=YL) (E:=K4) (sel:=MF) GG Yg Tryz.func82 (by kernel_rfl) (by kernel_rfl) (by kernel_rfl) EH a0n a0j
theorem a4f:ZY Tryz.prog 82 YN Kw:=OJ a3w
theorem JM:ZE Tryz.prog 19 (fun x:Str×Unit=>decide (x.1.s.length<=400000)) (fun x:Str×Unit=>Zn x.1.s):=ZE.of (T:=UZ) (ic:=VC) (rs:=VE) (Zb (YK Tryz.func80 (by kernel_rfl) Cm) (Zb (YK Tryz.func81 (by kernel_rfl) a3d) (Zb (YK Tryz.func79 (by kernel_rfl) a3y) (Zb (YK Tryz.func82 (by kernel_rfl) a4f) Zp)))) Yg Tryz.func19 (by kernel_rfl) (by kernel_rfl) (by kernel_rfl) MP
theorem Cj:ZE Tryz.prog 213 (fun _:Int×Int×Unit=>true) (fun x:Int×Int×Unit=>Qm x.1 x.2.1):=ZE.of (T:=KZ) (ic:=Jw) (rs:=QC) Zp Yg Tryz.func213 (by kernel_rfl) (by kernel_rfl) (by kernel_rfl) Rx
theorem Ot:ZE Tryz.prog 211 (fun _:Coef×Coef×Unit=>true) (fun x:Coef×Coef×Unit=>DZ x.1 x.2.1):=ZE.of (T:=HY) (ic:=Du) (rs:=KR) (Zb (YK Tryz.func212 (by kernel_rfl) SH) (Zb (YK Tryz.func213 (by kernel_rfl) Cj) Zp)) Yg Tryz.func211 (by kernel_rfl) (by kernel_rfl) (by kernel_rfl) LH
theorem Ey:ZE Tryz.prog 210 (fun x:List Coef×List Coef×FnV 211×Unit=>decide (x.1.length<=9223372036854775807)&&decide (x.2.1.length<=9223372036854775807)) (fun x:List Coef×List Coef×FnV 211×Unit=>WS x.1 x.2.1):=ZE.of (T:=UQ) (ic:=VI) (rs:=Vq) (Zb (YK Tryz.func211 (by kernel_rfl) Ot) Zp) Yg Tryz.func210 (by kernel_rfl) (by kernel_rfl) (by kernel_rfl) L6
theorem D5:ZE Tryz.prog 145 (fun x:Lin×Lin×Unit=>Zz x.1&&Zz x.2.1) (fun x:Lin×Lin×Unit=>VA x.1 x.2.1):=ZE.of (T:=AA) (ic:=Ah) (rs:=He) (Zb (YK Tryz.func210 (by kernel_rfl) Ey) (Zb (YK Tryz.func213 (by kernel_rfl) Cj) Zp)) Yg Tryz.func145 (by kernel_rfl) (by kernel_rfl) (by kernel_rfl) EF
theorem TJ:ZE Tryz.prog 74 (fun x:Lin×Lin×Unit=>Zz x.1&&Zz x.2.1) (fun x:Lin×Lin×Unit=>VA x.1 x.2.1==0):=ZE.of (T:=a1w) (ic:=Ry) (rs:=R8) (Zb (YK Tryz.func145 (by kernel_rfl) D5) Zp) Yg Tryz.func74 (by kernel_rfl) (by kernel_rfl) (by kernel_rfl) a4u
theorem a3k:ZY Tryz.prog 75 Xm KH:=Ve (T:=Pj) (ic:=Bz) (rs:=BO) (Zb (YK Tryz.func76 (by kernel_rfl) TP) (Zb (YK Tryz.func77 (by kernel_rfl) Gw) Zp)) Yg Tryz.func75 (by kernel_rfl) (by kernel_rfl) (by kernel_rfl) Od
theorem JI:ZE Tryz.prog 17 (fun x:Lin×Unit=>Zu x.1) (fun x:Lin×Unit=>(⟨Zx x.1⟩:Str)):=ZE.of (T:=WU) (ic:=WE) (rs:=XZ) (Zb (YK Tryz.func73 (by kernel_rfl) Xt) (Zb (YK Tryz.func75 (by kernel_rfl) a3k) Zp)) Yg Tryz.func17 (by kernel_rfl) (by kernel_rfl) (by kernel_rfl) Pv
theorem b0e:ZY Tryz.prog 113 Gg Aq:=Ve (T:=PG) (ic:=BK) (rs:=AB) Zp Yg Tryz.func113 (by kernel_rfl) (by kernel_rfl) (by kernel_rfl) a0v
theorem a8x:ZY Tryz.prog 112 (QH 113) Hz:=Ve (T:=GX) (ic:=Kg) (rs:=Kb) (Zb (YK Tryz.func113 (by kernel_rfl) b0e) Zp) Yg Tryz.func112 (by kernel_rfl) (by kernel_rfl) (by kernel_rfl) a2j
theorem Sv:ZE Tryz.prog 42 (fun x:Lin×List Bnd×Unit=>Zu x.1&&Jm x.2.1) (fun x:Lin×List Bnd×Unit=>UY x.1 x.2.1):=ZE.of (T:=Vm) (ic:=WW) (rs:=X7) (Zb (YK Tryz.func73 (by kernel_rfl) Xt) (Zb (YK Tryz.func112 (by kernel_rfl) a8x) (Zb (YK Tryz.func114 (by kernel_rfl) Ex) (Zb (YK Tryz.func82 (by kernel_rfl) Et) Zp)))) Yg Tryz.func42 (by kernel_rfl) (by kernel_rfl) (by kernel_rfl) MW
theorem PE:ZE Tryz.prog 15 (fun _:Unit=>true) (fun _:Unit=>true):=ZE.of (T:=GD) (ic:=Jc) (rs:=JC) (Zb (YK Tryz.func19 (by kernel_rfl) JM) (Zb (YK Tryz.func39 (by kernel_rfl) L9) (Zb (YK Tryz.func42 (by kernel_rfl) Sv) (Zb (YK Tryz.func17 (by kernel_rfl) JI) (Zb (YK Tryz.func73 (by kernel_rfl) Xt) (Zb (YK Tryz.func74 (by kernel_rfl) TJ) Zp)))))) Yg Tryz.func15 (by kernel_rfl) (by kernel_rfl) (by kernel_rfl) R6
theorem Gi:ZE Tryz.prog 90 (fun x:Lin×Unit=>Zz x.1) (fun x:Lin×Unit=>VK x.1):=ZE.of (T:=UJ) (ic:=U6) (rs:=VL) (Zb (YK Tryz.func20 (by kernel_rfl) Uv) Zp) Yg Tryz.func90 (by kernel_rfl) (by kernel_rfl) (by kernel_rfl) BC
end Go.Proofs.YtjfgiaooglnomaaGreatDoor

namespace Go.Proofs.YtjfgiaooglnomaaGreatDoor
open Go.Pl
open Enc (enc dec is)
open EncL (encL decL isL)
set_option maxRecDepth 100000
theorem AU:ZE Tryz.prog 78 (fun x:Int×Unit=>decide (-1000000000<=x.1)&&decide (x.1<=1000000000)) (fun x:Int×Unit=>ZC x.1):=ZE.rec (fun a=>Na a.1) fun N hN=>ZE.of (T:=Bg N) (ic:=Dx) (rs:=GR) (Zb (YK Tryz.func78 (by kernel_rfl) hN) Zp) Yg Tryz.func78 (by kernel_rfl) (by kernel_rfl) (by kernel_rfl) (Fp N)
theorem Dp:ZY Tryz.prog 86 Yc VN:=Ve (T:=WB) (ic:=XO) (rs:=XU) Zp Yg Tryz.func86 (by kernel_rfl) (by kernel_rfl) (by kernel_rfl) SE
theorem O6:ZY Tryz.prog 87 YA J7:=Ve (T:=a1v) (ic:=Pm) (rs:=Rs) Zp Yg Tryz.func87 (by kernel_rfl) (by kernel_rfl) (by kernel_rfl) a5q
theorem a4y:ZY Tryz.prog 157 YI KU:=Ve (T:=VY) (ic:=WH) (rs:=WJ) (Zb (YK Tryz.func155 (by kernel_rfl) UF) (Zb (YK Tryz.func156 (by kernel_rfl) V7) Zp)) Yg Tryz.func157 (by kernel_rfl) (by kernel_rfl) (by kernel_rfl) Ei
theorem F4:ZY Tryz.prog 88 Yc Qz:=Ve (T:=Vg) (ic:=Wd) (rs:=Wq) (Zb (YK Tryz.func157 (by kernel_rfl) a4y) (Zb (YK Tryz.func84 (by kernel_rfl) JS) (Zb (YK Tryz.func156 (by kernel_rfl) V7) (Zb (YK Tryz.func155 (by kernel_rfl) UF) (Zb (YK Tryz.func86 (by kernel_rfl) Dp) (Zb (YK Tryz.func87 (by kernel_rfl) O6) Zp)))))) Yg Tryz.func88 (by kernel_rfl) (by kernel_rfl) (by kernel_rfl) Lx
theorem Ar:ZE Tryz.prog 22 (fun x:Str×Unit=>decide (x.1.s.length<=400000)) (fun x:Str×Unit=>Zn x.1.s):=ZE.of (T:=Yq) (ic:=Yb) (rs:=Ya) (Zb (YK Tryz.func86 (by kernel_rfl) Dp) (Zb (YK Tryz.func87 (by kernel_rfl) O6) (Zb (YK Tryz.func88 (by kernel_rfl) F4) (Zb (YK Tryz.func89 (by kernel_rfl) Tw) (Zb (YK Tryz.func90 (by kernel_rfl) Gi) Zp))))) Yg Tryz.func22 (by kernel_rfl) (by kernel_rfl) (by kernel_rfl) PT
theorem BL:ZE Tryz.prog 18 (fun x:Lin×Unit=>Zu x.1) (fun x:Lin×Unit=>(⟨Zx x.1⟩:Str)):=ZE.of (T:=YW) (ic:=Yn) (rs:=Yo) (Zb (YK Tryz.func20 (by kernel_rfl) Uv) (Zb (YK Tryz.func78 (by kernel_rfl) AU) Zp)) Yg Tryz.func18 (by kernel_rfl) (by kernel_rfl) (by kernel_rfl) RN
theorem EB:ZE Tryz.prog 3 (fun x:Lin×Str×Unit=>Zz x.1) (fun _:Lin×Str×Unit=>true):=ZE.of (T:=Hu) (ic:=KJ) (rs:=KF) (Zb (YK Tryz.func15 (by kernel_rfl) PE) (Zb (YK Tryz.func16 (by kernel_rfl) PP) (Zb (YK Tryz.func17 (by kernel_rfl) JI) (Zb (YK Tryz.func18 (by kernel_rfl) BL) (Zb (YK Tryz.func19 (by kernel_rfl) JM) (Zb (YK Tryz.func20 (by kernel_rfl) Uv) (Zb (YK Tryz.func21 (by kernel_rfl) BB) (Zb (YK Tryz.func22 (by kernel_rfl) Ar) Zp)))))))) Yg Tryz.func3 (by kernel_rfl) (by kernel_rfl) (by kernel_rfl) Fb
end Go.Proofs.YtjfgiaooglnomaaGreatDoor

namespace Go.Proofs.YtjfgiaooglnomaaGreatDoor
open Go.Pl
open Enc (enc dec is)
open EncL (encL decL isL)
set_option maxRecDepth 100000
theorem Nv:Tryz.prog.underlying 3=some (.int .i64):=by kernel_rfl
theorem Ml:Tryz.prog.underlying 9=some .string:=by kernel_rfl
theorem a1j:Tryz.prog.underlying 22=some (.slice 61):=by kernel_rfl
theorem Nk:Tryz.prog.cellsOf 3=1:=by kernel_rfl
theorem a2s:Tryz.prog.cellsOf 9=1:=by kernel_rfl
theorem a1h:Tryz.prog.cellsOf 22=1:=by kernel_rfl
theorem SQ:Tryz.prog.cellsOf 61=2:=by kernel_rfl
theorem Tf:Tryz.prog.cellsOf 24=2:=by kernel_rfl
theorem a7v:YV Tryz.prog 61=true:=by kernel_rfl
theorem a7m:YV Tryz.prog 24=true:=by kernel_rfl
theorem FK:H5 Tryz.prog 61=some [(0,9),(1,3)]:=by kernel_rfl
theorem TW:H5 Tryz.prog 24=some [(0,3),(1,22)]:=by kernel_rfl
theorem Nh{α:Type}[Enc α]{P:α->Prop}{f:List PV->PV}: ∀ {qs:List (List PV)},(∀ q∈qs,∃ a:α,f q=enc a∧P a)-> ∃ l:List α,qs.map f=l.map enc∧ ∀ a∈l,P a
 | [],_=>⟨[],rfl,fun a h=>by cases h⟩
 | q::qs,h=>by
  obtain⟨a,h1,h2⟩:=h q (by simp)
  obtain⟨l,h3,h4⟩:=Nh (qs:=qs) fun r hr=>h r (by simp[hr])
  refine⟨a::l,by rw[List.map_cons,List.map_cons,h1,h3],fun b hb=> ?_⟩
  rcases List.mem_cons.1 hb with rfl|hb
  ·exact h2
  ·exact h4 b hb
theorem O7{α:Type}[Enc α]{f:List PV->PV}{qs:List (List PV)}{l:List α}(h:qs.map f=l.map enc):l.length=qs.length:=by
 have:=congrArg List.length h
 simpa using this.symm
theorem a2n{n:Nat}{q:List PV}(h:XJ Tryz.prog n 61 q): ∃ t:Coef,J4 Tryz.prog 61 q=enc t∧True:=by
 obtain⟨m,_,hl,h0,h1,_⟩:=Qk FK SQ h
 match q,hl with
 | [a,b],_=>
  rw[a2s]at h0
  rw[Nk]at h1
  obtain⟨o,e0,w0⟩:=A8 Ml h0
  obtain⟨k,e1,w1⟩:=SI Nv h1
  simp at e0 e1
  subst e0 e1
  exact⟨⟨⟨o⟩,k⟩,by rw[J4,a7v];rfl,trivial⟩
theorem a5h{n:Nat}{q:List PV}(h:XJ Tryz.prog n 22 q): ∃ l:List Coef,q=[enc l]∧l.length<=9223372036854775807:=by
 obtain⟨m,_,qs,rfl,hl,hq⟩:=RG a1j SQ h
 obtain⟨l,e,_⟩:=Nh (α:=Coef) (P:=fun _=>True) (f:=J4 Tryz.prog 61) fun x hx=>a2n (hq x hx).2
 have hl:qs.length<=9223372036854775807:=hl
 exact⟨l,by rw[e];rfl,by rw[O7 e];exact hl⟩
theorem a2i{n:Nat}{a b:PV}(h:XJ Tryz.prog n 24 [a,b]): ∃ l:Lin,a=enc l.k∧b=enc l.t∧Zz l=true:=by
 obtain⟨m,_,hl,h0,h1,_⟩:=Qk TW Tf h
 rw[Nk]at h0
 rw[a1h]at h1
 obtain⟨o,e0,w0⟩:=SI Nv h0
 obtain⟨t,e1,l1⟩:=a5h h1
 simp at e0 e1
 subst e0 e1
 exact⟨⟨o,t⟩,rfl,rfl,by simp only[Zz];exact decide_eq_true l1⟩
theorem FN{n:Nat}{q:List PV}(h:XJ Tryz.prog n 24 q): ∃ l:Lin,J4 Tryz.prog 24 q=enc l∧Zz l=true:=by
 obtain⟨m,_,hl,_⟩:=Qk TW Tf h
 match q,hl with
 | [a,b],_=>
  obtain⟨l,rfl,rfl,h2⟩:=a2i h
  exact⟨l,by rw[J4,a7m];rfl,h2⟩
end Go.Proofs.YtjfgiaooglnomaaGreatDoor

namespace Go.Proofs.YtjfgiaooglnomaaGreatDoor
open Go.Pl
open Enc (enc dec is)
open EncL (encL decL isL)
set_option maxRecDepth 100000
theorem F8:YV Tryz.prog 9=false:=by kernel_rfl
theorem Rq{n0 n1:Nat}{q0 q1:List PV}(h0:XJ Tryz.prog n0 24 q0)(h1:XJ Tryz.prog n1 9 q1):
  preT (fun x:Lin×Str×Unit=>Zz x.1) [J4 Tryz.prog 24 q0,J4 Tryz.prog 9 q1]=true:=by
 obtain⟨a,e0,a1⟩:=FN h0
 obtain⟨s,rfl,_⟩:=A8 Ml h1
 have e1:J4 Tryz.prog 9 [.str s]=enc (⟨s⟩:Str):=by rw[J4,F8];rfl
 rw[e0,e1]
 exact Zo (a,⟨s⟩,()) rfl a1
end Go.Proofs.YtjfgiaooglnomaaGreatDoor

