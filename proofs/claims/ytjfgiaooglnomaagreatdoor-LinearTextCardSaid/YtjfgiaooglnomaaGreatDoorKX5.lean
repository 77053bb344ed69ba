/-
  Texts of mine that belong together (packed by pack.py), for every input: Post, PlGl, LaidY, LaidZ, Sh, ShB, OkCe, OkN, OkR, ShC, ShD, Ok4, OkT, OpY, OpT.
-/
import Derived.Test.YtjfgiaooglnomaaGreatDoorChecked
import Derived.Test.YtjfgiaooglnomaaGreatDoorRows
import Derived.Test.YtjfgiaooglnomaaGreatDoorKX2
import Derived.Test.YtjfgiaooglnomaaGreatDoorKX3
import Derived.Test.YtjfgiaooglnomaaGreatDoorKX4
import Derived.Below
import Derived.ChangeSame
import Derived.ChangeShapes
import Derived.ChangeSlices
import Derived.WideShapes
import Derived.RowKit
import Derived.Stop.LaidErr
import Derived.Lib.LaidTab
import Derived.Shelf.Strconv.AtoiAll
import Derived.Shelf.Strconv.Itoa3
import Derived.Shelf.Strings.Prefix
import Derived.Shelf.Sort.Plain
import Derived.Shelf.Small.Strs
import Derived.Shelf.Slices.In.SortNone
import Derived.KernelRfl
import Derived.Shelf.Strings.Trim
set_option linter.unusedVariables false
set_option linter.unusedSimpArgs false
namespace Go.Proofs.YtjfgiaooglnomaaGreatDoor
open Go.RowKit Go.WideShapes Go.ChangeShapes
section
variable {H:Type} {enc:TypeId×Value->H} {P:Program}
theorem DW{f:Func}{s:ChangeSpec}{apart fresh handsOn again:Bool}{W W':World}{args:Array Value}{v:Value}{ds gs:List (DataW H)}{before pa pv:List MemPlace}
  (hW:DataW.Whole enc P f.params.toList s.vars apart W args.toList ds gs before)
  (hres : ∀ (b:Nat) (sp:Nat->Bool) (hd:Bool),DataW.TrodAll enc P W' b sp hd f.resultTypes.toList (v.resultList f.resultTypes.size) (s.fn H (ds++gs)).results [])
  (hargs : ∀ sp:Nat->Bool,(∀ p∈before,sp p.block=true)->DataW.TrodAll enc P W' 0 sp true f.params.toList args.toList (s.fn H (ds++gs)).args pa)
  (hvars : ∀ sp:Nat->Bool,(∀ p∈before,sp p.block=true)->DataW.TrodVars enc P W' sp s.vars (s.fn H (ds++gs)).vars pv)
  (hps:before=pa++pv) (hb:Below W.heap.size W W')
  (hok : ∀ (j:Nat) (t:TypeId) (r:Value),f.resultTypes[j]? = some t->(v.resultList f.resultTypes.size)[j]? = some r->Value.okWide P W' .any 0 t r) :
  s.post enc P f apart fresh handsOn again W args v W':=by
 have hlt : ∀ p∈before,p.block<W.heap.size:=fun p hp=>hW.lt p hp
 have hold : ∀ p∈before,(fun b=>decide (b<W.heap.size)) p.block=true:=fun p hp=>by simpa using hlt p hp
 refine⟨ds,gs,before,[],pa,pv,hW,hres _ _ _,hargs _ hold,hvars _ hold,World.keptBut_mono (fun p hp=>⟨hp,?_⟩) (hb.frame (· ∈ before)),fun _=> ?_⟩
 ·rw[hps,List.mem_append]at hp
  exact Or.inr hp
 ·obtain⟨_,_,_,_,_,hz,hn⟩:=hW
  refine⟨hok,_,_,([]++pa)++pv,⟨[]++pa,pv,trodAll_append (hargs _ (fun _ _=>rfl)) (hres _ _ _),hvars _ (fun _ _=>rfl),rfl,?_,?_⟩,?_⟩
  ·intro b off hp
   have hin:MemPlace.cell b off∈before:=by rw[hps];simpa using hp
   rw[hb.frozen (hlt _ hin)]
   exact hz b off hin
  ·intro ha
   have:=hn ha
   rw[hps]at this
   simpa using this
  ·intro p hp _
   rw[hps]
   simpa using hp
end
end Go.Proofs.YtjfgiaooglnomaaGreatDoor

namespace Go.Pl
open Go.RowKit Go.WideShapes Go.ChangeShapes
def DJ(w:World):Z0:=fun b=>match w.heap[b]? with|some (.cells cs _ _)=>some cs|_=>none
theorem a8s(w:World):XT (DJ w) w:=fun b cs h=>by
 unfold DJ at h
 split at h
 ·rename_i c T fz hb
  cases h
  exact⟨T,fz,hb⟩
 ·cases h
def JV(P:Program)(e:TypeId)(ps:List PV):PV:=match YT P e with|true=>.agg ps|false=>ps.headD .nilp
def XD(P:Program):Nat->TypeId->List PV->Prop
 | 0,_,_=>False
 | n+1,t,ps=>match P.underlying t with
  | some .bool=> ∃ b,ps=[.bool b]
  | some (.int k)=> ∃ m,ps=[.int k m]∧(Lit.int k m).wf=true
  | some .string=> ∃ s:List UInt8,ps=[.str s]∧s.length<=maxLen
  | some (.slice e)=> ∃ qs:List (List PV),ps=[.sl (P.cellsOf e) false (qs.map (JV P e))]∧qs.length<=maxLen∧ ∀ q∈qs,q.length=P.cellsOf e∧XD P n e q
  | some (.struct fs)=>ps.length=P.cellsOf t∧ ∀ f∈fs.toList,XD P n f.type ((ps.drop f.offset).take (P.cellsOf f.type))
  | some (.array m e)=>ps.length=P.cellsOf t∧ ∀ i<m,XD P n e ((ps.drop (i*P.cellsOf e)).take (P.cellsOf e))
  | _=>False
def Uw(P:Program):Nat->List Field->Nat->Bool
 | o,[],n=>o==n
 | o,f::fs,n=>f.offset==o&&Uw P (o+P.cellsOf f.type) fs n
def Aq(P:Program)(S:List TypeId):Bool:=S.all fun t=>match P.underlying t with
 | some .bool|some (.int _)|some .string=>P.cellsOf t==1
 | some (.slice e)=>P.cellsOf t==1&&S.contains e&&decide (0<P.cellsOf e)&&(YT P e||P.cellsOf e==1)
 | some (.struct fs)=>Uw P 0 fs.toList (P.cellsOf t)&&fs.toList.all fun f=>S.contains f.type
 | some (.array m e)=>S.contains e&&m*P.cellsOf e==P.cellsOf t
 | _=>false
section
variable {H:Type} {enc:TypeId×Value->H} {P:Program} {w:World} {base:Nat} {sp:Nat->Bool} {held:Bool} {S:List TypeId}
theorem Ga{α β:Type}{f:α->Option β}: ∀ {l:List α} {r:List β},l.mapM f=some r->r.length=l.length∧ ∀ (j:Nat) x y,l[j]? = some x->r[j]? = some y->f x=some y:=by
 intro l
 induction l with
 | nil=>intro r h;simp at h;subst h;exact⟨rfl,fun j x y h=>by simp at h⟩
 | cons a l ih=>
  intro r h
  simp only[List.mapM_cons,Option.bind_eq_bind,Option.bind_eq_some_iff]at h
  obtain⟨b,hb,bs,hbs,h⟩:=h
  simp at h
  subst h
  obtain⟨h1,h2⟩:=ih hbs
  refine⟨by simp[h1],fun j x y hx hy=> ?_⟩
  cases j with
  | zero=>cases hx;cases hy;exact hb
  | succ j=>exact h2 j x y hx hy
def Cl(w:World)(cs:List Value)(ps:List PV):Prop:=X3 (DJ w) cs ps∧Yr cs
theorem Cl.one{v:Value}{p:PV}(h:RP (DJ w) v p)(h1:v.oneCell'=true):Cl w [v] [p]:=⟨⟨rfl,fun j x q hx hq=>match j with
 | 0=>by cases hx;cases hq;exact h
 | j+1=>by simp at hx⟩,fun v hv=>by simp at hv;subst hv;exact h1⟩
theorem Cl.append{cs ds:List Value}{ps qs:List PV}(h:Cl w cs ps)(k:Cl w ds qs):Cl w (cs++ds) (ps++qs):=by
 refine⟨⟨by simp[h.1.1,k.1.1],fun j v p hv hp=> ?_⟩,fun v hv=> ?_⟩
 ·by_cases hj:j<cs.length
  ·rw[List.getElem?_append_left hj]at hv
   rw[List.getElem?_append_left (by rw[<- h.1.1];exact hj)]at hp
   exact h.1.2 j v p hv hp
  ·rw[List.getElem?_append_right (by omega)]at hv
   rw[List.getElem?_append_right (by rw[<- h.1.1];omega),<- h.1.1]at hp
   exact k.1.2 _ v p hv hp
 ·rcases List.mem_append.1 hv with h'|h'
  ·exact h.2 v h'
  ·exact k.2 v h'
theorem Cl.nil:Cl w [] []:=⟨⟨rfl,fun j v p h=>by simp at h⟩,fun v h=>by simp at h⟩
theorem Cj(hS:Aq P S=true){t:TypeId}(ht:t∈S):(match P.underlying t with
 | some .bool|some (.int _)|some .string=>P.cellsOf t==1
 | some (.slice e)=>P.cellsOf t==1&&S.contains e&&decide (0<P.cellsOf e)&&(YT P e||P.cellsOf e==1)
 | some (.struct fs)=>Uw P 0 fs.toList (P.cellsOf t)&&fs.toList.all fun f=>S.contains f.type
 | some (.array m e)=>S.contains e&&m*P.cellsOf e==P.cellsOf t
 | _=>false)=true:=List.all_eq_true.1 hS t ht
theorem Ta{n:Nat}{cs:List Value}(ih : ∀ (t:TypeId) (cs:List Value) (x:DataW H×List MemPlace),t∈S->DataW.trod enc P w base sp held n t cs=some x-> ∃ ps,Cl w cs ps∧XD P n t ps):
  ∀ (fs:List Field) (o N:Nat) (xs:List (DataW H×List MemPlace)),Uw P o fs N=true->(∀ f∈fs,f.type∈S)->cs.length=N->o<=N ->
   fs.mapM (fun f=>DataW.trod enc P w base sp held n f.type ((cs.drop f.offset).take (P.cellsOf f.type)))=some xs ->
   ∃ ps,Cl w (cs.drop o) ps∧ ∀ qs:List PV,qs.length=o-> ∀ f∈fs,XD P n f.type (((qs++ps).drop f.offset).take (P.cellsOf f.type)):=by
 intro fs
 induction fs with
 | nil=>
  intro o N xs hc _ hl ho _
  simp[Uw]at hc
  refine⟨[],?_,fun qs _ f hf=>by simp at hf⟩
  rw[List.drop_of_length_le (by omega)]
  exact Cl.nil
 | cons f fs ihf=>
  intro o N xs hc hm hl ho h
  simp only[Uw,Bool.and_eq_true,beq_iff_eq]at hc
  obtain⟨hfo,hc⟩:=hc
  simp only[List.mapM_cons,Option.bind_eq_bind,Option.bind_eq_some_iff]at h
  obtain⟨x,hx,xs',hxs,_⟩:=h
  obtain⟨p1,k1,k2⟩:=ih _ _ x (hm f List.mem_cons_self) hx
  have hle:o+P.cellsOf f.type<=N:=by
   have : ∀ (fs:List Field) (a:Nat),Uw P a fs N=true->a<=N:=by
    intro fs
    induction fs with
    | nil=>intro a h;simp[Uw]at h;omega
    | cons g fs ih=>intro a h;simp only[Uw,Bool.and_eq_true]at h;have:=ih _ h.2;omega
   exact this _ _ hc
  obtain⟨p2,k3,k4⟩:=ihf (o+P.cellsOf f.type) N xs' hc (fun g hg=>hm g (List.mem_cons_of_mem _ hg)) hl hle hxs
  have hp1:p1.length=P.cellsOf f.type:=by
   rw[<- k1.1.1,List.length_take,List.length_drop,hfo]
   omega
  refine⟨p1++p2,?_,fun qs hq g hg=> ?_⟩
  ·have:=k1.append k3
   rw[hfo]at this
   have e:cs.drop o=(cs.drop o).take (P.cellsOf f.type)++cs.drop (o+P.cellsOf f.type):=by rw[<- List.drop_drop,List.take_append_drop]
   rw[e]
   exact this
  ·rcases List.mem_cons.1 hg with rfl|hg
   ·rw[hfo,<- hq,List.drop_left,<- hp1,List.take_left]
    exact k2
   ·have:=k4 (qs++p1) (by simp[hq,hp1]) g hg
    rwa [List.append_assoc]at this
theorem TV{n m sz:Nat}{e:TypeId}(he:P.cellsOf e=sz){cs:List Value}(ih : ∀ i,i<m-> ∃ ps,Cl w ((cs.drop (i*sz)).take sz) ps∧XD P n e ps)(hl:cs.length=m*sz):
  ∃ ps,Cl w cs ps∧ ∀ i<m,XD P n e ((ps.drop (i*sz)).take sz):=by
 induction m generalizing cs with
 | zero=>
  have:cs=[]:=List.length_eq_zero_iff.1 (by omega)
  subst this
  exact⟨[],Cl.nil,fun i h=>by omega⟩
 | succ m ihm=>
  obtain⟨p1,k1,k2⟩:=ih 0 (by omega)
  simp only[Nat.zero_mul,List.drop_zero]at k1
  have hl1:p1.length=sz:=by
   rw[<- k1.1.1,List.length_take,hl,Nat.succ_mul]
   omega
  obtain⟨p2,k3,k4⟩:=ihm (cs:=cs.drop sz) (fun i hi=>by
   have:=ih (i+1) (by omega)
   rwa [Nat.succ_mul,Nat.add_comm,<- List.drop_drop]at this) (by rw[List.length_drop,hl,Nat.succ_mul];omega)
  refine⟨p1++p2,by have:=k1.append k3;rwa [List.take_append_drop]at this,fun i hi=> ?_⟩
  cases i with
  | zero=>
   simp only[Nat.zero_mul,List.drop_zero]
   rw[<- hl1,List.take_left]
   exact k2
  | succ i=>
   have:=k4 i (by omega)
   have e2:(p1++p2).drop ((i+1)*sz)=p2.drop (i*sz):=by
    rw[Nat.succ_mul,Nat.add_comm,<- List.drop_drop]
    congr 1
    rw[<- hl1,List.drop_left]
   rwa [e2]
theorem MR{e:TypeId}{q:List PV}(h:YT P e=true∨P.cellsOf e=1)(hl:q.length=P.cellsOf e)(h1:YT P e=false-> ∀ p∈q,p.cells=[p]):(JV P e q).cells=q:=by
 unfold JV
 cases ha:YT P e with
 | true=>rfl
 | false=>
  rcases h with h|h
  ·rw[h]at ha;cases ha
  ·rw[h]at hl
   match q,hl with
   | [p],_=>exact h1 ha p (by simp)
theorem Eu{n:Nat}{e:TypeId}{q:List PV}(h:XD P n e q)(ha:YT P e=false): ∀ p∈q,p.cells=[p]:=by
 cases n with
 | zero=>exact h.elim
 | succ n=>
  unfold XD at h
  unfold YT at ha
  split at h
  ·obtain⟨b,rfl⟩:=h;intro p hp;simp at hp;subst hp;rfl
  ·obtain⟨m,rfl,_⟩:=h;intro p hp;simp at hp;subst hp;rfl
  ·obtain⟨s,rfl,_⟩:=h;intro p hp;simp at hp;subst hp;rfl
  ·obtain⟨s,rfl,_⟩:=h;intro p hp;simp at hp;subst hp;rfl
  ·rename_i hu;rw[hu]at ha;cases ha
  ·rename_i hu;rw[hu]at ha;cases ha
  ·exact h.elim
theorem SE{α:Type}{R:Nat->α->Prop}: ∀ (n:Nat),(∀ i,i<n-> ∃ q,R i q)-> ∃ qs:List α,qs.length=n∧ ∀ (i:Nat) q,qs[i]? = some q->R i q:=by
 intro n
 induction n with
 | zero=>intro _;exact⟨[],rfl,fun i q h=>by simp at h⟩
 | succ n ih=>
  intro h
  obtain⟨qs,h1,h2⟩:=ih fun i hi=>h i (by omega)
  obtain⟨q,hq⟩:=h n (by omega)
  refine⟨qs++[q],by simp[h1],fun i q' hi=> ?_⟩
  by_cases hlt:i<qs.length
  ·rw[List.getElem?_append_left hlt]at hi;exact h2 i q' hi
  ·rw[List.getElem?_append_right (by omega)]at hi
   have:i=n:=by
    have:=(List.getElem?_eq_some_iff.1 hi).1
    simp at this
    omega
   subst this
   rw[h1,Nat.sub_self]at hi
   cases hi
   exact hq
theorem Fy(a:Addr)(i j:Nat):(a.add i).add j=a.add (i+j):=by
 unfold Addr.add
 by_cases hi:i=0 <;> by_cases hj:j=0 <;> simp[hi,hj,Nat.add_assoc]
theorem Lf{base n:Nat}{a:Addr}{cs:List Value}(h:w.cells? base a n=some cs):cs.length=n∧ ∀ (r:Nat) v,cs[r]? = some v->w.cell? (a.add r)=some v:=by
 unfold World.cells? at h
 split at h
 ·obtain⟨h1,h2⟩:=Ga h
  refine⟨by simpa using h1,fun r v hv=> ?_⟩
  have hr:=(List.getElem?_eq_some_iff.1 hv).1
  have hr2:r<n:=by rw[h1]at hr;simpa using hr
  exact h2 r r v (by simp[hr2]) hv
 ·cases h
theorem CS{a:Addr}{v:Value}(h:w.cell? a=some v): ∃ b off cs,a=⟨b,off,none⟩∧DJ w b=some cs∧cs[off]? = some v:=by
 obtain⟨b,off,spot⟩:=a
 unfold World.cell? at h
 split at h
 ·rename_i c T fz hb
  split at h
  ·cases h
  ·rename_i hs
   have:spot=none:=by cases spot with|none=>rfl|some=>simp at hs
   subst this
   exact⟨b,off,c,rfl,by simp only[DJ];rw[hb],h⟩
 ·cases h
theorem PO{n:Nat}{e:TypeId}{a:Addr}{len cap:Nat}{xs:List (DataW H×List MemPlace)}(hsz:0<P.cellsOf e)(hag:YT P e=true∨P.cellsOf e=1)(hcap:len<=cap)(hmax:cap<=maxLen)
  (ih : ∀ (cs:List Value) (x:DataW H×List MemPlace),DataW.trod enc P w base sp held n e cs=some x-> ∃ ps,Cl w cs ps∧XD P n e ps)
  (h:(List.range len).mapM (fun i=>(w.cells? base (a.add (i*P.cellsOf e)) (P.cellsOf e)).bind (DataW.trod enc P w base sp held n e))=some xs) :
  ∃ qs:List (List PV),RP (DJ w) (.slice (some a) len cap) (.sl (P.cellsOf e) false (qs.map (JV P e)))∧qs.length<=maxLen∧ ∀ q∈qs,q.length=P.cellsOf e∧XD P n e q:=by
 obtain⟨hl,hg⟩:=Ga h
 rw[List.length_range]at hl
 have key : ∀ i,i<len-> ∃ q:List PV,(q.length=P.cellsOf e∧XD P n e q)∧ ∀ (r:Nat) p,q[r]? = some p-> ∃ v,w.cell? (a.add (i*P.cellsOf e+r))=some v∧v.oneCell'=true∧RP (DJ w) v p:=by
  intro i hi
  have hx:=List.getElem?_eq_getElem (show i<xs.length by omega)
  have:=hg i i _ (by simp[hi]) hx
  rw[Option.bind_eq_some_iff]at this
  obtain⟨cs,h1,h2⟩:=this
  obtain⟨q,k1,k2⟩:=ih cs _ h2
  obtain⟨c1,c2⟩:=Lf h1
  refine⟨q,⟨by rw[<- k1.1.1,c1],k2⟩,fun r p hp=> ?_⟩
  have hr:r<cs.length:=by rw[k1.1.1];exact(List.getElem?_eq_some_iff.1 hp).1
  have hv:=List.getElem?_eq_getElem hr
  refine⟨_,?_,k1.2 _ (List.getElem_mem hr),k1.1.2 r _ p hv hp⟩
  rw[<- Fy]
  exact c2 r _ hv
 obtain⟨qs,hq1,hq2⟩:=SE len key
 have hcells : ∀ q∈qs,(JV P e q).cells=q:=by
  intro q hq
  obtain⟨i,hi,rfl⟩:=List.getElem_of_mem hq
  have:=(hq2 i _ (List.getElem?_eq_getElem hi)).1
  exact MR hag this.1 fun ha=>Eu this.2 ha
 refine⟨qs,?_,by omega,fun q hq=> ?_⟩
 ·by_cases h0:len=0
  ·subst h0
   have:qs=[]:=List.length_eq_zero_iff.1 hq1
   subst this
   exact .sl0 _ _ _ _ fun e=>by cases e
  ·-- the first cell tells the block
   obtain⟨b,off,cs,rfl,hb,-⟩ : ∃ b off cs,a=⟨b,off,none⟩∧DJ w b=some cs∧True:=by
    have hq0:=List.getElem?_eq_getElem (show 0<qs.length by omega)
    obtain⟨⟨f1,f2⟩,f3⟩:=hq2 0 _ hq0
    have hp:=List.getElem?_eq_getElem (show 0<(qs[0]'(by omega)).length by omega)
    obtain⟨v,hv,_⟩:=f3 0 _ hp
    simp[Addr.add]at hv
    obtain⟨b,off,cs,e1,e2,_⟩:=CS hv
    exact⟨b,off,cs,e1,e2,trivial⟩
   have hs : ∀ x∈qs.map (JV P e),x.cells.length=P.cellsOf e:=by
    intro x hx
    obtain⟨q,hq,rfl⟩:=List.mem_map.1 hx
    rw[hcells q hq]
    obtain⟨i,hi,rfl⟩:=List.getElem_of_mem hq
    exact(hq2 i _ (List.getElem?_eq_getElem hi)).1.1
   have hat : ∀ (j:Nat) p,(flat (qs.map (JV P e)))[j]? = some p-> ∃ v,cs[off+j]? = some v∧v.oneCell'=true∧RP (DJ w) v p:=by
    intro j p hp
    have hj:j<len*P.cellsOf e:=by
     have:=(List.getElem?_eq_some_iff.1 hp).1
     rw[XY hs]at this
     simpa [hq1]using this
    have hi:j / P.cellsOf e<qs.length:=by rw[hq1];exact(Nat.div_lt_iff_lt_mul hsz).2 hj
    have hr:j % P.cellsOf e<P.cellsOf e:=Nat.mod_lt _ hsz
    have hqi:=List.getElem?_eq_getElem hi
    have e0:j=j / P.cellsOf e*P.cellsOf e+j % P.cellsOf e:=by rw[Nat.mul_comm];exact(Nat.div_add_mod _ _).symm
    have hxi:(qs.map (JV P e))[j / P.cellsOf e]? = some (JV P e qs[j / P.cellsOf e]):=by rw[List.getElem?_map,hqi];rfl
    have hfg:=TL hs hxi hr
    rw[<- e0,hcells _ (List.getElem_mem hi)]at hfg
    rw[hfg]at hp
    obtain⟨v,hv,h1,h2⟩:=(hq2 _ _ hqi).2 _ p hp
    rw[<- e0,Xf]at hv
    obtain⟨b',off',cs',e1,e2,e3⟩:=CS hv
    cases e1
    rw[hb]at e2
    cases e2
    exact⟨v,e3,h1,h2⟩
   have hlen:len=(qs.map (JV P e)).length:=by simp[hq1]
   rw[hlen]
   refine .sl b off cs cap _ false _ (fun j=>(cs[off+j]?).getD default) hb (by rw[<- hlen];exact hcap) (fun e=>by cases e) hs (fun j p hp=> ?_) (fun j p hp=> ?_)
   ·obtain⟨v,h1,h2,h3⟩:=hat j p hp
    rw[h1]
    exact⟨rfl,h2⟩
   ·obtain⟨v,h1,h2,h3⟩:=hat j p hp
    rw[h1]
    exact h3
 ·obtain⟨i,hi,rfl⟩:=List.getElem_of_mem hq
  exact(hq2 i _ (List.getElem?_eq_getElem hi)).1
theorem Fb(hS:Aq P S=true): ∀ (n:Nat) (t:TypeId) (cs:List Value) (x:DataW H×List MemPlace),t∈S->DataW.trod enc P w base sp held n t cs=some x-> ∃ ps,Cl w cs ps∧XD P n t ps:=by
  intro n
  induction n with
  | zero=>intro t cs x _ h;simp[DataW.trod]at h
  | succ n ih=>
    intro t cs x ht h
    have hp:=Cj hS ht
    unfold DataW.trod at h
    unfold XD
    split at h <;> (try rename_i hu) <;> (try simp only[hu]at hp ⊢) <;> try (cases hp;done)
    all_goals first
      | (exact⟨_,Cl.one (.bool _) rfl,_,rfl⟩)
      | (split at h
         · rename_i hc
           obtain⟨rfl,hw⟩:=hc
           exact⟨_,Cl.one (.int _ _) rfl,_,rfl,hw⟩
         · cases h)
      | (split at h
         · rename_i hc
           exact⟨_,Cl.one (.str _) rfl,_,rfl,by simpa using hc⟩
         · cases h)
      | (cases h;done)
      | skip
    · exact⟨_,Cl.one (.sl0 _ _ _ false (fun e=>by cases e)) rfl,[],rfl,by simp,fun q hq=>by simp at hq⟩
    · rename_i e a len cap
      simp only[Bool.and_eq_true,Bool.or_eq_true,beq_iff_eq,decide_eq_true_eq]at hp
      simp only at h
      split at h
      · rename_i hc
        rw[Option.bind_eq_some_iff]at h
        obtain⟨xs,h1,_⟩:=h
        obtain⟨qs,k1,k2,k3⟩:=PO hp.1.2 hp.2 hc.2.1 hc.2.2 (fun cs x hx=>ih e cs x (by simpa using hp.1.1.2) hx) h1
        exact⟨_,Cl.one k1 rfl,qs,rfl,k2,k3⟩
      · cases h
    · rename_i cs2 fs
      simp only[Bool.and_eq_true]at hp
      split at h
      · rename_i hc
        rw[Option.map_eq_some_iff]at h
        obtain⟨xs,h1,_⟩:=h
        obtain⟨ps,k1,k2⟩:=Ta ih fs.toList 0 (P.cellsOf t) xs hp.1 (fun f hf=>by simpa using List.all_eq_true.1 hp.2 f hf) hc (Nat.zero_le _) h1
        rw[List.drop_zero]at k1
        exact⟨ps,k1,by rw[<- k1.1.1,hc],fun f hf=>by simpa using k2 [] rfl f hf⟩
      · cases h
    · rename_i cs1 _ cs2 m e
      simp only[Bool.and_eq_true,beq_iff_eq]at hp
      split at h
      · rename_i hc
        rw[Option.map_eq_some_iff]at h
        obtain⟨xs,h1,_⟩:=h
        obtain⟨hl,hg⟩:=Ga h1
        rw[List.length_range]at hl
        obtain⟨ps,k1,k2⟩:=TV (n:=n) (m:=m) (e:=e) rfl (cs:=cs1) (fun i hi=>by
          have hx:=List.getElem?_eq_getElem (show i<xs.length by omega)
          exact ih e _ _ (by simpa using hp.1) (hg i i _ (by simp[hi]) hx)) (by rw[hc,hp.2])
        exact⟨ps,k1,by rw[<- k1.1.1,hc],k2⟩
      · cases h
theorem SL(hS:Aq P S=true){t:TypeId}(ht:t∈S){r:Reach}{b0:Nat}{v:Value}{d:DataW H}{p:List MemPlace}(hval:Value.okWide P w r b0 t v)(h:DataW.Trod enc P w base sp held t v d p):
  ∃ n q,RP (DJ w) v (JV P t q)∧XD P n t q:=by
 obtain⟨n,h⟩:=h
 obtain⟨q,k1,k2⟩:=Fb hS n t _ _ ht h
 refine⟨n,q,?_,k2⟩
 have hp:=Cj hS ht
 have scal:v.cells = #[v]->YT P t=false->RP (DJ w) v (JV P t q):=by
  intro hc ha
  rw[hc]at k1
  have hl:=k1.1.1
  match q,hl with
  | [x],_=>simp only[JV,ha,List.headD_cons];exact k1.1.2 0 v x rfl rfl
 have agg : ∀ cs,v = .agg cs->YT P t=true->RP (DJ w) v (JV P t q):=by
  rintro cs rfl ha
  simp only[JV,ha]
  exact .agg cs q (by have:=k1.1.1;simpa [Value.cells]using this) (fun x hx=>k1.2 x (by simpa [Value.cells]using hx)) fun j x y hx hy=>k1.1.2 j x y (by simpa [Value.cells]using hx) hy
 split at hp
 ·rename_i hu
  obtain⟨b,rfl⟩:=okWide_bool hu hval
  exact scal rfl (by simp[YT,hu])
 ·rename_i hu
  obtain⟨b,rfl⟩:=okWide_int hu hval
  exact scal rfl (by simp[YT,hu])
 ·rename_i hu
  obtain⟨b,rfl⟩:=okWide_string hu hval
  exact scal rfl (by simp[YT,hu])
 ·rename_i hu
  obtain⟨a,l,c,rfl⟩:=okWide_slice hu hval
  exact scal rfl (by simp[YT,hu])
 ·rename_i hu
  simp only[Value.okWide,hu]at hval
  obtain⟨cs,rfl,_⟩:=hval
  exact agg cs rfl (by simp[YT,hu])
 ·rename_i hu
  simp only[Value.okWide,hu]at hval
  obtain⟨cs,rfl,_⟩:=hval
  exact agg cs rfl (by simp[YT,hu])
 ·cases hp
def He(P:Program)(t:TypeId):Option (List (Nat×TypeId)):=match P.underlying t with
 | some (.struct fs)=>some (fs.toList.map fun f=>(f.offset,f.type))
 | _=>none
def a8r(P:Program)(n:Nat)(q:List PV):List (Nat×TypeId)->Prop
 | []=>True
 | (o,t)::r=>XD P n t ((q.drop o).take (P.cellsOf t))∧a8r P n q r
theorem U1{n c:Nat}{t:TypeId}{q:List PV}{l:List (Nat×TypeId)}(hs:He P t=some l)(hc:P.cellsOf t=c)(h:XD P n t q): ∃ m,n=m+1∧q.length=c∧a8r P m q l:=by
 cases n with
 | zero=>exact h.elim
 | succ m=>
  unfold He at hs
  split at hs
  ·rename_i fs hu
   cases hs
   simp only[XD,hu]at h
   refine⟨m,rfl,by rw[h.1,hc],?_⟩
   have key : ∀ l:List Field,(∀ f∈l,XD P m f.type ((q.drop f.offset).take (P.cellsOf f.type)))->a8r P m q (l.map fun f=>(f.offset,f.type)):=by
    intro l
    induction l with
    | nil=>intro _;trivial
    | cons f l ih=>intro h;exact⟨h f List.mem_cons_self,ih fun g hg=>h g (List.mem_cons_of_mem _ hg)⟩
   exact key _ h.2
  ·cases hs
theorem SA{n:Nat}{t:TypeId}{k:IntKind}{q:List PV}(hu:P.underlying t=some (.int k))(h:XD P n t q): ∃ m,q=[.int k m]∧(Lit.int k m).wf=true:=by
 cases n with
 | zero=>exact h.elim
 | succ m=>simpa only[XD,hu]using h
theorem SI{n:Nat}{t:TypeId}{q:List PV}(hu:P.underlying t=some .string)(h:XD P n t q): ∃ s:List UInt8,q=[.str s]∧s.length<=maxLen:=by
 cases n with
 | zero=>exact h.elim
 | succ m=>simpa only[XD,hu]using h
theorem R5{n c:Nat}{t e:TypeId}{q:List PV}(hu:P.underlying t=some (.slice e))(hc:P.cellsOf e=c)(h:XD P n t q): ∃ m,n=m+1∧ ∃ qs:List (List PV),q=[.sl c false (qs.map (JV P e))]∧qs.length<=maxLen∧ ∀ x∈qs,x.length=c∧XD P m e x:=by
 cases n with
 | zero=>exact h.elim
 | succ m=>
  subst hc
  simp only[XD,hu]at h
  exact⟨m,rfl,h⟩
theorem a3d{Φ:Z0}:X3 Φ (#[]:Array Value).toList []:=⟨rfl,fun j v p h=>by simp at h⟩
theorem a9z{Φ:Z0}{v:Value}{vs:List Value}{p:PV}{ps:List PV}(h:RP Φ v p)(k:X3 Φ vs ps):X3 Φ (v::vs) (p::ps):=
 ⟨by simp[k.1],fun j u q hu hq=>match j with
  | 0=>by cases hu;cases hq;exact h
  | j+1=>k.2 j u q (by simpa using hu) (by simpa using hq)⟩
theorem LW{f:Nat}{pre:List PV->Bool}{val:List PV->PV}(h:X8 P f pre val){ps:List PV}(hp:pre ps=true)(hv:val ps = .bool true){vs:Array Value}(hL:GlobOK (DJ w))(hr:X3 (DJ w) vs.toList ps):
  Calls P f vs w fun e w'=>e = .returned (.bool true)∧Below w.heap.size w w':=by
 refine(h ps hp (DJ w) w vs hL (a8s w) hr).mono ?_
 rintro e w' ⟨v,Φ',rfl,_,_,h1,h2,_⟩
 rw[hv]at h1
 cases h1
 exact⟨rfl,h2⟩
end
end Go.Pl

namespace Go.Proofs.YtjfgiaooglnomaaGreatDoor
open Go.Pl Go.RowKit Go.ChangeShapes
set_option maxRecDepth 100000
theorem NQ{P:Program}{W:World}{n:String}{g:Nat}{cs:Array Value}(hg:P.globalNamed n=some g)(h:W.var? P n=some cs):DJ W g=some cs:=by
 unfold World.var? at h
 rw[hg]at h
 simp only[Option.bind_some]at h
 unfold DJ
 exact h
theorem a6l:Tryz.prog.globalNamed "internal/strconv.uint64pow10" = some 1:=by kernel_rfl
theorem a9x:Tryz.prog.globalNamed "strconv.ErrRange" = some 3:=by kernel_rfl
theorem a9t:Tryz.prog.globalNamed "strconv.ErrSyntax" = some 2:=by kernel_rfl
theorem LP:Tryz.prog.underlying 213=some (.interface ((match Tryz.prog.underlying 213 with|some (.interface ms)=>ms|_=>#[]))):=by kernel_rfl
theorem a6y{W:World}{r:List (String×DataW Unit)}(h:laidMet Tryz.prog (("internal/strconv.uint64pow10",Rows.laid_internal_strconv_uint64pow10)::r) W):DJ W 1=some H6:=by
 have h1:Lib.TabIs Tryz.prog W "internal/strconv.uint64pow10" .u64 ((List.range 20).map fun i=>((10 ^ i:Nat):Int)):=Lib.tabIs_of_head (e:=200) (t:=301) a6l (by kernel_rfl) (n:=20) (by kernel_rfl) (by kernel_rfl) (by kernel_rfl) (by kernel_rfl) h
 exact(NQ a6l h1).trans rfl
theorem a1j{W:World}{n:String}{g:Nat}{text:List UInt8}{r:List (String×DataW Unit)}(hg:Tryz.prog.globalNamed n=some g)(ht:(Tryz.prog.globals[g]?).map (·.type)=some 213)(h:laidMet Tryz.prog ((n,.iface "*errors.errorString" (.ptr (.agg [.lit (.string text)])))::r) W): ∃ cs,DJ W g=some cs∧Gv cs:=by
 obtain⟨ps,⟨g0,t0,cs0,f0,p0,q0,hg0,ht0,hv0,hd0,_,e0⟩,_,hrows⟩:=h
 obtain rfl:=Option.some.inj (hg.symm.trans hg0)
 obtain rfl:=Option.some.inj (ht.symm.trans ht0)
 subst e0
 refine⟨cs0,NQ hg hv0,?_⟩
 obtain⟨f1,u,v,e,_⟩:=iface_of_trod LP hd0
 obtain⟨l0⟩:=cs0
 have e:l0=[.iface u v]:=e
 subst e
 exact⟨_,rfl,.inr ⟨u,v,rfl⟩⟩
noncomputable def a7o:DataW Unit->Value
 | .lit (.int k n)=>.int k n
 | _=>.int .i64 0
noncomputable def Ap:DataW Unit->Array Value
 | .agg ds=>(ds.map a7o).toArray
 | _=>#[]
noncomputable def Ox:DataW Unit->ByteArray
 | .iface _ (.ptr (.agg [.lit (.string bs)]))=>⟨bs.toArray⟩
 | _=>⟨#[]⟩
noncomputable def low:Nat:=(World.holding Tryz.prog default ⟨#[],#[],[]⟩).heap.size
noncomputable def PH(cs:Array Value):Obj->Obj
 | .cells _ t frozen=>.cells cs t frozen
 | o=>o
end Go.Proofs.YtjfgiaooglnomaaGreatDoor

namespace Go.Proofs.YtjfgiaooglnomaaGreatDoor
open Go.Pl Go.RowKit Go.ChangeShapes
set_option maxRecDepth 100000
theorem EU{W:World}{x y z:String×DataW Unit}{r:List (String×DataW Unit)}(h:laidMet Tryz.prog (x::y::("internal/strconv.uint64pow10",Rows.laid_internal_strconv_uint64pow10)::z::("strconv.ErrRange",Rows.laid_strconv_ErrRange)::("strconv.ErrSyntax",Rows.laid_strconv_ErrSyntax)::r) W):GlobOK (DJ W):=
 ⟨a1j a9t (by kernel_rfl) h.tail.tail.tail.tail.tail,a1j a9x (by kernel_rfl) h.tail.tail.tail.tail,a6y h.tail.tail⟩
noncomputable def a3i:DataW Unit->Array Value
 | .agg ds=>(ds.flatMap fun d=>match d with | .agg es=>es.map a7o|d=>[a7o d]).toArray
 | _=>#[]
noncomputable def GD(os:Os):World:=
 let w0:=World.holding Tryz.prog os ⟨#[.cells #[.string (Ox Rows.laid_strconv_ErrRange)] 326,.cells #[.string (Ox Rows.laid_strconv_ErrSyntax)] 326],#[],[]⟩
 {w0 with heap:=((((((w0.heap.modify 3 (PH #[.iface 324 (.pointer (some ⟨low,0,none⟩))])).modify 2 (PH #[.iface 324 (.pointer (some ⟨low+1,0,none⟩))])).modify 1 (PH (Ap Rows.laid_internal_strconv_uint64pow10))).modify 6 (PH (Ap Rows.laid_math_bits_deBruijn32tab))).modify 7 (PH (Ap Rows.laid_math_bits_deBruijn64tab))).modify 5 (PH (a3i Rows.laid_unicode_utf8_acceptRanges))).modify 4 (PH (Ap Rows.laid_unicode_utf8_first))}
end Go.Proofs.YtjfgiaooglnomaaGreatDoor

namespace Go.Proofs.YtjfgiaooglnomaaGreatDoor
open Go.Shelf
def Tryz.lays172_ren:Go.Shelf.Ren:=⟨fun|172=>182|244=>242|245=>243|247=>278|279=>279|280=>280|281=>281|282=>282|287=>298|316=>299|171=>76|205=>300|321=>308|322=>309|243=>146|246=>214|283=>260|284=>261|285=>262|286=>263|129=>276|317=>287|318=>288|319=>289|320=>290|337=>301|338=>302|n=>n,fun|9=>9|3=>3|75=>213|76=>214|4=>4|5=>5|167=>290|37=>38|0=>0|85=>291|2=>2|168=>293|53=>200|175=>309|46=>171|210=>313|127=>323|145=>326|143=>324|21=>21|171=>273|173=>275|212=>301|51=>288|20=>20|213=>302|232=>327|233=>328|80=>329|n=>n,fun|15=>2|16=>3|17=>1|18=>6|19=>7|n=>n⟩
theorem Tryz.lays172:Go.Proofs.LaysC.n172 Tryz.prog Tryz.lays172_ren:={
 mixed:=by kernel_rfl
 f129:=Tryz.func276.trans (congrArg some (by kernel_rfl))
 f171:=Tryz.func76.trans (congrArg some (by kernel_rfl))
 f172:=Tryz.func182.trans (congrArg some (by kernel_rfl))
 f205:=Tryz.func300.trans (congrArg some (by kernel_rfl))
 f243:=Tryz.func146.trans (congrArg some (by kernel_rfl))
 f244:=Tryz.func242.trans (congrArg some (by kernel_rfl))
 f245:=Tryz.func243.trans (congrArg some (by kernel_rfl))
 f246:=Tryz.func214.trans (congrArg some (by kernel_rfl))
 f247:=Tryz.func278.trans (congrArg some (by kernel_rfl))
 f279:=Tryz.func279.trans (congrArg some (by kernel_rfl))
 f280:=Tryz.func280.trans (congrArg some (by kernel_rfl))
 f281:=Tryz.func281.trans (congrArg some (by kernel_rfl))
 f282:=Tryz.func282.trans (congrArg some (by kernel_rfl))
 f283:=Tryz.func260.trans (congrArg some (by kernel_rfl))
 f284:=Tryz.func261.trans (congrArg some (by kernel_rfl))
 f285:=Tryz.func262.trans (congrArg some (by kernel_rfl))
 f286:=Tryz.func263.trans (congrArg some (by kernel_rfl))
 f287:=Tryz.func298.trans (congrArg some (by kernel_rfl))
 f316:=Tryz.func299.trans (congrArg some (by kernel_rfl))
 f317:=Tryz.func287.trans (congrArg some (by kernel_rfl))
 f318:=Tryz.func288.trans (congrArg some (by kernel_rfl))
 f319:=Tryz.func289.trans (congrArg some (by kernel_rfl))
 f320:=Tryz.func290.trans (congrArg some (by kernel_rfl))
 f321:=Tryz.func308.trans (congrArg some (by kernel_rfl))
 f322:=Tryz.func309.trans (congrArg some (by kernel_rfl))
 f337:=Tryz.func301.trans (congrArg some (by kernel_rfl))
 f338:=Tryz.func302.trans (congrArg some (by kernel_rfl))
 t0:=Tryz.underlying0
 a0:=Tryz.isAgg0
 z0:=Tryz.sizeOf0
 v0:=Tryz.zeroValue0
 t2:=Tryz.underlying2
 a2:=Tryz.isAgg2
 z2:=Tryz.sizeOf2
 v2:=Tryz.zeroValue2
 t3:=Tryz.underlying3
 a3:=Tryz.isAgg3
 z3:=Tryz.sizeOf3
 v3:=Tryz.zeroValue3
 t4:=Tryz.underlying4
 a4:=Tryz.isAgg4
 z4:=Tryz.sizeOf4
 v4:=Tryz.zeroValue4
 t5:=Tryz.underlying5
 a5:=Tryz.isAgg5
 z5:=Tryz.sizeOf5
 v5:=Tryz.zeroValue5
 t9:=Tryz.underlying9
 a9:=Tryz.isAgg9
 z9:=Tryz.sizeOf9
 v9:=Tryz.zeroValue9
 t20:=Tryz.underlying20
 a20:=Tryz.isAgg20
 z20:=Tryz.sizeOf20
 v20:=Tryz.zeroValue20
 t21:=Tryz.underlying21
 a21:=Tryz.isAgg21
 z21:=Tryz.sizeOf21
 v21:=Tryz.zeroValue21
 t37:=Tryz.underlying38
 a37:=Tryz.isAgg38
 z37:=Tryz.sizeOf38
 v37:=Tryz.zeroValue38
 t46:=Tryz.underlying171
 a46:=Tryz.isAgg171
 z46:=Tryz.sizeOf171
 v46:=Tryz.zeroValue171
 t51:=Tryz.underlying288
 a51:=Tryz.isAgg288
 z51:=Tryz.sizeOf288
 v51:=Tryz.zeroValue288
 t53:=Tryz.underlying200
 a53:=Tryz.isAgg200
 z53:=Tryz.sizeOf200
 v53:=Tryz.zeroValue200
 t75:=Tryz.underlying213
 a75:=Tryz.isAgg213
 z75:=Tryz.sizeOf213
 v75:=Tryz.zeroValue213
 t76:=Tryz.underlying214
 a76:=Tryz.isAgg214
 z76:=Tryz.sizeOf214
 v76:=Tryz.zeroValue214
 t85:=Tryz.underlying291
 a85:=Tryz.isAgg291
 z85:=Tryz.sizeOf291
 v85:=Tryz.zeroValue291
 t127:=Tryz.underlying323
 a127:=Tryz.isAgg323
 z127:=Tryz.sizeOf323
 v127:=Tryz.zeroValue323
 t143:=Tryz.underlying324
 a143:=Tryz.isAgg324
 z143:=Tryz.sizeOf324
 v143:=Tryz.zeroValue324
 t145:=Tryz.underlying326
 a145:=Tryz.isAgg326
 z145:=Tryz.sizeOf326
 v145:=Tryz.zeroValue326
 t167:=Tryz.underlying290
 a167:=Tryz.isAgg290
 z167:=Tryz.sizeOf290
 v167:=Tryz.zeroValue290
 t168:=Tryz.underlying293
 a168:=Tryz.isAgg293
 z168:=Tryz.sizeOf293
 v168:=Tryz.zeroValue293
 t171:=Tryz.underlying273
 a171:=Tryz.isAgg273
 z171:=Tryz.sizeOf273
 v171:=Tryz.zeroValue273
 t173:=Tryz.underlying275
 a173:=Tryz.isAgg275
 z173:=Tryz.sizeOf275
 v173:=Tryz.zeroValue275
 t175:=Tryz.underlying309
 a175:=Tryz.isAgg309
 z175:=Tryz.sizeOf309
 v175:=Tryz.zeroValue309
 t210:=Tryz.underlying313
 a210:=Tryz.isAgg313
 z210:=Tryz.sizeOf313
 v210:=Tryz.zeroValue313
 t212:=Tryz.underlying301
 a212:=Tryz.isAgg301
 z212:=Tryz.sizeOf301
 v212:=Tryz.zeroValue301
 t213:=Tryz.underlying302
 a213:=Tryz.isAgg302
 z213:=Tryz.sizeOf302
 t232:=Tryz.underlying327
 a232:=Tryz.isAgg327
 z232:=Tryz.sizeOf327
 v232:=Tryz.zeroValue327
 t233:=Tryz.underlying328
 a233:=Tryz.isAgg328
 z233:=Tryz.sizeOf328
 v233:=Tryz.zeroValue328
 g15:=by kernel_rfl
 g16:=by kernel_rfl
 g17:=by kernel_rfl
 g18:=by kernel_rfl
 g19:=by kernel_rfl
 t80:=Tryz.underlying329
 a80:=Tryz.isAgg329
 z80:=Tryz.sizeOf329
 v80:=Tryz.zeroValue329
 i0:=by kernel_rfl
 i2:=by kernel_rfl
 i3:=by kernel_rfl
 i4:=by kernel_rfl
 i5:=by kernel_rfl
 i9:=by kernel_rfl
 i20:=by kernel_rfl
 i21:=by kernel_rfl
 i37:=by kernel_rfl
 i46:=by kernel_rfl
 i51:=by kernel_rfl
 i53:=by kernel_rfl
 i75:=by kernel_rfl
 i76:=by kernel_rfl
 i80:=by kernel_rfl
 i85:=by kernel_rfl
 i127:=by kernel_rfl
 i143:=by kernel_rfl
 i145:=by kernel_rfl
 i167:=by kernel_rfl
 i168:=by kernel_rfl
 i171:=by kernel_rfl
 i173:=by kernel_rfl
 i175:=by kernel_rfl
 i210:=by kernel_rfl
 i212:=by kernel_rfl
 i232:=by kernel_rfl
 i233:=by kernel_rfl
 m15:=by kernel_rfl
 m16:=by kernel_rfl
 m17:=by kernel_rfl
 m18:=by kernel_rfl
 m19:=by kernel_rfl
 c0:=by kernel_rfl
 c2:=by kernel_rfl
 c3:=by kernel_rfl
 c4:=by kernel_rfl
 c5:=by kernel_rfl
 c9:=by kernel_rfl
 c20:=by kernel_rfl
 c21:=by kernel_rfl
 c37:=by kernel_rfl
 c46:=by kernel_rfl
 c51:=by kernel_rfl
 c53:=by kernel_rfl
 c75:=by kernel_rfl
 c76:=by kernel_rfl
 c80:=by kernel_rfl
 c85:=by kernel_rfl
 c127:=by kernel_rfl
 c143:=by kernel_rfl
 c145:=by kernel_rfl
 c167:=by kernel_rfl
 c168:=by kernel_rfl
 c171:=by kernel_rfl
 c173:=by kernel_rfl
 c175:=by kernel_rfl
 c210:=by kernel_rfl
 c212:=by kernel_rfl
 c213:=by kernel_rfl
 c232:=by kernel_rfl
 c233:=by kernel_rfl}
def Tryz.lays171_ren:Go.Shelf.Ren:=⟨fun|171=>76|243=>146|246=>214|283=>260|284=>261|285=>262|286=>263|129=>276|317=>287|318=>288|319=>289|320=>290|337=>301|338=>302|n=>n,fun|3=>3|9=>9|2=>2|4=>4|171=>273|0=>0|53=>200|37=>38|5=>5|173=>275|212=>301|51=>288|20=>20|213=>302|46=>171|232=>327|233=>328|n=>n,fun|17=>1|18=>6|19=>7|n=>n⟩
theorem Tryz.lays171:Go.Proofs.LaysM.n171 Tryz.prog Tryz.lays171_ren:={
 mixed:=by kernel_rfl
 f129:=Tryz.func276.trans (congrArg some (by kernel_rfl))
 f171:=Tryz.func76.trans (congrArg some (by kernel_rfl))
 f243:=Tryz.func146.trans (congrArg some (by kernel_rfl))
 f246:=Tryz.func214.trans (congrArg some (by kernel_rfl))
 f283:=Tryz.func260.trans (congrArg some (by kernel_rfl))
 f284:=Tryz.func261.trans (congrArg some (by kernel_rfl))
 f285:=Tryz.func262.trans (congrArg some (by kernel_rfl))
 f286:=Tryz.func263.trans (congrArg some (by kernel_rfl))
 f317:=Tryz.func287.trans (congrArg some (by kernel_rfl))
 f318:=Tryz.func288.trans (congrArg some (by kernel_rfl))
 f319:=Tryz.func289.trans (congrArg some (by kernel_rfl))
 f320:=Tryz.func290.trans (congrArg some (by kernel_rfl))
 f337:=Tryz.func301.trans (congrArg some (by kernel_rfl))
 f338:=Tryz.func302.trans (congrArg some (by kernel_rfl))
 t0:=Tryz.underlying0
 a0:=Tryz.isAgg0
 z0:=Tryz.sizeOf0
 v0:=Tryz.zeroValue0
 t2:=Tryz.underlying2
 a2:=Tryz.isAgg2
 z2:=Tryz.sizeOf2
 v2:=Tryz.zeroValue2
 t3:=Tryz.underlying3
 a3:=Tryz.isAgg3
 z3:=Tryz.sizeOf3
 v3:=Tryz.zeroValue3
 t4:=Tryz.underlying4
 a4:=Tryz.isAgg4
 z4:=Tryz.sizeOf4
 v4:=Tryz.zeroValue4
 t5:=Tryz.underlying5
 a5:=Tryz.isAgg5
 z5:=Tryz.sizeOf5
 v5:=Tryz.zeroValue5
 t9:=Tryz.underlying9
 a9:=Tryz.isAgg9
 z9:=Tryz.sizeOf9
 v9:=Tryz.zeroValue9
 t20:=Tryz.underlying20
 a20:=Tryz.isAgg20
 z20:=Tryz.sizeOf20
 v20:=Tryz.zeroValue20
 t37:=Tryz.underlying38
 a37:=Tryz.isAgg38
 z37:=Tryz.sizeOf38
 v37:=Tryz.zeroValue38
 t46:=Tryz.underlying171
 a46:=Tryz.isAgg171
 z46:=Tryz.sizeOf171
 v46:=Tryz.zeroValue171
 t51:=Tryz.underlying288
 a51:=Tryz.isAgg288
 z51:=Tryz.sizeOf288
 v51:=Tryz.zeroValue288
 t53:=Tryz.underlying200
 a53:=Tryz.isAgg200
 z53:=Tryz.sizeOf200
 v53:=Tryz.zeroValue200
 t171:=Tryz.underlying273
 a171:=Tryz.isAgg273
 z171:=Tryz.sizeOf273
 v171:=Tryz.zeroValue273
 t173:=Tryz.underlying275
 a173:=Tryz.isAgg275
 z173:=Tryz.sizeOf275
 v173:=Tryz.zeroValue275
 t212:=Tryz.underlying301
 a212:=Tryz.isAgg301
 z212:=Tryz.sizeOf301
 v212:=Tryz.zeroValue301
 t213:=Tryz.underlying302
 a213:=Tryz.isAgg302
 z213:=Tryz.sizeOf302
 t232:=Tryz.underlying327
 a232:=Tryz.isAgg327
 z232:=Tryz.sizeOf327
 v232:=Tryz.zeroValue327
 t233:=Tryz.underlying328
 a233:=Tryz.isAgg328
 z233:=Tryz.sizeOf328
 v233:=Tryz.zeroValue328
 g17:=by kernel_rfl
 g18:=by kernel_rfl
 g19:=by kernel_rfl
 i0:=by kernel_rfl
 i2:=by kernel_rfl
 i3:=by kernel_rfl
 i4:=by kernel_rfl
 i5:=by kernel_rfl
 i9:=by kernel_rfl
 i20:=by kernel_rfl
 i37:=by kernel_rfl
 i46:=by kernel_rfl
 i51:=by kernel_rfl
 i53:=by kernel_rfl
 i171:=by kernel_rfl
 i173:=by kernel_rfl
 i212:=by kernel_rfl
 i232:=by kernel_rfl
 i233:=by kernel_rfl
 m17:=by kernel_rfl
 m18:=by kernel_rfl
 m19:=by kernel_rfl}
def Tryz.lays99_ren:Go.Shelf.Ren:=⟨fun|99=>152|206=>221|n=>n,fun|9=>9|4=>4|3=>3|n=>n,fun|n=>n⟩
theorem Tryz.lays99:Go.Proofs.Lays.n99 Tryz.prog Tryz.lays99_ren:={
 mixed:=by kernel_rfl
 f99:=Tryz.func152.trans (congrArg some (by kernel_rfl))
 f206:=Tryz.func221.trans (congrArg some (by kernel_rfl))
 t3:=Tryz.underlying3
 a3:=Tryz.isAgg3
 z3:=Tryz.sizeOf3
 v3:=Tryz.zeroValue3
 t4:=Tryz.underlying4
 a4:=Tryz.isAgg4
 z4:=Tryz.sizeOf4
 v4:=Tryz.zeroValue4
 t9:=Tryz.underlying9
 a9:=Tryz.isAgg9
 z9:=Tryz.sizeOf9
 v9:=Tryz.zeroValue9}
def Tryz.lays190_ren:Go.Shelf.Ren:=⟨fun|190=>154|125=>223|258=>222|128=>275|129=>276|302=>267|303=>268|304=>269|305=>270|306=>271|307=>272|308=>244|309=>273|310=>274|333=>293|329=>294|330=>295|334=>296|335=>297|336=>283|344=>307|n=>n,fun|31=>76|9=>9|3=>3|46=>171|0=>0|51=>288|53=>200|4=>4|183=>282|182=>281|131=>129|5=>5|218=>304|222=>148|228=>321|229=>247|n=>n,fun|n=>n⟩
theorem Tryz.lays190:Go.Proofs.Lays.n190 Tryz.prog Tryz.lays190_ren:={
 mixed:=by kernel_rfl
 f125:=Tryz.func223.trans (congrArg some (by kernel_rfl))
 f128:=Tryz.func275.trans (congrArg some (by kernel_rfl))
 f129:=Tryz.func276.trans (congrArg some (by kernel_rfl))
 f190:=Tryz.func154.trans (congrArg some (by kernel_rfl))
 f258:=Tryz.func222.trans (congrArg some (by kernel_rfl))
 f302:=Tryz.func267.trans (congrArg some (by kernel_rfl))
 f303:=Tryz.func268.trans (congrArg some (by kernel_rfl))
 f304:=Tryz.func269.trans (congrArg some (by kernel_rfl))
 f305:=Tryz.func270.trans (congrArg some (by kernel_rfl))
 f306:=Tryz.func271.trans (congrArg some (by kernel_rfl))
 f307:=Tryz.func272.trans (congrArg some (by kernel_rfl))
 f308:=Tryz.func244.trans (congrArg some (by kernel_rfl))
 f309:=Tryz.func273.trans (congrArg some (by kernel_rfl))
 f310:=Tryz.func274.trans (congrArg some (by kernel_rfl))
 f329:=Tryz.func294.trans (congrArg some (by kernel_rfl))
 f330:=Tryz.func295.trans (congrArg some (by kernel_rfl))
 f333:=Tryz.func293.trans (congrArg some (by kernel_rfl))
 f334:=Tryz.func296.trans (congrArg some (by kernel_rfl))
 f335:=Tryz.func297.trans (congrArg some (by kernel_rfl))
 f336:=Tryz.func283.trans (congrArg some (by kernel_rfl))
 f344:=Tryz.func307.trans (congrArg some (by kernel_rfl))
 t0:=Tryz.underlying0
 a0:=Tryz.isAgg0
 z0:=Tryz.sizeOf0
 v0:=Tryz.zeroValue0
 t3:=Tryz.underlying3
 a3:=Tryz.isAgg3
 z3:=Tryz.sizeOf3
 v3:=Tryz.zeroValue3
 t4:=Tryz.underlying4
 a4:=Tryz.isAgg4
 z4:=Tryz.sizeOf4
 v4:=Tryz.zeroValue4
 t5:=Tryz.underlying5
 a5:=Tryz.isAgg5
 z5:=Tryz.sizeOf5
 v5:=Tryz.zeroValue5
 t9:=Tryz.underlying9
 a9:=Tryz.isAgg9
 z9:=Tryz.sizeOf9
 v9:=Tryz.zeroValue9
 t31:=Tryz.underlying76
 a31:=Tryz.isAgg76
 z31:=Tryz.sizeOf76
 v31:=Tryz.zeroValue76
 t46:=Tryz.underlying171
 a46:=Tryz.isAgg171
 z46:=Tryz.sizeOf171
 v46:=Tryz.zeroValue171
 t51:=Tryz.underlying288
 a51:=Tryz.isAgg288
 z51:=Tryz.sizeOf288
 v51:=Tryz.zeroValue288
 t53:=Tryz.underlying200
 a53:=Tryz.isAgg200
 z53:=Tryz.sizeOf200
 v53:=Tryz.zeroValue200
 t131:=Tryz.underlying129
 a131:=Tryz.isAgg129
 z131:=Tryz.sizeOf129
 v131:=Tryz.zeroValue129
 t182:=Tryz.underlying281
 a182:=Tryz.isAgg281
 z182:=Tryz.sizeOf281
 v182:=Tryz.zeroValue281
 t183:=Tryz.underlying282
 a183:=Tryz.isAgg282
 z183:=Tryz.sizeOf282
 v183:=Tryz.zeroValue282
 t218:=Tryz.underlying304
 a218:=Tryz.isAgg304
 z218:=Tryz.sizeOf304
 v218:=Tryz.zeroValue304
 t222:=Tryz.underlying148
 a222:=Tryz.isAgg148
 z222:=Tryz.sizeOf148
 v222:=Tryz.zeroValue148
 t228:=Tryz.underlying321
 a228:=Tryz.isAgg321
 z228:=Tryz.sizeOf321
 v228:=Tryz.zeroValue321
 t229:=Tryz.underlying247
 a229:=Tryz.isAgg247
 z229:=Tryz.sizeOf247
 v229:=Tryz.zeroValue247}
end Go.Proofs.YtjfgiaooglnomaaGreatDoor

namespace Go.Proofs.YtjfgiaooglnomaaGreatDoor
open Go.Pl Go.RowKit
open Enc (enc dec is)
open EncL (encL decL isL)
set_option maxRecDepth 100000
theorem V5:ZC Tryz.prog 152 (fun _:Str×Str×Unit=>true) (fun x:Str×Str×Unit=>x.2.1.s.isPrefixOf x.1.s):=Xd (by
  rintro⟨⟨s⟩,⟨p⟩,⟨⟩⟩ hps Φ w vs hL hΦ hv
  obtain⟨u,v,rfl,h1,h2⟩:=a4v hv
  rw[Ut h1,Ut h2]
  refine(Any.strings_HasPrefix Tryz.lays99 ⟨s.toArray⟩ ⟨p.toArray⟩ w).mono ?_
  rintro e w' ⟨rfl,rfl⟩
  exact⟨_,rfl,.bool _,.refl _ _⟩)
theorem AX:ZC Tryz.prog 182 (fun x:Str×Unit=>decide (x.1.s.length<=1000000)) (fun x:Str×Unit=>ZR x.1):=Xd (by
  rintro⟨⟨s⟩,⟨⟩⟩ hps Φ w vs hL hΦ hv
  have hs:s.length<=1000000:=by simpa using hps
  obtain⟨v,rfl,h1⟩:=b0e hv
  rw[Ut h1]
  have hsz:(⟨s.toArray⟩:ByteArray).size=s.length:=rfl
  cases h:Lib.atoiAll s
  ·rename_i n
   have e1:ZR ⟨s⟩=(n,⟨false⟩):=by simp only[ZR,h]
   rw[e1]
   refine(Any.strconv_Atoi_ok Tryz.lays172 ⟨s.toArray⟩ (by rw[hsz];omega) n h w).mono ?_
   rintro e w' ⟨rfl,hw⟩
   refine⟨_,rfl,.tup _ _ rfl ?_,?_⟩
   ·intro j v x hv hx
    match j with
    | 0=>cases hv;cases hx;exact .int _ _
    | 1=>cases hv;cases hx;exact .nili
    | j+2=>simp at hv
   ·rcases hw with rfl|⟨t,rfl⟩
    ·exact .refl _ _
    ·exact SV _ _ 0 _
  ·skip
   have e1:ZR ⟨s⟩=(0,⟨true⟩):=by simp only[ZR,h]
   rw[e1]
   obtain⟨cs,hc,ev,he,hev⟩:=hL.syn
   refine(Any.strconv_Atoi_syntax Tryz.lays172 ⟨s.toArray⟩ (by rw[hsz];omega) h ev w (CO hΦ hc he) hev).mono ?_
   rintro e w' ⟨N,rfl,_,_,hb⟩
   refine⟨_,rfl,.tup _ _ rfl ?_,hb⟩
   intro j v x hv hx
   match j with
   | 0=>cases hv;cases hx;exact .int _ _
   | 1=>cases hv;cases hx;exact .ifc _ _
   | j+2=>simp at hv
  ·skip
   have e1:ZR ⟨s⟩=(Lib.atoiSat s,⟨true⟩):=by simp only[ZR,h]
   rw[e1]
   obtain⟨cs,hc,ev,he,hev⟩:=hL.rng
   refine(Any.strconv_Atoi_range Tryz.lays172 ⟨s.toArray⟩ (by rw[hsz];omega) h ev w (CO hΦ hc he) hev).mono ?_
   rintro e w' ⟨N,rfl,_,_,hb⟩
   refine⟨_,rfl,.tup _ _ rfl ?_,hb⟩
   intro j v x hv hx
   match j with
   | 0=>cases hv;cases hx;exact .int _ _
   | 1=>cases hv;cases hx;exact .ifc _ _
   | j+2=>simp at hv)
theorem TT:ZC Tryz.prog 76 (fun x:Int×Unit=>decide (-9223372036854775808<=x.1)&&decide (x.1<=9223372036854775807)) (fun x:Int×Unit=>ZB x.1):=Xd (by
  rintro⟨n,⟨⟩⟩ hps Φ w vs hL hΦ hv
  obtain⟨v,rfl,h1⟩:=b0e hv
  have h1:RP Φ v (.int .i64 n):=h1
  rw[a7l h1]
  have hn : -9223372036854775808<=n∧n<=9223372036854775807:=by simpa using hps
  have hg:=hL.pow
  obtain⟨T,fz,hh⟩:=hΦ _ _ hg
  refine(Any.strconv_Itoa Tryz.lays171 n hn.1 hn.2 w ?_).mono ?_
  ·unfold Lib.TabIs World.var?
   rw[show Program.globalNamed Tryz.prog "internal/strconv.uint64pow10" = some 1 by kernel_rfl]
   simp only[Option.bind_some,hh]
   rfl
  ·rintro e w' ⟨rfl,k,os,rfl⟩
   refine⟨_,rfl,.str _,?_⟩
   exact⟨rfl,rfl,rfl,by show w.heap.size<=(w.heap++os).size;simp,fun j hj=>by show(w.heap++os)[j]? = _;rw[Array.getElem?_append_left hj]⟩)
end Go.Proofs.YtjfgiaooglnomaaGreatDoor

namespace Go.Proofs.YtjfgiaooglnomaaGreatDoor
open Go.Pl
open Enc (enc dec is)
open EncL (encL decL isL)
set_option maxRecDepth 100000
theorem Ye:Tryz.prog.follows .mixedOrders=true:=by kernel_rfl
theorem SG:ZV Tryz.prog 154 YP XX:=LF (Any.slices_Sort_string Tryz.lays190) (Any.slices_Sort_string_none Tryz.lays190)
theorem UF:ZC Tryz.prog 155 (fun _:UInt8×Unit=>true) (fun x:UInt8×Unit=>digB x.1):=ZC.of (T:=Pe) (ic:=HV) (rs:=BB) Zo Ye Tryz.func155 (by kernel_rfl) (by kernel_rfl) (by kernel_rfl) Og
theorem VU:ZC Tryz.prog 156 (fun _:UInt8×Unit=>true) (fun x:UInt8×Unit=>lowB x.1):=ZC.of (T:=Rm) (ic:=BQ) (rs:=BZ) Zo Ye Tryz.func156 (by kernel_rfl) (by kernel_rfl) (by kernel_rfl) a0r
theorem BO:ZC Tryz.prog 83 (fun _:Int×Unit=>true) (fun x:Int×Unit=>Z5 x.1):=ZC.of (T:=GN) (ic:=QH) (rs:=Ju) Zo Ye Tryz.func83 (by kernel_rfl) (by kernel_rfl) (by kernel_rfl) RQ
theorem JI:ZC Tryz.prog 84 (fun _:Str×Unit=>true) (fun x:Str×Unit=>Zq x.1):=ZC.of (T:=XI) (ic:=Xb) (rs:=Y8) (Zb (YE Tryz.func155 (by kernel_rfl) UF) (Zb (YE Tryz.func156 (by kernel_rfl) VU) Zo)) Ye Tryz.func84 (by kernel_rfl) (by kernel_rfl) (by kernel_rfl) Lc
theorem UV:ZC Tryz.prog 20 (fun x:Lin×Unit=>Zy x.1) (fun x:Lin×Unit=>Zh x.1):=ZC.of (T:=Wt) (ic:=Xr) (rs:=Xq) (Zb (YE Tryz.func83 (by kernel_rfl) BO) (Zb (YE Tryz.func84 (by kernel_rfl) JI) Zo)) Ye Tryz.func20 (by kernel_rfl) (by kernel_rfl) (by kernel_rfl) Pg
theorem PD:ZC Tryz.prog 16 (fun x:Lin×Int×Unit=>Zy x.1) (fun x:Lin×Int×Unit=>Al x.1 x.2.1):=ZC.of (T:=QT) (ic:=UG) (rs:=Ux) Zo Ye Tryz.func16 (by kernel_rfl) (by kernel_rfl) (by kernel_rfl) O1
theorem Ee:ZV Tryz.prog 89 Qw Qu:=Va (T:=ZG) (ic:=Zz) (rs:=Zx) Zo Ye Tryz.func89 (by kernel_rfl) (by kernel_rfl) (by kernel_rfl) LV
theorem SX:ZC Tryz.prog 89 (fun x:Lin×Str×Int×Unit=>decide (x.1.t.length<=1000000)) (fun x:Lin×Str×Int×Unit=>Wh x.1 x.2.1 x.2.2.1):=Fe Ee
theorem MZ:ZC Tryz.prog 144 (fun _:Int×Unit=>true) (fun x:Int×Unit=>Z5 x.1):=ZC.of (T:=a1w) (ic:=Rn) (rs:=Rw) Zo Ye Tryz.func144 (by kernel_rfl) (by kernel_rfl) (by kernel_rfl) a5t
theorem JO:ZC Tryz.prog 119 (fun x:Str×Unit=>decide (x.1.s.length<=1000000)) (fun x:Str×Unit=>Zq x.1):=ZC.of (T:=XK) (ic:=Y7) (rs:=Xa) (Zb (YE Tryz.func152 (by kernel_rfl) V5) (Zb (YE Tryz.func182 (by kernel_rfl) AX) (Zb (YE Tryz.func76 (by kernel_rfl) TT) Zo))) Ye Tryz.func119 (by kernel_rfl) (by kernel_rfl) (by kernel_rfl) MI
theorem Xv:ZC Tryz.prog 73 (fun x:Lin×Unit=>Zt x.1) (fun x:Lin×Unit=>Zh x.1):=ZC.of (T:=X7) (ic:=Xn) (rs:=Xt) (Zb (YE Tryz.func144 (by kernel_rfl) MZ) (Zb (YE Tryz.func119 (by kernel_rfl) JO) Zo)) Ye Tryz.func73 (by kernel_rfl) (by kernel_rfl) (by kernel_rfl) Rp
theorem Dc:Yp Tryz.prog YV:=(Zb (YE Tryz.func154 (by kernel_rfl) SG) (Zb (YE Tryz.func73 (by kernel_rfl) Xv) Zo))
theorem Ca{cd:Code}(h:JH Tryz.prog LG Tryz.f82 0=some cd):KC Tryz.prog cd=some TJ:=by
 have:(JH Tryz.prog LG Tryz.f82 0).bind (KC Tryz.prog)=some TJ:=by kernel_rfl
 rw[h]at this
 exact this
theorem a5k(args:List AV)(os:List AObj)(h:YI args os=true)(c:Ctx)(hk : ∀ i m,os.length<=i->c.μ0 i m=none):F8 (UO Dc Ye) (fun n cd=>JH Tryz.prog LG Tryz.f82 n=some cd) Bq c:=by
 rintro n cd hcd st a w q hr ⟨rfl,hE⟩
 have h2:os.length=2:=by
  unfold YI at h
  split at h
  ·rfl
  ·cases h
 rw[h2]at hk
 exact Nn Dc Ye (Ca hcd) hk hr hE
theorem a4r:ZV Tryz.prog 82 YI Ug:=a5x (T:=YV) (ic:=YA) (rs:=YG) (E:=Bq) (sel:=LG) Dc Ye Tryz.func82 (by kernel_rfl) (by kernel_rfl) (by kernel_rfl) a5k Ew EO
theorem Ei:ZV Tryz.prog 82 YI KZ:=a3b a4r
theorem OD:ZV Tryz.prog 114 WJ KN:=Va (T:=U7) (ic:=VL) (rs:=VM) Zo Ye Tryz.func114 (by kernel_rfl) (by kernel_rfl) (by kernel_rfl) a4n
theorem AR:ZC Tryz.prog 111 (fun x:Lin×Lin×Int×Unit=>Zt x.1&&Zt x.2.1) (fun x:Lin×Lin×Int×Unit=>Yw x.1 x.2.1 x.2.2.1):=ZC.of (T:=K9) (ic:=QS) (rs:=QY) (Zb (YE Tryz.func73 (by kernel_rfl) Xv) (Zb (YE Tryz.func114 (by kernel_rfl) OD) (Zb (YE Tryz.func82 (by kernel_rfl) Ei) Zo))) Ye Tryz.func111 (by kernel_rfl) (by kernel_rfl) (by kernel_rfl) Sd
theorem Fw:ZC Tryz.prog 39 (fun x:Lin×Lin×Unit=>Zt x.1&&Zt x.2.1) (fun x:Lin×Lin×Unit=>Yw x.1 x.2.1 1):=ZC.of (T:=Ar) (ic:=Gq) (rs:=Df) (Zb (YE Tryz.func111 (by kernel_rfl) AR) Zo) Ye Tryz.func39 (by kernel_rfl) (by kernel_rfl) (by kernel_rfl) MX
end Go.Proofs.YtjfgiaooglnomaaGreatDoor

namespace Go.Proofs.YtjfgiaooglnomaaGreatDoor
open Go.Pl
open Enc (enc dec is)
open EncL (encL decL isL)
set_option maxRecDepth 100000
end Go.Proofs.YtjfgiaooglnomaaGreatDoor

namespace Go.Proofs.YtjfgiaooglnomaaGreatDoor
open Go.Pl
open Enc (enc dec is)
open EncL (encL decL isL)
set_option maxRecDepth 100000
theorem G7:ZC Tryz.prog 85 (fun x:Lin×Lin×Unit=>Zy x.1) (fun x:Lin×Lin×Unit=>UQ x.1 x.2.1):=ZC.of (T:=Qb) (ic:=VQ) (rs:=VO) Zo Ye Tryz.func85 (by kernel_rfl) (by kernel_rfl) (by kernel_rfl) Eh
theorem BV:ZC Tryz.prog 21 (fun x:Lin×Lin×Unit=>Zy x.1) (fun x:Lin×Lin×Unit=>UQ x.1 x.2.1==0):=ZC.of (T:=a0s) (ic:=PN) (rs:=Rz) (Zb (YE Tryz.func85 (by kernel_rfl) G7) Zo) Ye Tryz.func21 (by kernel_rfl) (by kernel_rfl) (by kernel_rfl) a2c
end Go.Proofs.YtjfgiaooglnomaaGreatDoor

namespace Go.Proofs.YtjfgiaooglnomaaGreatDoor
open Go.Shelf
def Tryz.lays102_ren:Go.Shelf.Ren:=⟨fun|102=>77|209=>147|207=>215|n=>n,fun|9=>9|4=>4|3=>3|n=>n,fun|n=>n⟩
theorem Tryz.lays102:Go.Proofs.Lays.n102 Tryz.prog Tryz.lays102_ren:={
 mixed:=by kernel_rfl
 f102:=Tryz.func77.trans (congrArg some (by kernel_rfl))
 f207:=Tryz.func215.trans (congrArg some (by kernel_rfl))
 f209:=Tryz.func147.trans (congrArg some (by kernel_rfl))
 t3:=Tryz.underlying3
 a3:=Tryz.isAgg3
 z3:=Tryz.sizeOf3
 v3:=Tryz.zeroValue3
 t4:=Tryz.underlying4
 a4:=Tryz.isAgg4
 z4:=Tryz.sizeOf4
 v4:=Tryz.zeroValue4
 t9:=Tryz.underlying9
 a9:=Tryz.isAgg9
 z9:=Tryz.sizeOf9
 v9:=Tryz.zeroValue9}
def Tryz.lays161_ren:Go.Shelf.Ren:=⟨fun|161=>151|231=>217|227=>218|233=>219|235=>220|228=>264|197=>265|151=>266|260=>291|152=>292|137=>303|119=>304|224=>305|225=>306|217=>310|266=>311|n=>n,fun|9=>9|4=>4|3=>3|5=>5|117=>240|116=>239|0=>0|124=>243|105=>277|21=>21|119=>315|46=>171|139=>318|138=>317|n=>n,fun|3=>4|4=>5|n=>n⟩
theorem Tryz.lays161:Go.Proofs.Lays.n161 Tryz.prog Tryz.lays161_ren:={
 mixed:=by kernel_rfl
 f119:=Tryz.func304.trans (congrArg some (by kernel_rfl))
 f137:=Tryz.func303.trans (congrArg some (by kernel_rfl))
 f151:=Tryz.func266.trans (congrArg some (by kernel_rfl))
 f152:=Tryz.func292.trans (congrArg some (by kernel_rfl))
 f161:=Tryz.func151.trans (congrArg some (by kernel_rfl))
 f197:=Tryz.func265.trans (congrArg some (by kernel_rfl))
 f217:=Tryz.func310.trans (congrArg some (by kernel_rfl))
 f224:=Tryz.func305.trans (congrArg some (by kernel_rfl))
 f225:=Tryz.func306.trans (congrArg some (by kernel_rfl))
 f227:=Tryz.func218.trans (congrArg some (by kernel_rfl))
 f228:=Tryz.func264.trans (congrArg some (by kernel_rfl))
 f231:=Tryz.func217.trans (congrArg some (by kernel_rfl))
 f233:=Tryz.func219.trans (congrArg some (by kernel_rfl))
 f235:=Tryz.func220.trans (congrArg some (by kernel_rfl))
 f260:=Tryz.func291.trans (congrArg some (by kernel_rfl))
 f266:=Tryz.func311.trans (congrArg some (by kernel_rfl))
 t0:=Tryz.underlying0
 a0:=Tryz.isAgg0
 z0:=Tryz.sizeOf0
 v0:=Tryz.zeroValue0
 t3:=Tryz.underlying3
 a3:=Tryz.isAgg3
 z3:=Tryz.sizeOf3
 v3:=Tryz.zeroValue3
 t4:=Tryz.underlying4
 a4:=Tryz.isAgg4
 z4:=Tryz.sizeOf4
 v4:=Tryz.zeroValue4
 t5:=Tryz.underlying5
 a5:=Tryz.isAgg5
 z5:=Tryz.sizeOf5
 v5:=Tryz.zeroValue5
 t9:=Tryz.underlying9
 a9:=Tryz.isAgg9
 z9:=Tryz.sizeOf9
 v9:=Tryz.zeroValue9
 t21:=Tryz.underlying21
 a21:=Tryz.isAgg21
 z21:=Tryz.sizeOf21
 v21:=Tryz.zeroValue21
 t46:=Tryz.underlying171
 a46:=Tryz.isAgg171
 z46:=Tryz.sizeOf171
 v46:=Tryz.zeroValue171
 t105:=Tryz.underlying277
 a105:=Tryz.isAgg277
 z105:=Tryz.sizeOf277
 v105:=Tryz.zeroValue277
 t116:=Tryz.underlying239
 a116:=Tryz.isAgg239
 z116:=Tryz.sizeOf239
 t117:=Tryz.underlying240
 a117:=Tryz.isAgg240
 z117:=Tryz.sizeOf240
 v117:=Tryz.zeroValue240
 t119:=Tryz.underlying315
 a119:=Tryz.isAgg315
 z119:=Tryz.sizeOf315
 t124:=Tryz.underlying243
 a124:=Tryz.isAgg243
 z124:=Tryz.sizeOf243
 v124:=Tryz.zeroValue243
 t138:=Tryz.underlying317
 a138:=Tryz.isAgg317
 z138:=Tryz.sizeOf317
 v138:=Tryz.zeroValue317
 t139:=Tryz.underlying318
 a139:=Tryz.isAgg318
 z139:=Tryz.sizeOf318
 v139:=Tryz.zeroValue318
 g3:=by kernel_rfl
 g4:=by kernel_rfl}
def Tryz.lays106_ren:Go.Shelf.Ren:=⟨fun|106=>212|213=>259|265=>286|n=>n,fun|9=>9|3=>3|n=>n,fun|n=>n⟩
theorem Tryz.lays106:Go.Proofs.Lays.n106 Tryz.prog Tryz.lays106_ren:={
 mixed:=by kernel_rfl
 f106:=Tryz.func212.trans (congrArg some (by kernel_rfl))
 f213:=Tryz.func259.trans (congrArg some (by kernel_rfl))
 f265:=Tryz.func286.trans (congrArg some (by kernel_rfl))
 t3:=Tryz.underlying3
 a3:=Tryz.isAgg3
 z3:=Tryz.sizeOf3
 v3:=Tryz.zeroValue3
 t9:=Tryz.underlying9
 a9:=Tryz.isAgg9
 z9:=Tryz.sizeOf9
 v9:=Tryz.zeroValue9}
end Go.Proofs.YtjfgiaooglnomaaGreatDoor

namespace Go.Proofs.YtjfgiaooglnomaaGreatDoor
open Go.Pl Go.RowKit
open Enc (enc dec is)
open EncL (encL decL isL)
set_option maxRecDepth 100000
theorem Re(s:List UInt8):Lib.trimLeftB s 32=Za s:=rfl
theorem Kq:ZC Tryz.prog 151 (fun x:Str×Str×Unit=>decide (x.2.1=⟨[32]⟩)) (fun x:Str×Str×Unit=>(⟨Za x.1.s⟩:Str)):=Xd (by
  rintro⟨⟨s⟩,⟨p⟩,⟨⟩⟩ hps Φ w vs hL hΦ hv
  obtain⟨u,v,rfl,h1,h2⟩:=a4v hv
  have hp:p=[32]:=by
   have:(⟨p⟩:Str)=⟨[32]⟩:=of_decide_eq_true hps
   cases this;rfl
  subst hp
  rw[Ut h1,Ut h2]
  refine(Any.strings_TrimLeft_one Tryz.lays161 ⟨s.toArray⟩ 32 (by decide) w).mono ?_
  rintro e w' ⟨rfl,rfl⟩
  rw[show(⟨s.toArray⟩:ByteArray).data.toList=s from rfl,Re]
  exact⟨_,rfl,.str _,.refl _ _⟩)
theorem Gj:ZC Tryz.prog 77 (fun x:Str×Str×Unit=>decide (x.1.s.length<=1000000)) (fun x:Str×Str×Unit=>(⟨Lib.trimSuffix x.1.s x.2.1.s⟩:Str)):=Xd (by
  rintro⟨⟨s⟩,⟨p⟩,⟨⟩⟩ hps Φ w vs hL hΦ hv
  have hs:s.length<=1000000:=by simpa using hps
  obtain⟨u,v,rfl,h1,h2⟩:=a4v hv
  rw[Ut h1,Ut h2]
  have hsz:(⟨s.toArray⟩:ByteArray).size=s.length:=rfl
  refine(Any.strings_TrimSuffix Tryz.lays102 ⟨s.toArray⟩ ⟨p.toArray⟩ w (by rw[hsz];omega)).mono ?_
  rintro e w' ⟨rfl,rfl⟩
  exact⟨_,rfl,.str _,.refl _ _⟩)
theorem Tp:ZC Tryz.prog 212 (fun _:Str×Str×Unit=>true) (fun x:Str×Str×Unit=>Lib.compareBytes x.1.s x.2.1.s):=Xd (by
  rintro⟨⟨s⟩,⟨p⟩,⟨⟩⟩ hps Φ w vs hL hΦ hv
  obtain⟨u,v,rfl,h1,h2⟩:=a4v hv
  rw[Ut h1,Ut h2]
  refine(Any.strings_Compare Tryz.lays106 ⟨s.toArray⟩ ⟨p.toArray⟩ w).mono ?_
  rintro e w' ⟨rfl,rfl⟩
  exact⟨_,rfl,.int _ _,.refl _ _⟩)
end Go.Proofs.YtjfgiaooglnomaaGreatDoor

namespace Go.Proofs.YtjfgiaooglnomaaGreatDoor
open Go.Pl
open Enc (enc dec is)
open EncL (encL decL isL)
set_option maxRecDepth 100000
theorem UJ:ZC Tryz.prog 148 (fun _:UInt8×Unit=>true) (fun x:UInt8×Unit=>digB x.1):=ZC.of (T:=RS) (ic:=Bb) (rs:=BX) Zo Ye Tryz.func148 (by kernel_rfl) (by kernel_rfl) (by kernel_rfl) FX
theorem QQ:ZC Tryz.prog 153 (fun _:UInt8×Unit=>true) (fun x:UInt8×Unit=>Zv x.1):=ZC.of (T:=HZ) (ic:=Jz) (rs:=Jf) (Zb (YE Tryz.func148 (by kernel_rfl) UJ) Zo) Ye Tryz.func153 (by kernel_rfl) (by kernel_rfl) (by kernel_rfl) Pz
theorem D7:ZV Tryz.prog 80 ZN UW:=Va (T:=Dj) (ic:=Jg) (rs:=Jv) (Zb (YE Tryz.func151 (by kernel_rfl) Kq) Zo) Ye Tryz.func80 (by kernel_rfl) (by kernel_rfl) (by kernel_rfl) Pn
theorem a0g:ZV Tryz.prog 216 (Y6 148) (Cg digB):=Va (T:=Uy) (ic:=WS) (rs:=Vr) (Zb (YE Tryz.func148 (by kernel_rfl) UJ) Zo) Ye Tryz.func216 (by kernel_rfl) (by kernel_rfl) (by kernel_rfl) Fu
theorem FN:ZV Tryz.prog 216 (Y6 153) (Cg Zv):=Va (T:=UK) (ic:=VC) (rs:=VA) (Zb (YE Tryz.func153 (by kernel_rfl) QQ) Zo) Ye Tryz.func216 (by kernel_rfl) (by kernel_rfl) (by kernel_rfl) MP
theorem MV:ZV Tryz.prog 150 ZN Uz:=Va (T:=GR) (ic:=Jq) (rs:=Ja) (Zb (YE Tryz.func216 (by kernel_rfl) a0g) (Zb (YE Tryz.func182 (by kernel_rfl) AX) Zo)) Ye Tryz.func150 (by kernel_rfl) (by kernel_rfl) (by kernel_rfl) Po
theorem TR:ZV Tryz.prog 149 ZN UU:=Va (T:=Q3) (ic:=Qc) (rs:=Qa) (Zb (YE Tryz.func216 (by kernel_rfl) FN) (Zb (YE Tryz.func119 (by kernel_rfl) JO) Zo)) Ye Tryz.func149 (by kernel_rfl) (by kernel_rfl) (by kernel_rfl) BH
theorem a5q:ZV Tryz.prog 81 ZN KI:=Va (T:=UC) (ic:=Vk) (rs:=Vg) (Zb (YE Tryz.func152 (by kernel_rfl) V5) Zo) Ye Tryz.func81 (by kernel_rfl) (by kernel_rfl) (by kernel_rfl) OO
theorem a5l:ZV Tryz.prog 79 Qz Kt:=Va (T:=G6) (ic:=Hd) (rs:=KM) (Zb (YE Tryz.func148 (by kernel_rfl) UJ) (Zb (YE Tryz.func149 (by kernel_rfl) TR) (Zb (YE Tryz.func150 (by kernel_rfl) MV) (Zb (YE Tryz.func151 (by kernel_rfl) Kq) (Zb (YE Tryz.func152 (by kernel_rfl) V5) (Zb (YE Tryz.func80 (by kernel_rfl) D7) (Zb (YE Tryz.func153 (by kernel_rfl) QQ) Zo))))))) Ye Tryz.func79 (by kernel_rfl) (by kernel_rfl) (by kernel_rfl) EJ
theorem Gm:Yp Tryz.prog YU:=(Zb (YE Tryz.func154 (by kernel_rfl) SG) (Zb (YE Tryz.func73 (by kernel_rfl) Xv) Zo))
theorem a0x(args:List AV)(os:List AObj)(h:YR args os=true)(c:Ctx)(hk : ∀ i m,os.length<=i->c.μ0 i m=none):F8 (UO Gm Ye) (fun n cd=>JH Tryz.prog LG Tryz.f82 n=some cd) KL c:=by
 rintro n cd hcd st a w q hr ⟨rfl,hE⟩
 have h2:os.length=2:=by
  unfold YR at h
  split at h
  ·rfl
  ·cases h
 rw[h2]at hk
 exact Nn Gm Ye (Ca hcd) hk hr hE
theorem a4i:ZV Tryz.prog 82 YR Ul:=a5x (T:=YU) (ic:=YH) (rs:=YJ) (E:=KL) (sel:=LG) Gm Ye Tryz.func82 (by kernel_rfl) (by kernel_rfl) (by kernel_rfl) a0x Oq a1r
theorem a4w:ZV Tryz.prog 82 YR KS:=EW a4i
theorem JM:ZC Tryz.prog 19 (fun x:Str×Unit=>decide (x.1.s.length<=400000)) (fun x:Str×Unit=>Zm x.1.s):=ZC.of (T:=UI) (ic:=VE) (rs:=Vo) (Zb (YE Tryz.func80 (by kernel_rfl) D7) (Zb (YE Tryz.func81 (by kernel_rfl) a5q) (Zb (YE Tryz.func79 (by kernel_rfl) a5l) (Zb (YE Tryz.func82 (by kernel_rfl) a4w) Zo)))) Ye Tryz.func19 (by kernel_rfl) (by kernel_rfl) (by kernel_rfl) Mw
theorem C8:ZC Tryz.prog 213 (fun _:Int×Int×Unit=>true) (fun x:Int×Int×Unit=>U3 x.1 x.2.1):=ZC.of (T:=Ku) (ic:=Jp) (rs:=Qo) Zo Ye Tryz.func213 (by kernel_rfl) (by kernel_rfl) (by kernel_rfl) Pb
theorem a0f:ZC Tryz.prog 211 (fun _:Coef×Coef×Unit=>true) (fun x:Coef×Coef×Unit=>DR x.1 x.2.1):=ZC.of (T:=J4) (ic:=Dv) (rs:=Kl) (Zb (YE Tryz.func212 (by kernel_rfl) Tp) (Zb (YE Tryz.func213 (by kernel_rfl) C8) Zo)) Ye Tryz.func211 (by kernel_rfl) (by kernel_rfl) (by kernel_rfl) MJ
theorem Ol:ZC Tryz.prog 210 (fun x:List Coef×List Coef×FnV 211×Unit=>decide (x.1.length<=9223372036854775807)&&decide (x.2.1.length<=9223372036854775807)) (fun x:List Coef×List Coef×FnV 211×Unit=>WU x.1 x.2.1):=ZC.of (T:=UM) (ic:=Vt) (rs:=Vv) (Zb (YE Tryz.func211 (by kernel_rfl) a0f) Zo) Ye Tryz.func210 (by kernel_rfl) (by kernel_rfl) (by kernel_rfl) M8
theorem DY:ZC Tryz.prog 145 (fun x:Lin×Lin×Unit=>Zy x.1&&Zy x.2.1) (fun x:Lin×Lin×Unit=>VG x.1 x.2.1):=ZC.of (T:=Aj) (ic:=BF) (rs:=Hm) (Zb (YE Tryz.func210 (by kernel_rfl) Ol) (Zb (YE Tryz.func213 (by kernel_rfl) C8) Zo)) Ye Tryz.func145 (by kernel_rfl) (by kernel_rfl) (by kernel_rfl) EQ
theorem AL:ZC Tryz.prog 74 (fun x:Lin×Lin×Unit=>Zy x.1&&Zy x.2.1) (fun x:Lin×Lin×Unit=>VG x.1 x.2.1==0):=ZC.of (T:=a1f) (ic:=Px) (rs:=RJ) (Zb (YE Tryz.func145 (by kernel_rfl) DY) Zo) Ye Tryz.func74 (by kernel_rfl) (by kernel_rfl) (by kernel_rfl) a3s
theorem a4p:ZV Tryz.prog 75 Xj Kv:=Va (T:=Pm) (ic:=Be) (rs:=Bu) (Zb (YE Tryz.func76 (by kernel_rfl) TT) (Zb (YE Tryz.func77 (by kernel_rfl) Gj) Zo)) Ye Tryz.func75 (by kernel_rfl) (by kernel_rfl) (by kernel_rfl) a1b
theorem JB:ZC Tryz.prog 17 (fun x:Lin×Unit=>Zt x.1) (fun x:Lin×Unit=>(⟨Zw x.1⟩:Str)):=ZC.of (T:=WQ) (ic:=WC) (rs:=XZ) (Zb (YE Tryz.func73 (by kernel_rfl) Xv) (Zb (YE Tryz.func75 (by kernel_rfl) a4p) Zo)) Ye Tryz.func17 (by kernel_rfl) (by kernel_rfl) (by kernel_rfl) Pd
theorem b0d:ZV Tryz.prog 113 GI Ai:=Va (T:=RV) (ic:=Bw) (rs:=Ay) Zo Ye Tryz.func113 (by kernel_rfl) (by kernel_rfl) (by kernel_rfl) O6
theorem a7b:ZV Tryz.prog 112 (Qx 113) Hf:=Va (T:=Gx) (ic:=Q7) (rs:=QU) (Zb (YE Tryz.func113 (by kernel_rfl) b0d) Zo) Ye Tryz.func112 (by kernel_rfl) (by kernel_rfl) (by kernel_rfl) a4d
theorem SC:ZC Tryz.prog 42 (fun x:Lin×List Bnd×Unit=>Zt x.1&&Jn x.2.1) (fun x:Lin×List Bnd×Unit=>UR x.1 x.2.1):=ZC.of (T:=Vf) (ic:=WT) (rs:=Wi) (Zb (YE Tryz.func73 (by kernel_rfl) Xv) (Zb (YE Tryz.func112 (by kernel_rfl) a7b) (Zb (YE Tryz.func114 (by kernel_rfl) OD) (Zb (YE Tryz.func82 (by kernel_rfl) Ei) Zo)))) Ye Tryz.func42 (by kernel_rfl) (by kernel_rfl) (by kernel_rfl) LZ
theorem Pk:ZC Tryz.prog 15 (fun _:Unit=>true) (fun _:Unit=>true):=ZC.of (T:=H5) (ic:=K8) (rs:=K5) (Zb (YE Tryz.func19 (by kernel_rfl) JM) (Zb (YE Tryz.func39 (by kernel_rfl) Fw) (Zb (YE Tryz.func42 (by kernel_rfl) SC) (Zb (YE Tryz.func17 (by kernel_rfl) JB) (Zb (YE Tryz.func73 (by kernel_rfl) Xv) (Zb (YE Tryz.func74 (by kernel_rfl) AL) Zo)))))) Ye Tryz.func15 (by kernel_rfl) (by kernel_rfl) (by kernel_rfl) PP
theorem GH:ZC Tryz.prog 90 (fun x:Lin×Unit=>Zy x.1) (fun x:Lin×Unit=>VI x.1):=ZC.of (T:=UB) (ic:=Qf) (rs:=VJ) (Zb (YE Tryz.func20 (by kernel_rfl) UV) Zo) Ye Tryz.func90 (by kernel_rfl) (by kernel_rfl) (by kernel_rfl) Bo
end Go.Proofs.YtjfgiaooglnomaaGreatDoor

namespace Go.Proofs.YtjfgiaooglnomaaGreatDoor
open Go.Pl
open Enc (enc dec is)
open EncL (encL decL isL)
set_option maxRecDepth 100000
theorem TS:ZC Tryz.prog 78 (fun x:Int×Unit=>decide (-1000000000<=x.1)&&decide (x.1<=1000000000)) (fun x:Int×Unit=>ZB x.1):=ZC.rec (fun a=>PY a.1) fun N hN=>ZC.of (T:=Av N) (ic:=GJ) (rs:=Dq) (Zb (YE Tryz.func78 (by kernel_rfl) hN) Zo) Ye Tryz.func78 (by kernel_rfl) (by kernel_rfl) (by kernel_rfl) (LX N)
theorem H9:ZV Tryz.prog 86 Ya VN:=Va (T:=Wy) (ic:=XO) (rs:=XQ) Zo Ye Tryz.func86 (by kernel_rfl) (by kernel_rfl) (by kernel_rfl) AZ
theorem Ez:ZV Tryz.prog 87 Yy Hg:=Va (T:=a0n) (ic:=Pj) (rs:=Ru) Zo Ye Tryz.func87 (by kernel_rfl) (by kernel_rfl) (by kernel_rfl) a3g
theorem a5d:ZV Tryz.prog 157 YF Km:=Va (T:=VV) (ic:=WF) (rs:=WK) (Zb (YE Tryz.func155 (by kernel_rfl) UF) (Zb (YE Tryz.func156 (by kernel_rfl) VU) Zo)) Ye Tryz.func157 (by kernel_rfl) (by kernel_rfl) (by kernel_rfl) Ej
theorem En:ZV Tryz.prog 88 Ya Qr:=Va (T:=Vd) (ic:=X5) (rs:=X6) (Zb (YE Tryz.func157 (by kernel_rfl) a5d) (Zb (YE Tryz.func84 (by kernel_rfl) JI) (Zb (YE Tryz.func156 (by kernel_rfl) VU) (Zb (YE Tryz.func155 (by kernel_rfl) UF) (Zb (YE Tryz.func86 (by kernel_rfl) H9) (Zb (YE Tryz.func87 (by kernel_rfl) Ez) Zo)))))) Ye Tryz.func88 (by kernel_rfl) (by kernel_rfl) (by kernel_rfl) Fa
theorem Bl:ZC Tryz.prog 22 (fun x:Str×Unit=>decide (x.1.s.length<=400000)) (fun x:Str×Unit=>Zm x.1.s):=ZC.of (T:=Yq) (ic:=Z9) (rs:=Z8) (Zb (YE Tryz.func86 (by kernel_rfl) H9) (Zb (YE Tryz.func87 (by kernel_rfl) Ez) (Zb (YE Tryz.func88 (by kernel_rfl) En) (Zb (YE Tryz.func89 (by kernel_rfl) SX) (Zb (YE Tryz.func90 (by kernel_rfl) GH) Zo))))) Ye Tryz.func22 (by kernel_rfl) (by kernel_rfl) (by kernel_rfl) RF
theorem Au:ZC Tryz.prog 18 (fun x:Lin×Unit=>Zt x.1) (fun x:Lin×Unit=>(⟨Zw x.1⟩:Str)):=ZC.of (T:=YM) (ic:=Ym) (rs:=Yl) (Zb (YE Tryz.func20 (by kernel_rfl) UV) (Zb (YE Tryz.func78 (by kernel_rfl) TS) Zo)) Ye Tryz.func18 (by kernel_rfl) (by kernel_rfl) (by kernel_rfl) Rv
theorem E8:ZC Tryz.prog 3 (fun x:Lin×Str×Unit=>Zy x.1) (fun _:Lin×Str×Unit=>true):=ZC.of (T:=Ho) (ic:=Ki) (rs:=KY) (Zb (YE Tryz.func15 (by kernel_rfl) Pk) (Zb (YE Tryz.func16 (by kernel_rfl) PD) (Zb (YE Tryz.func17 (by kernel_rfl) JB) (Zb (YE Tryz.func18 (by kernel_rfl) Au) (Zb (YE Tryz.func19 (by kernel_rfl) JM) (Zb (YE Tryz.func20 (by kernel_rfl) UV) (Zb (YE Tryz.func21 (by kernel_rfl) BV) (Zb (YE Tryz.func22 (by kernel_rfl) Bl) Zo)))))))) Ye Tryz.func3 (by kernel_rfl) (by kernel_rfl) (by kernel_rfl) MB
end Go.Proofs.YtjfgiaooglnomaaGreatDoor

namespace Go.Proofs.YtjfgiaooglnomaaGreatDoor
open Go.Pl
open Enc (enc dec is)
open EncL (encL decL isL)
set_option maxRecDepth 100000
theorem NM:Tryz.prog.underlying 3=some (.int .i64):=by kernel_rfl
theorem NG:Tryz.prog.underlying 9=some .string:=by kernel_rfl
theorem OU:Tryz.prog.underlying 22=some (.slice 61):=by kernel_rfl
theorem NR:Tryz.prog.cellsOf 3=1:=by kernel_rfl
theorem a5j:Tryz.prog.cellsOf 9=1:=by kernel_rfl
theorem a0d:Tryz.prog.cellsOf 22=1:=by kernel_rfl
theorem TD:Tryz.prog.cellsOf 61=2:=by kernel_rfl
theorem TQ:Tryz.prog.cellsOf 24=2:=by kernel_rfl
theorem a7k:YT Tryz.prog 61=true:=by kernel_rfl
theorem a7g:YT Tryz.prog 24=true:=by kernel_rfl
theorem Ey:He Tryz.prog 61=some [(0,9),(1,3)]:=by kernel_rfl
theorem Tk:He Tryz.prog 24=some [(0,3),(1,22)]:=by kernel_rfl
theorem Me{α:Type}[Enc α]{P:α->Prop}{f:List PV->PV}: ∀ {qs:List (List PV)},(∀ q∈qs,∃ a:α,f q=enc a∧P a)-> ∃ l:List α,qs.map f=l.map enc∧ ∀ a∈l,P a
 | [],_=>⟨[],rfl,fun a h=>by cases h⟩
 | q::qs,h=>by
  obtain⟨a,h1,h2⟩:=h q (by simp)
  obtain⟨l,h3,h4⟩:=Me (qs:=qs) fun r hr=>h r (by simp[hr])
  refine⟨a::l,by rw[List.map_cons,List.map_cons,h1,h3],fun b hb=> ?_⟩
  rcases List.mem_cons.1 hb with rfl|hb
  ·exact h2
  ·exact h4 b hb
theorem a1s{α:Type}[Enc α]{f:List PV->PV}{qs:List (List PV)}{l:List α}(h:qs.map f=l.map enc):l.length=qs.length:=by
 have:=congrArg List.length h
 simpa using this.symm
theorem a2n{n:Nat}{q:List PV}(h:XD Tryz.prog n 61 q): ∃ t:Coef,JV Tryz.prog 61 q=enc t∧True:=by
 obtain⟨m,_,hl,h0,h1,_⟩:=U1 Ey TD h
 match q,hl with
 | [a,b],_=>
  rw[a5j]at h0
  rw[NR]at h1
  obtain⟨o,e0,w0⟩:=SI NG h0
  obtain⟨k,e1,w1⟩:=SA NM h1
  simp at e0 e1
  subst e0 e1
  exact⟨⟨⟨o⟩,k⟩,by rw[JV,a7k];rfl,trivial⟩
theorem a2v{n:Nat}{q:List PV}(h:XD Tryz.prog n 22 q): ∃ l:List Coef,q=[enc l]∧l.length<=9223372036854775807:=by
 obtain⟨m,_,qs,rfl,hl,hq⟩:=R5 OU TD h
 obtain⟨l,e,_⟩:=Me (α:=Coef) (P:=fun _=>True) (f:=JV Tryz.prog 61) fun x hx=>a2n (hq x hx).2
 have hl:qs.length<=9223372036854775807:=hl
 exact⟨l,by rw[e];rfl,by rw[a1s e];exact hl⟩
theorem a2r{n:Nat}{a b:PV}(h:XD Tryz.prog n 24 [a,b]): ∃ l:Lin,a=enc l.k∧b=enc l.t∧Zy l=true:=by
 obtain⟨m,_,hl,h0,h1,_⟩:=U1 Tk TQ h
 rw[NR]at h0
 rw[a0d]at h1
 obtain⟨o,e0,w0⟩:=SA NM h0
 obtain⟨t,e1,l1⟩:=a2v h1
 simp at e0 e1
 subst e0 e1
 exact⟨⟨o,t⟩,rfl,rfl,by simp only[Zy];exact decide_eq_true l1⟩
theorem Eb{n:Nat}{q:List PV}(h:XD Tryz.prog n 24 q): ∃ l:Lin,JV Tryz.prog 24 q=enc l∧Zy l=true:=by
 obtain⟨m,_,hl,_⟩:=U1 Tk TQ h
 match q,hl with
 | [a,b],_=>
  obtain⟨l,rfl,rfl,h2⟩:=a2r h
  exact⟨l,by rw[JV,a7g];rfl,h2⟩
end Go.Proofs.YtjfgiaooglnomaaGreatDoor

namespace Go.Proofs.YtjfgiaooglnomaaGreatDoor
open Go.Pl
open Enc (enc dec is)
open EncL (encL decL isL)
set_option maxRecDepth 100000
theorem OL:YT Tryz.prog 9=false:=by kernel_rfl
theorem Pi{n0 n1:Nat}{q0 q1:List PV}(h0:XD Tryz.prog n0 24 q0)(h1:XD Tryz.prog n1 9 q1):
  preT (fun x:Lin×Str×Unit=>Zy x.1) [JV Tryz.prog 24 q0,JV Tryz.prog 9 q1]=true:=by
 obtain⟨a,e0,a1⟩:=Eb h0
 obtain⟨s,rfl,_⟩:=SI NG h1
 have e1:JV Tryz.prog 9 [.str s]=enc (⟨s⟩:Str):=by rw[JV,OL];rfl
 rw[e0,e1]
 exact Zn (a,⟨s⟩,()) rfl a1
end Go.Proofs.YtjfgiaooglnomaaGreatDoor

