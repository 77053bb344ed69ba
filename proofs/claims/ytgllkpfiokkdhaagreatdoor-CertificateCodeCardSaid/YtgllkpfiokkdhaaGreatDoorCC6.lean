/-
  Texts of mine that belong together (packed by pack.py), for every input: Post, PlGl, LaidY, Sh, ShB, OkCe, OkN, OkR, ShC, ShD, Ok4, OkWi, OkCc, OpY, OpWi, OpCc.
-/
import Derived.Test.YtgllkpfiokkdhaaGreatDoorChecked
import Derived.Test.YtgllkpfiokkdhaaGreatDoorRows
import Derived.Test.YtgllkpfiokkdhaaGreatDoorCC2
import Derived.Test.YtgllkpfiokkdhaaGreatDoorCC3
import Derived.Test.YtgllkpfiokkdhaaGreatDoorCC4
import Derived.Test.YtgllkpfiokkdhaaGreatDoorCC5
import Derived.Below
import Derived.ChangeSame
import Derived.ChangeShapes
import Derived.ChangeSlices
import Derived.WideShapes
import Derived.RowKit
import Derived.Stop.LaidErr
import Derived.Lib.LaidTab
import Derived.Shelf.Strconv.AtoiAll
import Derived.Shelf.Strconv.Itoa3
import Derived.Shelf.Strings.Prefix
import Derived.Shelf.Sort.Plain
import Derived.Shelf.Small.Strs
import Derived.Shelf.Slices.In.SortNone
import Derived.KernelRfl
import Derived.Shelf.Strings.Trim
set_option linter.unusedVariables false
set_option linter.unusedSimpArgs false
namespace Go.Proofs.YtgllkpfiokkdhaaGreatDoor
open Go.RowKit Go.WideShapes Go.ChangeShapes
section
variable {H:Type} {enc:TypeId×Value->H} {P:Program}
theorem Ni{f:Func}{s:ChangeSpec}{apart fresh handsOn again:Bool}{W W':World}{args:Array Value}{v:Value}{ds gs:List (DataW H)}{before pa pv:List MemPlace}
  (hW:DataW.Whole enc P f.params.toList s.vars apart W args.toList ds gs before)
  (hres : ∀ (b:Nat) (sp:Nat->Bool) (hd:Bool),DataW.TrodAll enc P W' b sp hd f.resultTypes.toList (v.resultList f.resultTypes.size) (s.fn H (ds++gs)).results [])
  (hargs : ∀ sp:Nat->Bool,(∀ p∈before,sp p.block=true)->DataW.TrodAll enc P W' 0 sp true f.params.toList args.toList (s.fn H (ds++gs)).args pa)
  (hvars : ∀ sp:Nat->Bool,(∀ p∈before,sp p.block=true)->DataW.TrodVars enc P W' sp s.vars (s.fn H (ds++gs)).vars pv)
  (hps:before=pa++pv) (hb:Below W.heap.size W W')
  (hok : ∀ (j:Nat) (t:TypeId) (r:Value),f.resultTypes[j]? = some t->(v.resultList f.resultTypes.size)[j]? = some r->Value.okWide P W' .any 0 t r) :
  s.post enc P f apart fresh handsOn again W args v W':=by
 have hlt : ∀ p∈before,p.block<W.heap.size:=fun p hp=>hW.lt p hp
 have hold : ∀ p∈before,(fun b=>decide (b<W.heap.size)) p.block=true:=fun p hp=>by simpa using hlt p hp
 refine⟨ds,gs,before,[],pa,pv,hW,hres _ _ _,hargs _ hold,hvars _ hold,World.keptBut_mono (fun p hp=>⟨hp,?_⟩) (hb.frame (· ∈ before)),fun _=> ?_⟩
 ·rw[hps,List.mem_append]at hp
  exact Or.inr hp
 ·obtain⟨_,_,_,_,_,hz,hn⟩:=hW
  refine⟨hok,_,_,([]++pa)++pv,⟨[]++pa,pv,trodAll_append (hargs _ (fun _ _=>rfl)) (hres _ _ _),hvars _ (fun _ _=>rfl),rfl,?_,?_⟩,?_⟩
  ·intro b off hp
   have hin:MemPlace.cell b off∈before:=by rw[hps];simpa using hp
   rw[hb.frozen (hlt _ hin)]
   exact hz b off hin
  ·intro ha
   have:=hn ha
   rw[hps]at this
   simpa using this
  ·intro p hp _
   rw[hps]
   simpa using hp
end
end Go.Proofs.YtgllkpfiokkdhaaGreatDoor
namespace Go.Pl
open Go.RowKit Go.WideShapes Go.ChangeShapes
def Nb(w:World):Yo:=fun b=>match w.heap[b]? with|some (.cells cs _ _)=>some cs|_=>none
theorem d5p(w:World):Uc (Nb w) w:=fun b cs h=>by
 unfold Nb at h
 split at h
 ·rename_i c T fz hb
  cases h
  exact⟨T,fz,hb⟩
 ·cases h
def Dq(P:Program)(e:TypeId)(ps:List PV):PV:=match Xo P e with|true=>.agg ps|false=>ps.headD .nilp
def Wv(P:Program):Nat->TypeId->List PV->Prop
 | 0,_,_=>False
 | n+1,t,ps=>match P.underlying t with
  | some .bool=> ∃ b,ps=[.bool b]
  | some (.int k)=> ∃ m,ps=[.int k m]∧(Lit.int k m).wf=true
  | some .string=> ∃ s:List UInt8,ps=[.str s]∧s.length<=maxLen
  | some (.slice e)=> ∃ qs:List (List PV),ps=[.sl (P.cellsOf e) false (qs.map (Dq P e))]∧qs.length<=maxLen∧ ∀ q∈qs,q.length=P.cellsOf e∧Wv P n e q
  | some (.struct fs)=>ps.length=P.cellsOf t∧ ∀ f∈fs.toList,Wv P n f.type ((ps.drop f.offset).take (P.cellsOf f.type))
  | some (.array m e)=>ps.length=P.cellsOf t∧ ∀ i<m,Wv P n e ((ps.drop (i*P.cellsOf e)).take (P.cellsOf e))
  | _=>False
def Ju(P:Program):Nat->List Field->Nat->Bool
 | o,[],n=>o==n
 | o,f::fs,n=>f.offset==o&&Ju P (o+P.cellsOf f.type) fs n
def OH(P:Program)(S:List TypeId):Bool:=S.all fun t=>match P.underlying t with
 | some .bool|some (.int _)|some .string=>P.cellsOf t==1
 | some (.slice e)=>P.cellsOf t==1&&S.contains e&&decide (0<P.cellsOf e)&&(Xo P e||P.cellsOf e==1)
 | some (.struct fs)=>Ju P 0 fs.toList (P.cellsOf t)&&fs.toList.all fun f=>S.contains f.type
 | some (.array m e)=>S.contains e&&m*P.cellsOf e==P.cellsOf t
 | _=>false
section
variable {H:Type} {enc:TypeId×Value->H} {P:Program} {w:World} {base:Nat} {sp:Nat->Bool} {held:Bool} {S:List TypeId}
theorem R9{α β:Type}{f:α->Option β}: ∀ {l:List α} {r:List β},l.mapM f=some r->r.length=l.length∧ ∀ (j:Nat) x y,l[j]? = some x->r[j]? = some y->f x=some y:=by
 intro l
 induction l with
 | nil=>intro r h;simp at h;subst h;exact⟨rfl,fun j x y h=>by simp at h⟩
 | cons a l ih=>
  intro r h
  simp only[List.mapM_cons,Option.bind_eq_bind,Option.bind_eq_some_iff]at h
  obtain⟨b,hb,bs,hbs,h⟩:=h
  simp at h
  subst h
  obtain⟨h1,h2⟩:=ih hbs
  refine⟨by simp[h1],fun j x y hx hy=> ?_⟩
  cases j with
  | zero=>cases hx;cases hy;exact hb
  | succ j=>exact h2 j x y hx hy
def Cl(w:World)(cs:List Value)(ps:List PV):Prop:=WY (Nb w) cs ps∧Y5 cs
theorem Cl.one{v:Value}{p:PV}(h:RP (Nb w) v p)(h1:v.oneCell'=true):Cl w [v] [p]:=⟨⟨rfl,fun j x q hx hq=>match j with
 | 0=>by cases hx;cases hq;exact h
 | j+1=>by simp at hx⟩,fun v hv=>by simp at hv;subst hv;exact h1⟩
theorem Cl.append{cs ds:List Value}{ps qs:List PV}(h:Cl w cs ps)(k:Cl w ds qs):Cl w (cs++ds) (ps++qs):=by
 refine⟨⟨by simp[h.1.1,k.1.1],fun j v p hv hp=> ?_⟩,fun v hv=> ?_⟩
 ·by_cases hj:j<cs.length
  ·rw[List.getElem?_append_left hj]at hv
   rw[List.getElem?_append_left (by rw[<- h.1.1];exact hj)]at hp
   exact h.1.2 j v p hv hp
  ·rw[List.getElem?_append_right (by omega)]at hv
   rw[List.getElem?_append_right (by rw[<- h.1.1];omega),<- h.1.1]at hp
   exact k.1.2 _ v p hv hp
 ·rcases List.mem_append.1 hv with h'|h'
  ·exact h.2 v h'
  ·exact k.2 v h'
theorem Cl.nil:Cl w [] []:=⟨⟨rfl,fun j v p h=>by simp at h⟩,fun v h=>by simp at h⟩
theorem NY(hS:OH P S=true){t:TypeId}(ht:t∈S):(match P.underlying t with
 | some .bool|some (.int _)|some .string=>P.cellsOf t==1
 | some (.slice e)=>P.cellsOf t==1&&S.contains e&&decide (0<P.cellsOf e)&&(Xo P e||P.cellsOf e==1)
 | some (.struct fs)=>Ju P 0 fs.toList (P.cellsOf t)&&fs.toList.all fun f=>S.contains f.type
 | some (.array m e)=>S.contains e&&m*P.cellsOf e==P.cellsOf t
 | _=>false)=true:=List.all_eq_true.1 hS t ht
theorem a2o{n:Nat}{cs:List Value}(ih : ∀ (t:TypeId) (cs:List Value) (x:DataW H×List MemPlace),t∈S->DataW.trod enc P w base sp held n t cs=some x-> ∃ ps,Cl w cs ps∧Wv P n t ps):
  ∀ (fs:List Field) (o N:Nat) (xs:List (DataW H×List MemPlace)),Ju P o fs N=true->(∀ f∈fs,f.type∈S)->cs.length=N->o<=N ->
   fs.mapM (fun f=>DataW.trod enc P w base sp held n f.type ((cs.drop f.offset).take (P.cellsOf f.type)))=some xs ->
   ∃ ps,Cl w (cs.drop o) ps∧ ∀ qs:List PV,qs.length=o-> ∀ f∈fs,Wv P n f.type (((qs++ps).drop f.offset).take (P.cellsOf f.type)):=by
 intro fs
 induction fs with
 | nil=>
  intro o N xs hc _ hl ho _
  simp[Ju]at hc
  refine⟨[],?_,fun qs _ f hf=>by simp at hf⟩
  rw[List.drop_of_length_le (by omega)]
  exact Cl.nil
 | cons f fs ihf=>
  intro o N xs hc hm hl ho h
  simp only[Ju,Bool.and_eq_true,beq_iff_eq]at hc
  obtain⟨hfo,hc⟩:=hc
  simp only[List.mapM_cons,Option.bind_eq_bind,Option.bind_eq_some_iff]at h
  obtain⟨x,hx,xs',hxs,_⟩:=h
  obtain⟨p1,k1,k2⟩:=ih _ _ x (hm f List.mem_cons_self) hx
  have hle:o+P.cellsOf f.type<=N:=by
   have : ∀ (fs:List Field) (a:Nat),Ju P a fs N=true->a<=N:=by
    intro fs
    induction fs with
    | nil=>intro a h;simp[Ju]at h;omega
    | cons g fs ih=>intro a h;simp only[Ju,Bool.and_eq_true]at h;have:=ih _ h.2;omega
   exact this _ _ hc
  obtain⟨p2,k3,k4⟩:=ihf (o+P.cellsOf f.type) N xs' hc (fun g hg=>hm g (List.mem_cons_of_mem _ hg)) hl hle hxs
  have hp1:p1.length=P.cellsOf f.type:=by
   rw[<- k1.1.1,List.length_take,List.length_drop,hfo]
   omega
  refine⟨p1++p2,?_,fun qs hq g hg=> ?_⟩
  ·have:=k1.append k3
   rw[hfo]at this
   have e:cs.drop o=(cs.drop o).take (P.cellsOf f.type)++cs.drop (o+P.cellsOf f.type):=by rw[<- List.drop_drop,List.take_append_drop]
   rw[e]
   exact this
  ·rcases List.mem_cons.1 hg with rfl|hg
   ·rw[hfo,<- hq,List.drop_left,<- hp1,List.take_left]
    exact k2
   ·have:=k4 (qs++p1) (by simp[hq,hp1]) g hg
    rwa [List.append_assoc]at this
theorem E8{n m sz:Nat}{e:TypeId}(he:P.cellsOf e=sz){cs:List Value}(ih : ∀ i,i<m-> ∃ ps,Cl w ((cs.drop (i*sz)).take sz) ps∧Wv P n e ps)(hl:cs.length=m*sz):
  ∃ ps,Cl w cs ps∧ ∀ i<m,Wv P n e ((ps.drop (i*sz)).take sz):=by
 induction m generalizing cs with
 | zero=>
  have:cs=[]:=List.length_eq_zero_iff.1 (by omega)
  subst this
  exact⟨[],Cl.nil,fun i h=>by omega⟩
 | succ m ihm=>
  obtain⟨p1,k1,k2⟩:=ih 0 (by omega)
  simp only[Nat.zero_mul,List.drop_zero]at k1
  have hl1:p1.length=sz:=by
   rw[<- k1.1.1,List.length_take,hl,Nat.succ_mul]
   omega
  obtain⟨p2,k3,k4⟩:=ihm (cs:=cs.drop sz) (fun i hi=>by
   have:=ih (i+1) (by omega)
   rwa [Nat.succ_mul,Nat.add_comm,<- List.drop_drop]at this) (by rw[List.length_drop,hl,Nat.succ_mul];omega)
  refine⟨p1++p2,by have:=k1.append k3;rwa [List.take_append_drop]at this,fun i hi=> ?_⟩
  cases i with
  | zero=>
   simp only[Nat.zero_mul,List.drop_zero]
   rw[<- hl1,List.take_left]
   exact k2
  | succ i=>
   have:=k4 i (by omega)
   have e2:(p1++p2).drop ((i+1)*sz)=p2.drop (i*sz):=by
    rw[Nat.succ_mul,Nat.add_comm,<- List.drop_drop]
    congr 1
    rw[<- hl1,List.drop_left]
   rwa [e2]
theorem b2j{e:TypeId}{q:List PV}(h:Xo P e=true∨P.cellsOf e=1)(hl:q.length=P.cellsOf e)(h1:Xo P e=false-> ∀ p∈q,p.cells=[p]):(Dq P e q).cells=q:=by
 unfold Dq
 cases ha:Xo P e with
 | true=>rfl
 | false=>
  rcases h with h|h
  ·rw[h]at ha;cases ha
  ·rw[h]at hl
   match q,hl with
   | [p],_=>exact h1 ha p (by simp)
theorem b9y{n:Nat}{e:TypeId}{q:List PV}(h:Wv P n e q)(ha:Xo P e=false): ∀ p∈q,p.cells=[p]:=by
 cases n with
 | zero=>exact h.elim
 | succ n=>
  unfold Wv at h
  unfold Xo at ha
  split at h
  ·obtain⟨b,rfl⟩:=h;intro p hp;simp at hp;subst hp;rfl
  ·obtain⟨m,rfl,_⟩:=h;intro p hp;simp at hp;subst hp;rfl
  ·obtain⟨s,rfl,_⟩:=h;intro p hp;simp at hp;subst hp;rfl
  ·obtain⟨s,rfl,_⟩:=h;intro p hp;simp at hp;subst hp;rfl
  ·rename_i hu;rw[hu]at ha;cases ha
  ·rename_i hu;rw[hu]at ha;cases ha
  ·exact h.elim
theorem a1q{α:Type}{R:Nat->α->Prop}: ∀ (n:Nat),(∀ i,i<n-> ∃ q,R i q)-> ∃ qs:List α,qs.length=n∧ ∀ (i:Nat) q,qs[i]? = some q->R i q:=by
 intro n
 induction n with
 | zero=>intro _;exact⟨[],rfl,fun i q h=>by simp at h⟩
 | succ n ih=>
  intro h
  obtain⟨qs,h1,h2⟩:=ih fun i hi=>h i (by omega)
  obtain⟨q,hq⟩:=h n (by omega)
  refine⟨qs++[q],by simp[h1],fun i q' hi=> ?_⟩
  by_cases hlt:i<qs.length
  ·rw[List.getElem?_append_left hlt]at hi;exact h2 i q' hi
  ·rw[List.getElem?_append_right (by omega)]at hi
   have:i=n:=by
    have:=(List.getElem?_eq_some_iff.1 hi).1
    simp at this
    omega
   subst this
   rw[h1,Nat.sub_self]at hi
   cases hi
   exact hq
theorem b4x(a:Addr)(i j:Nat):(a.add i).add j=a.add (i+j):=by
 unfold Addr.add
 by_cases hi:i=0 <;> by_cases hj:j=0 <;> simp[hi,hj,Nat.add_assoc]
theorem b2o{base n:Nat}{a:Addr}{cs:List Value}(h:w.cells? base a n=some cs):cs.length=n∧ ∀ (r:Nat) v,cs[r]? = some v->w.cell? (a.add r)=some v:=by
 unfold World.cells? at h
 split at h
 ·obtain⟨h1,h2⟩:=R9 h
  refine⟨by simpa using h1,fun r v hv=> ?_⟩
  have hr:=(List.getElem?_eq_some_iff.1 hv).1
  have hr2:r<n:=by rw[h1]at hr;simpa using hr
  exact h2 r r v (by simp[hr2]) hv
 ·cases h
theorem Mc{a:Addr}{v:Value}(h:w.cell? a=some v): ∃ b off cs,a=⟨b,off,none⟩∧Nb w b=some cs∧cs[off]? = some v:=by
 obtain⟨b,off,spot⟩:=a
 unfold World.cell? at h
 split at h
 ·rename_i c T fz hb
  split at h
  ·cases h
  ·rename_i hs
   have:spot=none:=by cases spot with|none=>rfl|some=>simp at hs
   subst this
   exact⟨b,off,c,rfl,by simp only[Nb];rw[hb],h⟩
 ·cases h
theorem a5m{n:Nat}{e:TypeId}{a:Addr}{len cap:Nat}{xs:List (DataW H×List MemPlace)}(hsz:0<P.cellsOf e)(hag:Xo P e=true∨P.cellsOf e=1)(hcap:len<=cap)(hmax:cap<=maxLen)
  (ih : ∀ (cs:List Value) (x:DataW H×List MemPlace),DataW.trod enc P w base sp held n e cs=some x-> ∃ ps,Cl w cs ps∧Wv P n e ps)
  (h:(List.range len).mapM (fun i=>(w.cells? base (a.add (i*P.cellsOf e)) (P.cellsOf e)).bind (DataW.trod enc P w base sp held n e))=some xs) :
  ∃ qs:List (List PV),RP (Nb w) (.slice (some a) len cap) (.sl (P.cellsOf e) false (qs.map (Dq P e)))∧qs.length<=maxLen∧ ∀ q∈qs,q.length=P.cellsOf e∧Wv P n e q:=by
 obtain⟨hl,hg⟩:=R9 h
 rw[List.length_range]at hl
 have key : ∀ i,i<len-> ∃ q:List PV,(q.length=P.cellsOf e∧Wv P n e q)∧ ∀ (r:Nat) p,q[r]? = some p-> ∃ v,w.cell? (a.add (i*P.cellsOf e+r))=some v∧v.oneCell'=true∧RP (Nb w) v p:=by
  intro i hi
  have hx:=List.getElem?_eq_getElem (show i<xs.length by omega)
  have:=hg i i _ (by simp[hi]) hx
  rw[Option.bind_eq_some_iff]at this
  obtain⟨cs,h1,h2⟩:=this
  obtain⟨q,k1,k2⟩:=ih cs _ h2
  obtain⟨c1,c2⟩:=b2o h1
  refine⟨q,⟨by rw[<- k1.1.1,c1],k2⟩,fun r p hp=> ?_⟩
  have hr:r<cs.length:=by rw[k1.1.1];exact(List.getElem?_eq_some_iff.1 hp).1
  have hv:=List.getElem?_eq_getElem hr
  refine⟨_,?_,k1.2 _ (List.getElem_mem hr),k1.1.2 r _ p hv hp⟩
  rw[<- b4x]
  exact c2 r _ hv
 obtain⟨qs,hq1,hq2⟩:=a1q len key
 have hcells : ∀ q∈qs,(Dq P e q).cells=q:=by
  intro q hq
  obtain⟨i,hi,rfl⟩:=List.getElem_of_mem hq
  have:=(hq2 i _ (List.getElem?_eq_getElem hi)).1
  exact b2j hag this.1 fun ha=>b9y this.2 ha
 refine⟨qs,?_,by omega,fun q hq=> ?_⟩
 ·by_cases h0:len=0
  ·subst h0
   have:qs=[]:=List.length_eq_zero_iff.1 hq1
   subst this
   exact .sl0 _ _ _ _ fun e=>by cases e
  ·-- the first cell tells the block
   obtain⟨b,off,cs,rfl,hb,-⟩ : ∃ b off cs,a=⟨b,off,none⟩∧Nb w b=some cs∧True:=by
    have hq0:=List.getElem?_eq_getElem (show 0<qs.length by omega)
    obtain⟨⟨f1,f2⟩,f3⟩:=hq2 0 _ hq0
    have hp:=List.getElem?_eq_getElem (show 0<(qs[0]'(by omega)).length by omega)
    obtain⟨v,hv,_⟩:=f3 0 _ hp
    simp[Addr.add]at hv
    obtain⟨b,off,cs,e1,e2,_⟩:=Mc hv
    exact⟨b,off,cs,e1,e2,trivial⟩
   have hs : ∀ x∈qs.map (Dq P e),x.cells.length=P.cellsOf e:=by
    intro x hx
    obtain⟨q,hq,rfl⟩:=List.mem_map.1 hx
    rw[hcells q hq]
    obtain⟨i,hi,rfl⟩:=List.getElem_of_mem hq
    exact(hq2 i _ (List.getElem?_eq_getElem hi)).1.1
   have hat : ∀ (j:Nat) p,(flat (qs.map (Dq P e)))[j]? = some p-> ∃ v,cs[off+j]? = some v∧v.oneCell'=true∧RP (Nb w) v p:=by
    intro j p hp
    have hj:j<len*P.cellsOf e:=by
     have:=(List.getElem?_eq_some_iff.1 hp).1
     rw[VB hs]at this
     simpa [hq1]using this
    have hi:j / P.cellsOf e<qs.length:=by rw[hq1];exact(Nat.div_lt_iff_lt_mul hsz).2 hj
    have hr:j % P.cellsOf e<P.cellsOf e:=Nat.mod_lt _ hsz
    have hqi:=List.getElem?_eq_getElem hi
    have e0:j=j / P.cellsOf e*P.cellsOf e+j % P.cellsOf e:=by rw[Nat.mul_comm];exact(Nat.div_add_mod _ _).symm
    have hxi:(qs.map (Dq P e))[j / P.cellsOf e]? = some (Dq P e qs[j / P.cellsOf e]):=by rw[List.getElem?_map,hqi];rfl
    have hfg:=a3f hs hxi hr
    rw[<- e0,hcells _ (List.getElem_mem hi)]at hfg
    rw[hfg]at hp
    obtain⟨v,hv,h1,h2⟩:=(hq2 _ _ hqi).2 _ p hp
    rw[<- e0,Xy]at hv
    obtain⟨b',off',cs',e1,e2,e3⟩:=Mc hv
    cases e1
    rw[hb]at e2
    cases e2
    exact⟨v,e3,h1,h2⟩
   have hlen:len=(qs.map (Dq P e)).length:=by simp[hq1]
   rw[hlen]
   refine .sl b off cs cap _ false _ (fun j=>(cs[off+j]?).getD default) hb (by rw[<- hlen];exact hcap) (fun e=>by cases e) hs (fun j p hp=> ?_) (fun j p hp=> ?_)
   ·obtain⟨v,h1,h2,h3⟩:=hat j p hp
    rw[h1]
    exact⟨rfl,h2⟩
   ·obtain⟨v,h1,h2,h3⟩:=hat j p hp
    rw[h1]
    exact h3
 ·obtain⟨i,hi,rfl⟩:=List.getElem_of_mem hq
  exact(hq2 i _ (List.getElem?_eq_getElem hi)).1
theorem b5n(hS:OH P S=true): ∀ (n:Nat) (t:TypeId) (cs:List Value) (x:DataW H×List MemPlace),t∈S->DataW.trod enc P w base sp held n t cs=some x-> ∃ ps,Cl w cs ps∧Wv P n t ps:=by
  intro n
  induction n with
  | zero=>intro t cs x _ h;simp[DataW.trod]at h
  | succ n ih=>
    intro t cs x ht h
    have hp:=NY hS ht
    unfold DataW.trod at h
    unfold Wv
    split at h <;> (try rename_i hu) <;> (try simp only[hu]at hp ⊢) <;> try (cases hp;done)
    all_goals first
      | (exact⟨_,Cl.one (.bool _) rfl,_,rfl⟩)
      | (split at h
         · rename_i hc
           obtain⟨rfl,hw⟩:=hc
           exact⟨_,Cl.one (.int _ _) rfl,_,rfl,hw⟩
         · cases h)
      | (split at h
         · rename_i hc
           exact⟨_,Cl.one (.str _) rfl,_,rfl,by simpa using hc⟩
         · cases h)
      | (cases h;done)
      | skip
    · exact⟨_,Cl.one (.sl0 _ _ _ false (fun e=>by cases e)) rfl,[],rfl,by simp,fun q hq=>by simp at hq⟩
    · rename_i e a len cap
      simp only[Bool.and_eq_true,Bool.or_eq_true,beq_iff_eq,decide_eq_true_eq]at hp
      simp only at h
      split at h
      · rename_i hc
        rw[Option.bind_eq_some_iff]at h
        obtain⟨xs,h1,_⟩:=h
        obtain⟨qs,k1,k2,k3⟩:=a5m hp.1.2 hp.2 hc.2.1 hc.2.2 (fun cs x hx=>ih e cs x (by simpa using hp.1.1.2) hx) h1
        exact⟨_,Cl.one k1 rfl,qs,rfl,k2,k3⟩
      · cases h
    · rename_i cs2 fs
      simp only[Bool.and_eq_true]at hp
      split at h
      · rename_i hc
        rw[Option.map_eq_some_iff]at h
        obtain⟨xs,h1,_⟩:=h
        obtain⟨ps,k1,k2⟩:=a2o ih fs.toList 0 (P.cellsOf t) xs hp.1 (fun f hf=>by simpa using List.all_eq_true.1 hp.2 f hf) hc (Nat.zero_le _) h1
        rw[List.drop_zero]at k1
        exact⟨ps,k1,by rw[<- k1.1.1,hc],fun f hf=>by simpa using k2 [] rfl f hf⟩
      · cases h
    · rename_i cs1 _ cs2 m e
      simp only[Bool.and_eq_true,beq_iff_eq]at hp
      split at h
      · rename_i hc
        rw[Option.map_eq_some_iff]at h
        obtain⟨xs,h1,_⟩:=h
        obtain⟨hl,hg⟩:=R9 h1
        rw[List.length_range]at hl
        obtain⟨ps,k1,k2⟩:=E8 (n:=n) (m:=m) (e:=e) rfl (cs:=cs1) (fun i hi=>by
          have hx:=List.getElem?_eq_getElem (show i<xs.length by omega)
          exact ih e _ _ (by simpa using hp.1) (hg i i _ (by simp[hi]) hx)) (by rw[hc,hp.2])
        exact⟨ps,k1,by rw[<- k1.1.1,hc],k2⟩
      · cases h
theorem Ee(hS:OH P S=true){t:TypeId}(ht:t∈S){r:Reach}{b0:Nat}{v:Value}{d:DataW H}{p:List MemPlace}(hval:Value.okWide P w r b0 t v)(h:DataW.Trod enc P w base sp held t v d p):
  ∃ n q,RP (Nb w) v (Dq P t q)∧Wv P n t q:=by
 obtain⟨n,h⟩:=h
 obtain⟨q,k1,k2⟩:=b5n hS n t _ _ ht h
 refine⟨n,q,?_,k2⟩
 have hp:=NY hS ht
 have scal:v.cells = #[v]->Xo P t=false->RP (Nb w) v (Dq P t q):=by
  intro hc ha
  rw[hc]at k1
  have hl:=k1.1.1
  match q,hl with
  | [x],_=>simp only[Dq,ha,List.headD_cons];exact k1.1.2 0 v x rfl rfl
 have agg : ∀ cs,v = .agg cs->Xo P t=true->RP (Nb w) v (Dq P t q):=by
  rintro cs rfl ha
  simp only[Dq,ha]
  exact .agg cs q (by have:=k1.1.1;simpa [Value.cells]using this) (fun x hx=>k1.2 x (by simpa [Value.cells]using hx)) fun j x y hx hy=>k1.1.2 j x y (by simpa [Value.cells]using hx) hy
 split at hp
 ·rename_i hu
  obtain⟨b,rfl⟩:=okWide_bool hu hval
  exact scal rfl (by simp[Xo,hu])
 ·rename_i hu
  obtain⟨b,rfl⟩:=okWide_int hu hval
  exact scal rfl (by simp[Xo,hu])
 ·rename_i hu
  obtain⟨b,rfl⟩:=okWide_string hu hval
  exact scal rfl (by simp[Xo,hu])
 ·rename_i hu
  obtain⟨a,l,c,rfl⟩:=okWide_slice hu hval
  exact scal rfl (by simp[Xo,hu])
 ·rename_i hu
  simp only[Value.okWide,hu]at hval
  obtain⟨cs,rfl,_⟩:=hval
  exact agg cs rfl (by simp[Xo,hu])
 ·rename_i hu
  simp only[Value.okWide,hu]at hval
  obtain⟨cs,rfl,_⟩:=hval
  exact agg cs rfl (by simp[Xo,hu])
 ·cases hp
def D5(P:Program)(t:TypeId):Option (List (Nat×TypeId)):=match P.underlying t with
 | some (.struct fs)=>some (fs.toList.map fun f=>(f.offset,f.type))
 | _=>none
def d5t(P:Program)(n:Nat)(q:List PV):List (Nat×TypeId)->Prop
 | []=>True
 | (o,t)::r=>Wv P n t ((q.drop o).take (P.cellsOf t))∧d5t P n q r
theorem JR{n c:Nat}{t:TypeId}{q:List PV}{l:List (Nat×TypeId)}(hs:D5 P t=some l)(hc:P.cellsOf t=c)(h:Wv P n t q): ∃ m,n=m+1∧q.length=c∧d5t P m q l:=by
 cases n with
 | zero=>exact h.elim
 | succ m=>
  unfold D5 at hs
  split at hs
  ·rename_i fs hu
   cases hs
   simp only[Wv,hu]at h
   refine⟨m,rfl,by rw[h.1,hc],?_⟩
   have key : ∀ l:List Field,(∀ f∈l,Wv P m f.type ((q.drop f.offset).take (P.cellsOf f.type)))->d5t P m q (l.map fun f=>(f.offset,f.type)):=by
    intro l
    induction l with
    | nil=>intro _;trivial
    | cons f l ih=>intro h;exact⟨h f List.mem_cons_self,ih fun g hg=>h g (List.mem_cons_of_mem _ hg)⟩
   exact key _ h.2
  ·cases hs
theorem He{n:Nat}{t:TypeId}{k:IntKind}{q:List PV}(hu:P.underlying t=some (.int k))(h:Wv P n t q): ∃ m,q=[.int k m]∧(Lit.int k m).wf=true:=by
 cases n with
 | zero=>exact h.elim
 | succ m=>simpa only[Wv,hu]using h
theorem c1m{n:Nat}{t:TypeId}{q:List PV}(hu:P.underlying t=some .string)(h:Wv P n t q): ∃ s:List UInt8,q=[.str s]∧s.length<=maxLen:=by
 cases n with
 | zero=>exact h.elim
 | succ m=>simpa only[Wv,hu]using h
theorem K6{n c:Nat}{t e:TypeId}{q:List PV}(hu:P.underlying t=some (.slice e))(hc:P.cellsOf e=c)(h:Wv P n t q): ∃ m,n=m+1∧ ∃ qs:List (List PV),q=[.sl c false (qs.map (Dq P e))]∧qs.length<=maxLen∧ ∀ x∈qs,x.length=c∧Wv P m e x:=by
 cases n with
 | zero=>exact h.elim
 | succ m=>
  subst hc
  simp only[Wv,hu]at h
  exact⟨m,rfl,h⟩
theorem b4y{n:Nat}{t e:TypeId}{q:List PV}(hu:P.underlying t=some (.slice e))(he:P.underlying e=some (.int .i64))(hc:P.cellsOf e=1)(h:Wv P n t q):
  ∃ zs:List Int,q=[.sl 1 false (a6r zs)]∧zs.length<=maxLen∧ ∀ z∈zs,(Lit.int .i64 z).wf=true:=by
 obtain⟨m,_,qs,rfl,hl,hq⟩:=K6 hu hc h
 have ha:Xo P e=false:=by simp[Xo,he]
 have : ∃ zs:List Int,qs=zs.map (fun z=>[.int .i64 z])∧ ∀ z∈zs,(Lit.int .i64 z).wf=true:=by
  clear hl h
  induction qs with
  | nil=>exact⟨[],rfl,fun z hz=>by simp at hz⟩
  | cons x qs ih=>
   obtain⟨zs,h1,h2⟩:=ih fun y hy=>hq y (List.mem_cons_of_mem _ hy)
   obtain⟨z,hz,hw⟩:=He he (hq x List.mem_cons_self).2
   exact⟨z::zs,by simp[h1,hz],fun y hy=>by rcases List.mem_cons.1 hy with rfl|hy;exact hw;exact h2 y hy⟩
 obtain⟨zs,rfl,hw⟩:=this
 refine⟨zs,?_,by simpa using hl,hw⟩
 simp[a6r,Dq,ha]
theorem d0k{Φ:Yo}:WY Φ (#[]:Array Value).toList []:=⟨rfl,fun j v p h=>by simp at h⟩
theorem e0i{Φ:Yo}{v:Value}{vs:List Value}{p:PV}{ps:List PV}(h:RP Φ v p)(k:WY Φ vs ps):WY Φ (v::vs) (p::ps):=
 ⟨by simp[k.1],fun j u q hu hq=>match j with
  | 0=>by cases hu;cases hq;exact h
  | j+1=>k.2 j u q (by simpa using hu) (by simpa using hq)⟩
theorem b7c{f:Nat}{pre:List PV->Bool}{val:List PV->PV}(h:WH P f pre val){ps:List PV}(hp:pre ps=true)(hv:val ps = .bool true){vs:Array Value}(hL:GlobOK (Nb w))(hr:WY (Nb w) vs.toList ps):
  Calls P f vs w fun e w'=>e = .returned (.bool true)∧Below w.heap.size w w':=by
 refine(h ps hp (Nb w) w vs hL (d5p w) hr).mono ?_
 rintro e w' ⟨v,Φ',rfl,_,_,h1,h2,_⟩
 rw[hv]at h1
 cases h1
 exact⟨rfl,h2⟩
end
end Go.Pl
namespace Go.Proofs.YtgllkpfiokkdhaaGreatDoor
open Go.Pl Go.RowKit Go.ChangeShapes
set_option maxRecDepth 100000
theorem a9f{P:Program}{W:World}{n:String}{g:Nat}{cs:Array Value}(hg:P.globalNamed n=some g)(h:W.var? P n=some cs):Nb W g=some cs:=by
 unfold World.var? at h
 rw[hg]at h
 simp only[Option.bind_some]at h
 unfold Nb
 exact h
theorem d4n:Tryz.prog.globalNamed "internal/strconv.uint64pow10" = some 1:=by kernel_rfl
theorem d9l:Tryz.prog.globalNamed "strconv.ErrRange" = some 3:=by kernel_rfl
theorem e0g:Tryz.prog.globalNamed "strconv.ErrSyntax" = some 2:=by kernel_rfl
theorem b2h:Tryz.prog.underlying 150=some (.interface ((match Tryz.prog.underlying 150 with|some (.interface ms)=>ms|_=>#[]))):=by kernel_rfl
theorem d7m{W:World}{r:List (String×DataW Unit)}(h:laidMet Tryz.prog (("internal/strconv.uint64pow10",Rows.laid_internal_strconv_uint64pow10)::r) W):Nb W 1=some RA:=by
 have h1:Lib.TabIs Tryz.prog W "internal/strconv.uint64pow10" .u64 ((List.range 20).map fun i=>((10 ^ i:Nat):Int)):=Lib.tabIs_of_head (e:=101) (t:=202) d4n (by kernel_rfl) (n:=20) (by kernel_rfl) (by kernel_rfl) (by kernel_rfl) (by kernel_rfl) h
 exact(a9f d4n h1).trans rfl
theorem b8z{W:World}{n:String}{g:Nat}{text:List UInt8}{r:List (String×DataW Unit)}(hg:Tryz.prog.globalNamed n=some g)(ht:(Tryz.prog.globals[g]?).map (·.type)=some 150)(h:laidMet Tryz.prog ((n,.iface "*errors.errorString" (.ptr (.agg [.lit (.string text)])))::r) W): ∃ cs,Nb W g=some cs∧RZ cs:=by
 obtain⟨ps,⟨g0,t0,cs0,f0,p0,q0,hg0,ht0,hv0,hd0,_,e0⟩,_,hrows⟩:=h
 obtain rfl:=Option.some.inj (hg.symm.trans hg0)
 obtain rfl:=Option.some.inj (ht.symm.trans ht0)
 subst e0
 refine⟨cs0,a9f hg hv0,?_⟩
 obtain⟨f1,u,v,e,_⟩:=iface_of_trod b2h hd0
 obtain⟨l0⟩:=cs0
 have e:l0=[.iface u v]:=e
 subst e
 exact⟨_,rfl,.inr ⟨u,v,rfl⟩⟩
theorem c9h{W:World}{x y:String×DataW Unit}{r:List (String×DataW Unit)}(h:laidMet Tryz.prog (x::y::("internal/strconv.uint64pow10",Rows.laid_internal_strconv_uint64pow10)::("strconv.ErrRange",Rows.laid_strconv_ErrRange)::("strconv.ErrSyntax",Rows.laid_strconv_ErrSyntax)::r) W):GlobOK (Nb W):=
 ⟨b8z e0g (by kernel_rfl) h.tail.tail.tail.tail,b8z d9l (by kernel_rfl) h.tail.tail.tail,d7m h.tail.tail⟩
noncomputable def e1o:DataW Unit->Value
 | .lit (.int k n)=>.int k n
 | _=>.int .i64 0
noncomputable def a7c:DataW Unit->Array Value
 | .agg ds=>(ds.map e1o).toArray
 | _=>#[]
noncomputable def c5s:DataW Unit->ByteArray
 | .iface _ (.ptr (.agg [.lit (.string bs)]))=>⟨bs.toArray⟩
 | _=>⟨#[]⟩
noncomputable def low:Nat:=(World.holding Tryz.prog default ⟨#[],#[],[]⟩).heap.size
noncomputable def c7e(cs:Array Value):Obj->Obj
 | .cells _ t frozen=>.cells cs t frozen
 | o=>o
noncomputable def Mf(os:Os):World:=
 let w0:=World.holding Tryz.prog os ⟨#[.cells #[.string (c5s Rows.laid_strconv_ErrRange)] 219,.cells #[.string (c5s Rows.laid_strconv_ErrSyntax)] 219],#[],[]⟩
 {w0 with heap:=((((w0.heap.modify 3 (c7e #[.iface 217 (.pointer (some ⟨low,0,none⟩))])).modify 2 (c7e #[.iface 217 (.pointer (some ⟨low+1,0,none⟩))])).modify 1 (c7e (a7c Rows.laid_internal_strconv_uint64pow10))).modify 6 (c7e (a7c Rows.laid_math_bits_deBruijn32tab))).modify 7 (c7e (a7c Rows.laid_math_bits_deBruijn64tab))}
end Go.Proofs.YtgllkpfiokkdhaaGreatDoor
namespace Go.Proofs.YtgllkpfiokkdhaaGreatDoor
open Go.Shelf
def Tryz.lays172_ren:Go.Shelf.Ren:=⟨fun|172=>118|244=>148|245=>149|247=>164|279=>165|280=>166|281=>167|282=>168|287=>177|316=>178|171=>76|205=>179|321=>186|322=>187|243=>116|246=>146|283=>160|284=>161|285=>162|286=>163|129=>137|317=>173|318=>174|319=>175|320=>176|337=>184|338=>185|n=>n,fun|9=>9|3=>3|75=>150|76=>151|4=>4|5=>5|167=>192|37=>29|0=>0|85=>193|2=>2|168=>195|53=>101|175=>204|46=>132|210=>208|127=>216|145=>219|143=>217|21=>21|171=>188|173=>190|212=>202|51=>168|20=>20|213=>203|232=>220|233=>221|80=>222|n=>n,fun|15=>2|16=>3|17=>1|18=>6|19=>7|n=>n⟩
theorem Tryz.lays172:Go.Proofs.LaysC.n172 Tryz.prog Tryz.lays172_ren:={
 mixed:=by kernel_rfl
 f129:=Tryz.func137.trans (congrArg some (by kernel_rfl))
 f171:=Tryz.func76.trans (congrArg some (by kernel_rfl))
 f172:=Tryz.func118.trans (congrArg some (by kernel_rfl))
 f205:=Tryz.func179.trans (congrArg some (by kernel_rfl))
 f243:=Tryz.func116.trans (congrArg some (by kernel_rfl))
 f244:=Tryz.func148.trans (congrArg some (by kernel_rfl))
 f245:=Tryz.func149.trans (congrArg some (by kernel_rfl))
 f246:=Tryz.func146.trans (congrArg some (by kernel_rfl))
 f247:=Tryz.func164.trans (congrArg some (by kernel_rfl))
 f279:=Tryz.func165.trans (congrArg some (by kernel_rfl))
 f280:=Tryz.func166.trans (congrArg some (by kernel_rfl))
 f281:=Tryz.func167.trans (congrArg some (by kernel_rfl))
 f282:=Tryz.func168.trans (congrArg some (by kernel_rfl))
 f283:=Tryz.func160.trans (congrArg some (by kernel_rfl))
 f284:=Tryz.func161.trans (congrArg some (by kernel_rfl))
 f285:=Tryz.func162.trans (congrArg some (by kernel_rfl))
 f286:=Tryz.func163.trans (congrArg some (by kernel_rfl))
 f287:=Tryz.func177.trans (congrArg some (by kernel_rfl))
 f316:=Tryz.func178.trans (congrArg some (by kernel_rfl))
 f317:=Tryz.func173.trans (congrArg some (by kernel_rfl))
 f318:=Tryz.func174.trans (congrArg some (by kernel_rfl))
 f319:=Tryz.func175.trans (congrArg some (by kernel_rfl))
 f320:=Tryz.func176.trans (congrArg some (by kernel_rfl))
 f321:=Tryz.func186.trans (congrArg some (by kernel_rfl))
 f322:=Tryz.func187.trans (congrArg some (by kernel_rfl))
 f337:=Tryz.func184.trans (congrArg some (by kernel_rfl))
 f338:=Tryz.func185.trans (congrArg some (by kernel_rfl))
 t0:=Tryz.underlying0
 a0:=Tryz.isAgg0
 z0:=Tryz.sizeOf0
 v0:=Tryz.zeroValue0
 t2:=Tryz.underlying2
 a2:=Tryz.isAgg2
 z2:=Tryz.sizeOf2
 v2:=Tryz.zeroValue2
 t3:=Tryz.underlying3
 a3:=Tryz.isAgg3
 z3:=Tryz.sizeOf3
 v3:=Tryz.zeroValue3
 t4:=Tryz.underlying4
 a4:=Tryz.isAgg4
 z4:=Tryz.sizeOf4
 v4:=Tryz.zeroValue4
 t5:=Tryz.underlying5
 a5:=Tryz.isAgg5
 z5:=Tryz.sizeOf5
 v5:=Tryz.zeroValue5
 t9:=Tryz.underlying9
 a9:=Tryz.isAgg9
 z9:=Tryz.sizeOf9
 v9:=Tryz.zeroValue9
 t20:=Tryz.underlying20
 a20:=Tryz.isAgg20
 z20:=Tryz.sizeOf20
 v20:=Tryz.zeroValue20
 t21:=Tryz.underlying21
 a21:=Tryz.isAgg21
 z21:=Tryz.sizeOf21
 v21:=Tryz.zeroValue21
 t37:=Tryz.underlying29
 a37:=Tryz.isAgg29
 z37:=Tryz.sizeOf29
 v37:=Tryz.zeroValue29
 t46:=Tryz.underlying132
 a46:=Tryz.isAgg132
 z46:=Tryz.sizeOf132
 v46:=Tryz.zeroValue132
 t51:=Tryz.underlying168
 a51:=Tryz.isAgg168
 z51:=Tryz.sizeOf168
 v51:=Tryz.zeroValue168
 t53:=Tryz.underlying101
 a53:=Tryz.isAgg101
 z53:=Tryz.sizeOf101
 v53:=Tryz.zeroValue101
 t75:=Tryz.underlying150
 a75:=Tryz.isAgg150
 z75:=Tryz.sizeOf150
 v75:=Tryz.zeroValue150
 t76:=Tryz.underlying151
 a76:=Tryz.isAgg151
 z76:=Tryz.sizeOf151
 v76:=Tryz.zeroValue151
 t85:=Tryz.underlying193
 a85:=Tryz.isAgg193
 z85:=Tryz.sizeOf193
 v85:=Tryz.zeroValue193
 t127:=Tryz.underlying216
 a127:=Tryz.isAgg216
 z127:=Tryz.sizeOf216
 v127:=Tryz.zeroValue216
 t143:=Tryz.underlying217
 a143:=Tryz.isAgg217
 z143:=Tryz.sizeOf217
 v143:=Tryz.zeroValue217
 t145:=Tryz.underlying219
 a145:=Tryz.isAgg219
 z145:=Tryz.sizeOf219
 v145:=Tryz.zeroValue219
 t167:=Tryz.underlying192
 a167:=Tryz.isAgg192
 z167:=Tryz.sizeOf192
 v167:=Tryz.zeroValue192
 t168:=Tryz.underlying195
 a168:=Tryz.isAgg195
 z168:=Tryz.sizeOf195
 v168:=Tryz.zeroValue195
 t171:=Tryz.underlying188
 a171:=Tryz.isAgg188
 z171:=Tryz.sizeOf188
 v171:=Tryz.zeroValue188
 t173:=Tryz.underlying190
 a173:=Tryz.isAgg190
 z173:=Tryz.sizeOf190
 v173:=Tryz.zeroValue190
 t175:=Tryz.underlying204
 a175:=Tryz.isAgg204
 z175:=Tryz.sizeOf204
 v175:=Tryz.zeroValue204
 t210:=Tryz.underlying208
 a210:=Tryz.isAgg208
 z210:=Tryz.sizeOf208
 v210:=Tryz.zeroValue208
 t212:=Tryz.underlying202
 a212:=Tryz.isAgg202
 z212:=Tryz.sizeOf202
 v212:=Tryz.zeroValue202
 t213:=Tryz.underlying203
 a213:=Tryz.isAgg203
 z213:=Tryz.sizeOf203
 t232:=Tryz.underlying220
 a232:=Tryz.isAgg220
 z232:=Tryz.sizeOf220
 v232:=Tryz.zeroValue220
 t233:=Tryz.underlying221
 a233:=Tryz.isAgg221
 z233:=Tryz.sizeOf221
 v233:=Tryz.zeroValue221
 g15:=by kernel_rfl
 g16:=by kernel_rfl
 g17:=by kernel_rfl
 g18:=by kernel_rfl
 g19:=by kernel_rfl
 t80:=Tryz.underlying222
 a80:=Tryz.isAgg222
 z80:=Tryz.sizeOf222
 v80:=Tryz.zeroValue222
 i0:=by kernel_rfl
 i2:=by kernel_rfl
 i3:=by kernel_rfl
 i4:=by kernel_rfl
 i5:=by kernel_rfl
 i9:=by kernel_rfl
 i20:=by kernel_rfl
 i21:=by kernel_rfl
 i37:=by kernel_rfl
 i46:=by kernel_rfl
 i51:=by kernel_rfl
 i53:=by kernel_rfl
 i75:=by kernel_rfl
 i76:=by kernel_rfl
 i80:=by kernel_rfl
 i85:=by kernel_rfl
 i127:=by kernel_rfl
 i143:=by kernel_rfl
 i145:=by kernel_rfl
 i167:=by kernel_rfl
 i168:=by kernel_rfl
 i171:=by kernel_rfl
 i173:=by kernel_rfl
 i175:=by kernel_rfl
 i210:=by kernel_rfl
 i212:=by kernel_rfl
 i232:=by kernel_rfl
 i233:=by kernel_rfl
 m15:=by kernel_rfl
 m16:=by kernel_rfl
 m17:=by kernel_rfl
 m18:=by kernel_rfl
 m19:=by kernel_rfl
 c0:=by kernel_rfl
 c2:=by kernel_rfl
 c3:=by kernel_rfl
 c4:=by kernel_rfl
 c5:=by kernel_rfl
 c9:=by kernel_rfl
 c20:=by kernel_rfl
 c21:=by kernel_rfl
 c37:=by kernel_rfl
 c46:=by kernel_rfl
 c51:=by kernel_rfl
 c53:=by kernel_rfl
 c75:=by kernel_rfl
 c76:=by kernel_rfl
 c80:=by kernel_rfl
 c85:=by kernel_rfl
 c127:=by kernel_rfl
 c143:=by kernel_rfl
 c145:=by kernel_rfl
 c167:=by kernel_rfl
 c168:=by kernel_rfl
 c171:=by kernel_rfl
 c173:=by kernel_rfl
 c175:=by kernel_rfl
 c210:=by kernel_rfl
 c212:=by kernel_rfl
 c213:=by kernel_rfl
 c232:=by kernel_rfl
 c233:=by kernel_rfl}
def Tryz.lays171_ren:Go.Shelf.Ren:=⟨fun|171=>76|243=>116|246=>146|283=>160|284=>161|285=>162|286=>163|129=>137|317=>173|318=>174|319=>175|320=>176|337=>184|338=>185|n=>n,fun|3=>3|9=>9|2=>2|4=>4|171=>188|0=>0|53=>101|37=>29|5=>5|173=>190|212=>202|51=>168|20=>20|213=>203|46=>132|232=>220|233=>221|n=>n,fun|17=>1|18=>6|19=>7|n=>n⟩
theorem Tryz.lays171:Go.Proofs.LaysM.n171 Tryz.prog Tryz.lays171_ren:={
 mixed:=by kernel_rfl
 f129:=Tryz.func137.trans (congrArg some (by kernel_rfl))
 f171:=Tryz.func76.trans (congrArg some (by kernel_rfl))
 f243:=Tryz.func116.trans (congrArg some (by kernel_rfl))
 f246:=Tryz.func146.trans (congrArg some (by kernel_rfl))
 f283:=Tryz.func160.trans (congrArg some (by kernel_rfl))
 f284:=Tryz.func161.trans (congrArg some (by kernel_rfl))
 f285:=Tryz.func162.trans (congrArg some (by kernel_rfl))
 f286:=Tryz.func163.trans (congrArg some (by kernel_rfl))
 f317:=Tryz.func173.trans (congrArg some (by kernel_rfl))
 f318:=Tryz.func174.trans (congrArg some (by kernel_rfl))
 f319:=Tryz.func175.trans (congrArg some (by kernel_rfl))
 f320:=Tryz.func176.trans (congrArg some (by kernel_rfl))
 f337:=Tryz.func184.trans (congrArg some (by kernel_rfl))
 f338:=Tryz.func185.trans (congrArg some (by kernel_rfl))
 t0:=Tryz.underlying0
 a0:=Tryz.isAgg0
 z0:=Tryz.sizeOf0
 v0:=Tryz.zeroValue0
 t2:=Tryz.underlying2
 a2:=Tryz.isAgg2
 z2:=Tryz.sizeOf2
 v2:=Tryz.zeroValue2
 t3:=Tryz.underlying3
 a3:=Tryz.isAgg3
 z3:=Tryz.sizeOf3
 v3:=Tryz.zeroValue3
 t4:=Tryz.underlying4
 a4:=Tryz.isAgg4
 z4:=Tryz.sizeOf4
 v4:=Tryz.zeroValue4
 t5:=Tryz.underlying5
 a5:=Tryz.isAgg5
 z5:=Tryz.sizeOf5
 v5:=Tryz.zeroValue5
 t9:=Tryz.underlying9
 a9:=Tryz.isAgg9
 z9:=Tryz.sizeOf9
 v9:=Tryz.zeroValue9
 t20:=Tryz.underlying20
 a20:=Tryz.isAgg20
 z20:=Tryz.sizeOf20
 v20:=Tryz.zeroValue20
 t37:=Tryz.underlying29
 a37:=Tryz.isAgg29
 z37:=Tryz.sizeOf29
 v37:=Tryz.zeroValue29
 t46:=Tryz.underlying132
 a46:=Tryz.isAgg132
 z46:=Tryz.sizeOf132
 v46:=Tryz.zeroValue132
 t51:=Tryz.underlying168
 a51:=Tryz.isAgg168
 z51:=Tryz.sizeOf168
 v51:=Tryz.zeroValue168
 t53:=Tryz.underlying101
 a53:=Tryz.isAgg101
 z53:=Tryz.sizeOf101
 v53:=Tryz.zeroValue101
 t171:=Tryz.underlying188
 a171:=Tryz.isAgg188
 z171:=Tryz.sizeOf188
 v171:=Tryz.zeroValue188
 t173:=Tryz.underlying190
 a173:=Tryz.isAgg190
 z173:=Tryz.sizeOf190
 v173:=Tryz.zeroValue190
 t212:=Tryz.underlying202
 a212:=Tryz.isAgg202
 z212:=Tryz.sizeOf202
 v212:=Tryz.zeroValue202
 t213:=Tryz.underlying203
 a213:=Tryz.isAgg203
 z213:=Tryz.sizeOf203
 t232:=Tryz.underlying220
 a232:=Tryz.isAgg220
 z232:=Tryz.sizeOf220
 v232:=Tryz.zeroValue220
 t233:=Tryz.underlying221
 a233:=Tryz.isAgg221
 z233:=Tryz.sizeOf221
 v233:=Tryz.zeroValue221
 g17:=by kernel_rfl
 g18:=by kernel_rfl
 g19:=by kernel_rfl
 i0:=by kernel_rfl
 i2:=by kernel_rfl
 i3:=by kernel_rfl
 i4:=by kernel_rfl
 i5:=by kernel_rfl
 i9:=by kernel_rfl
 i20:=by kernel_rfl
 i37:=by kernel_rfl
 i46:=by kernel_rfl
 i51:=by kernel_rfl
 i53:=by kernel_rfl
 i171:=by kernel_rfl
 i173:=by kernel_rfl
 i212:=by kernel_rfl
 i232:=by kernel_rfl
 i233:=by kernel_rfl
 m17:=by kernel_rfl
 m18:=by kernel_rfl
 m19:=by kernel_rfl}
def Tryz.lays99_ren:Go.Shelf.Ren:=⟨fun|99=>114|206=>145|n=>n,fun|9=>9|4=>4|3=>3|n=>n,fun|n=>n⟩
theorem Tryz.lays99:Go.Proofs.Lays.n99 Tryz.prog Tryz.lays99_ren:={
 mixed:=by kernel_rfl
 f99:=Tryz.func114.trans (congrArg some (by kernel_rfl))
 f206:=Tryz.func145.trans (congrArg some (by kernel_rfl))
 t3:=Tryz.underlying3
 a3:=Tryz.isAgg3
 z3:=Tryz.sizeOf3
 v3:=Tryz.zeroValue3
 t4:=Tryz.underlying4
 a4:=Tryz.isAgg4
 z4:=Tryz.sizeOf4
 v4:=Tryz.zeroValue4
 t9:=Tryz.underlying9
 a9:=Tryz.isAgg9
 z9:=Tryz.sizeOf9
 v9:=Tryz.zeroValue9}
def Tryz.lays190_ren:Go.Shelf.Ren:=⟨fun|190=>56|125=>97|258=>96|128=>136|129=>137|302=>127|303=>128|304=>129|305=>130|306=>131|307=>132|308=>133|309=>134|310=>135|333=>151|329=>152|330=>153|334=>154|335=>155|336=>156|344=>170|n=>n,fun|31=>91|9=>9|3=>3|46=>132|0=>0|51=>168|53=>101|4=>4|183=>162|182=>161|131=>110|5=>5|218=>180|222=>67|228=>198|229=>128|n=>n,fun|n=>n⟩
theorem Tryz.lays190:Go.Proofs.Lays.n190 Tryz.prog Tryz.lays190_ren:={
 mixed:=by kernel_rfl
 f125:=Tryz.func97.trans (congrArg some (by kernel_rfl))
 f128:=Tryz.func136.trans (congrArg some (by kernel_rfl))
 f129:=Tryz.func137.trans (congrArg some (by kernel_rfl))
 f190:=Tryz.func56.trans (congrArg some (by kernel_rfl))
 f258:=Tryz.func96.trans (congrArg some (by kernel_rfl))
 f302:=Tryz.func127.trans (congrArg some (by kernel_rfl))
 f303:=Tryz.func128.trans (congrArg some (by kernel_rfl))
 f304:=Tryz.func129.trans (congrArg some (by kernel_rfl))
 f305:=Tryz.func130.trans (congrArg some (by kernel_rfl))
 f306:=Tryz.func131.trans (congrArg some (by kernel_rfl))
 f307:=Tryz.func132.trans (congrArg some (by kernel_rfl))
 f308:=Tryz.func133.trans (congrArg some (by kernel_rfl))
 f309:=Tryz.func134.trans (congrArg some (by kernel_rfl))
 f310:=Tryz.func135.trans (congrArg some (by kernel_rfl))
 f329:=Tryz.func152.trans (congrArg some (by kernel_rfl))
 f330:=Tryz.func153.trans (congrArg some (by kernel_rfl))
 f333:=Tryz.func151.trans (congrArg some (by kernel_rfl))
 f334:=Tryz.func154.trans (congrArg some (by kernel_rfl))
 f335:=Tryz.func155.trans (congrArg some (by kernel_rfl))
 f336:=Tryz.func156.trans (congrArg some (by kernel_rfl))
 f344:=Tryz.func170.trans (congrArg some (by kernel_rfl))
 t0:=Tryz.underlying0
 a0:=Tryz.isAgg0
 z0:=Tryz.sizeOf0
 v0:=Tryz.zeroValue0
 t3:=Tryz.underlying3
 a3:=Tryz.isAgg3
 z3:=Tryz.sizeOf3
 v3:=Tryz.zeroValue3
 t4:=Tryz.underlying4
 a4:=Tryz.isAgg4
 z4:=Tryz.sizeOf4
 v4:=Tryz.zeroValue4
 t5:=Tryz.underlying5
 a5:=Tryz.isAgg5
 z5:=Tryz.sizeOf5
 v5:=Tryz.zeroValue5
 t9:=Tryz.underlying9
 a9:=Tryz.isAgg9
 z9:=Tryz.sizeOf9
 v9:=Tryz.zeroValue9
 t31:=Tryz.underlying91
 a31:=Tryz.isAgg91
 z31:=Tryz.sizeOf91
 v31:=Tryz.zeroValue91
 t46:=Tryz.underlying132
 a46:=Tryz.isAgg132
 z46:=Tryz.sizeOf132
 v46:=Tryz.zeroValue132
 t51:=Tryz.underlying168
 a51:=Tryz.isAgg168
 z51:=Tryz.sizeOf168
 v51:=Tryz.zeroValue168
 t53:=Tryz.underlying101
 a53:=Tryz.isAgg101
 z53:=Tryz.sizeOf101
 v53:=Tryz.zeroValue101
 t131:=Tryz.underlying110
 a131:=Tryz.isAgg110
 z131:=Tryz.sizeOf110
 v131:=Tryz.zeroValue110
 t182:=Tryz.underlying161
 a182:=Tryz.isAgg161
 z182:=Tryz.sizeOf161
 v182:=Tryz.zeroValue161
 t183:=Tryz.underlying162
 a183:=Tryz.isAgg162
 z183:=Tryz.sizeOf162
 v183:=Tryz.zeroValue162
 t218:=Tryz.underlying180
 a218:=Tryz.isAgg180
 z218:=Tryz.sizeOf180
 v218:=Tryz.zeroValue180
 t222:=Tryz.underlying67
 a222:=Tryz.isAgg67
 z222:=Tryz.sizeOf67
 v222:=Tryz.zeroValue67
 t228:=Tryz.underlying198
 a228:=Tryz.isAgg198
 z228:=Tryz.sizeOf198
 v228:=Tryz.zeroValue198
 t229:=Tryz.underlying128
 a229:=Tryz.isAgg128
 z229:=Tryz.sizeOf128
 v229:=Tryz.zeroValue128}
end Go.Proofs.YtgllkpfiokkdhaaGreatDoor
namespace Go.Proofs.YtgllkpfiokkdhaaGreatDoor
open Go.Pl Go.RowKit
open Enc (enc dec is)
open EncL (encL decL isL)
set_option maxRecDepth 100000
theorem Nr:Zr Tryz.prog 114 (fun _:Str×Str×Unit=>true) (fun x:Str×Str×Unit=>x.2.1.s.isPrefixOf x.1.s):=Kq (by
  rintro⟨⟨s⟩,⟨p⟩,⟨⟩⟩ hps Φ w vs hL hΦ hv
  obtain⟨u,v,rfl,h1,h2⟩:=e1j hv
  rw[a5a h1,a5a h2]
  refine(Any.strings_HasPrefix Tryz.lays99 ⟨s.toArray⟩ ⟨p.toArray⟩ w).mono ?_
  rintro e w' ⟨rfl,rfl⟩
  exact⟨_,rfl,.bool _,.refl _ _⟩)
theorem b9z:Zr Tryz.prog 118 (fun x:Str×Unit=>decide (x.1.s.length<=1000000)) (fun x:Str×Unit=>XH x.1):=Kq (by
  rintro⟨⟨s⟩,⟨⟩⟩ hps Φ w vs hL hΦ hv
  have hs:s.length<=1000000:=by simpa using hps
  obtain⟨v,rfl,h1⟩:=d9m hv
  rw[a5a h1]
  have hsz:(⟨s.toArray⟩:ByteArray).size=s.length:=rfl
  cases h:Lib.atoiAll s
  ·rename_i n
   have e1:XH ⟨s⟩=(n,⟨false⟩):=by simp only[XH,h]
   rw[e1]
   refine(Any.strconv_Atoi_ok Tryz.lays172 ⟨s.toArray⟩ (by rw[hsz];omega) n h w).mono ?_
   rintro e w' ⟨rfl,hw⟩
   refine⟨_,rfl,.tup _ _ rfl ?_,?_⟩
   ·intro j v x hv hx
    match j with
    | 0=>cases hv;cases hx;exact .int _ _
    | 1=>cases hv;cases hx;exact .nili
    | j+2=>simp at hv
   ·rcases hw with rfl|⟨t,rfl⟩
    ·exact .refl _ _
    ·exact a0o _ _ 0 _
  ·skip
   have e1:XH ⟨s⟩=(0,⟨true⟩):=by simp only[XH,h]
   rw[e1]
   obtain⟨cs,hc,ev,he,hev⟩:=hL.syn
   refine(Any.strconv_Atoi_syntax Tryz.lays172 ⟨s.toArray⟩ (by rw[hsz];omega) h ev w (NH hΦ hc he) hev).mono ?_
   rintro e w' ⟨N,rfl,_,_,hb⟩
   refine⟨_,rfl,.tup _ _ rfl ?_,hb⟩
   intro j v x hv hx
   match j with
   | 0=>cases hv;cases hx;exact .int _ _
   | 1=>cases hv;cases hx;exact .ifc _ _
   | j+2=>simp at hv
  ·skip
   have e1:XH ⟨s⟩=(Lib.atoiSat s,⟨true⟩):=by simp only[XH,h]
   rw[e1]
   obtain⟨cs,hc,ev,he,hev⟩:=hL.rng
   refine(Any.strconv_Atoi_range Tryz.lays172 ⟨s.toArray⟩ (by rw[hsz];omega) h ev w (NH hΦ hc he) hev).mono ?_
   rintro e w' ⟨N,rfl,_,_,hb⟩
   refine⟨_,rfl,.tup _ _ rfl ?_,hb⟩
   intro j v x hv hx
   match j with
   | 0=>cases hv;cases hx;exact .int _ _
   | 1=>cases hv;cases hx;exact .ifc _ _
   | j+2=>simp at hv)
theorem c4g:Zr Tryz.prog 76 (fun x:Int×Unit=>decide (-9223372036854775808<=x.1)&&decide (x.1<=9223372036854775807)) (fun x:Int×Unit=>c5t x.1):=Kq (by
  rintro⟨n,⟨⟩⟩ hps Φ w vs hL hΦ hv
  obtain⟨v,rfl,h1⟩:=d9m hv
  have h1:RP Φ v (.int .i64 n):=h1
  rw[d7p h1]
  have hn : -9223372036854775808<=n∧n<=9223372036854775807:=by simpa using hps
  have hg:=hL.pow
  obtain⟨T,fz,hh⟩:=hΦ _ _ hg
  refine(Any.strconv_Itoa Tryz.lays171 n hn.1 hn.2 w ?_).mono ?_
  ·unfold Lib.TabIs World.var?
   rw[show Program.globalNamed Tryz.prog "internal/strconv.uint64pow10" = some 1 by kernel_rfl]
   simp only[Option.bind_some,hh]
   rfl
  ·rintro e w' ⟨rfl,k,os,rfl⟩
   refine⟨_,rfl,.str _,?_⟩
   exact⟨rfl,rfl,rfl,by show w.heap.size<=(w.heap++os).size;simp,fun j hj=>by show(w.heap++os)[j]? = _;rw[Array.getElem?_append_left hj]⟩)
end Go.Proofs.YtgllkpfiokkdhaaGreatDoor
namespace Go.Proofs.YtgllkpfiokkdhaaGreatDoor
open Go.Pl
open Enc (enc dec is)
open EncL (encL decL isL)
set_option maxRecDepth 100000
theorem ZJ:Tryz.prog.follows .mixedOrders=true:=by kernel_rfl
theorem Ef:ZA Tryz.prog 56 XJ VF:=b6r (Any.slices_Sort_string Tryz.lays190) (Any.slices_Sort_string_none Tryz.lays190)
theorem OV:Zr Tryz.prog 88 (fun _:UInt8×Unit=>true) (fun x:UInt8×Unit=>digB x.1):=Zr.of (T:=a5j) (ic:=Ls) (rs:=Oy) Zi ZJ Tryz.func88 (by kernel_rfl) (by kernel_rfl) (by kernel_rfl) b8s
theorem Nj:Zr Tryz.prog 89 (fun _:UInt8×Unit=>true) (fun x:UInt8×Unit=>VW x.1):=Zr.of (T:=a6m) (ic:=FJ) (rs:=Oi) Zi ZJ Tryz.func89 (by kernel_rfl) (by kernel_rfl) (by kernel_rfl) c3o
theorem OB:Zr Tryz.prog 47 (fun _:Int×Unit=>true) (fun x:Int×Unit=>Yy x.1):=Zr.of (T:=Ps) (ic:=Ho) (rs:=BV) Zi ZJ Tryz.func47 (by kernel_rfl) (by kernel_rfl) (by kernel_rfl) a3o
theorem Ec:Zr Tryz.prog 48 (fun _:Str×Unit=>true) (fun x:Str×Unit=>YZ x.1):=Zr.of (T:=Vg) (ic:=XZ) (rs:=We) (Zd (Yc Tryz.func88 (by kernel_rfl) OV) (Zd (Yc Tryz.func89 (by kernel_rfl) Nj) Zi)) ZJ Tryz.func48 (by kernel_rfl) (by kernel_rfl) (by kernel_rfl) b1y
theorem CU:Zr Tryz.prog 18 (fun x:Lin×Unit=>Yb x.1) (fun x:Lin×Unit=>Zm x.1):=Zr.of (T:=VM) (ic:=WL) (rs:=WR) (Zd (Yc Tryz.func47 (by kernel_rfl) OB) (Zd (Yc Tryz.func48 (by kernel_rfl) Ec) Zi)) ZJ Tryz.func18 (by kernel_rfl) (by kernel_rfl) (by kernel_rfl) a3s
theorem a4c:Zr Tryz.prog 14 (fun x:Lin×Int×Unit=>Yb x.1) (fun x:Lin×Int×Unit=>GI x.1 x.2.1):=Zr.of (T:=G7) (ic:=Jy) (rs:=Jk) Zi ZJ Tryz.func14 (by kernel_rfl) (by kernel_rfl) (by kernel_rfl) b9e
theorem b3t:Zr Tryz.prog 22 (fun _:Int×Unit=>true) (fun x:Int×Unit=>(⟨x.1,[]⟩:Lin)):=Zr.of (T:=b9f) (ic:=LG) (rs:=a6y) Zi ZJ Tryz.func22 (by kernel_rfl) (by kernel_rfl) (by kernel_rfl) d1k
theorem b9v:ZA Tryz.prog 21 Hu Gp:=XP (T:=Z4) (ic:=ZR) (rs:=ZP) Zi ZJ Tryz.func21 (by kernel_rfl) (by kernel_rfl) (by kernel_rfl) b3z
theorem a2s:Zr Tryz.prog 21 (fun x:Lin×Str×Int×Unit=>decide (x.1.t.length<=1000000)) (fun x:Lin×Str×Int×Unit=>MQ x.1 x.2.1 x.2.2.1):=b2n b9v
theorem b3g:Zr Tryz.prog 79 (fun _:Int×Unit=>true) (fun x:Int×Unit=>Yy x.1):=Zr.of (T:=b9h) (ic:=a3j) (rs:=a3v) Zi ZJ Tryz.func79 (by kernel_rfl) (by kernel_rfl) (by kernel_rfl) d2w
theorem a0x:Zr Tryz.prog 78 (fun x:Str×Unit=>decide (x.1.s.length<=1000000)) (fun x:Str×Unit=>YZ x.1):=Zr.of (T:=Vh) (ic:=X7) (rs:=Wd) (Zd (Yc Tryz.func114 (by kernel_rfl) Nr) (Zd (Yc Tryz.func118 (by kernel_rfl) b9z) (Zd (Yc Tryz.func76 (by kernel_rfl) c4g) Zi))) ZJ Tryz.func78 (by kernel_rfl) (by kernel_rfl) (by kernel_rfl) b1t
theorem V6:Zr Tryz.prog 41 (fun x:Lin×Unit=>ZG x.1) (fun x:Lin×Unit=>Zm x.1):=Zr.of (T:=V3) (ic:=WP) (rs:=WS) (Zd (Yc Tryz.func79 (by kernel_rfl) b3g) (Zd (Yc Tryz.func78 (by kernel_rfl) a0x) Zi)) ZJ Tryz.func41 (by kernel_rfl) (by kernel_rfl) (by kernel_rfl) a4j
theorem b7k:Zr Tryz.prog 139 (fun _:Int×Unit=>true) (fun x:Int×Unit=>(⟨x.1,[]⟩:Lin)):=Zr.of (T:=c5a) (ic:=a4s) (rs:=a6q) Zi ZJ Tryz.func139 (by kernel_rfl) (by kernel_rfl) (by kernel_rfl) d1y
theorem a5d:Zr Tryz.prog 126 (fun _:Int×Unit=>true) (fun x:Int×Unit=>Nt x.1):=Zr.of (T:=a4w) (ic:=LU) (rs:=OW) Zi ZJ Tryz.func126 (by kernel_rfl) (by kernel_rfl) (by kernel_rfl) b7y
theorem MJ:Zr Tryz.prog 92 (fun x:List Int×Unit=>decide (x.1.length<=9223372036854775807)) (fun x:List Int×Unit=>x.1.all V8):=Zr.of (T:=RG) (ic:=Dc) (rs:=Db) Zi ZJ Tryz.func92 (by kernel_rfl) (by kernel_rfl) (by kernel_rfl) c8k
theorem a5y:Zr Tryz.prog 93 (fun x:Int×Int×Unit=>V8 x.1&&V8 x.2.1) (fun x:Int×Int×Unit=>(Int.gcd x.1 x.2.1:Int)):=Zr.of (T:=J5) (ic:=QW) (rs:=JA) (Zd (Yc Tryz.func126 (by kernel_rfl) a5d) Zi) ZJ Tryz.func93 (by kernel_rfl) (by kernel_rfl) (by kernel_rfl) c6t
theorem Ed:Zr Tryz.prog 54 (fun x:List Int×Unit=>decide (x.1.length<=10000)&&x.1.all V8) (fun x:List Int×Unit=>Gu x.1):=Zr.of (T:=Jw) (ic:=QD) (rs:=Qy) (Zd (Yc Tryz.func92 (by kernel_rfl) MJ) (Zd (Yc Tryz.func93 (by kernel_rfl) a5y) Zi)) ZJ Tryz.func54 (by kernel_rfl) (by kernel_rfl) (by kernel_rfl) b3x
theorem Ny:Zr Tryz.prog 95 (fun x:Int×Int×Unit=>V8 x.1&&V8 x.2.1&&decide (x.2.1≠0)) (fun x:Int×Int×Unit=>(b2c x.1 x.2.1,c5x x.1 x.2.1)):=Zr.of (T:=BP) (ic:=GQ) (rs:=GR) Zi ZJ Tryz.func95 (by kernel_rfl) (by kernel_rfl) (by kernel_rfl) a1n
theorem BK:Zr Tryz.prog 94 (fun _:Int×Int×Unit=>true) (fun x:Int×Int×Unit=>Sq x.1 x.2.1):=Zr.of (T:=Lv) (ic:=Pe) (rs:=PU) (Zd (Yc Tryz.func92 (by kernel_rfl) MJ) Zi) ZJ Tryz.func94 (by kernel_rfl) (by kernel_rfl) (by kernel_rfl) b3w
theorem a5f:Zr Tryz.prog 55 (fun _:Int×Int×Unit=>true) (fun x:Int×Int×Unit=>CP x.1 x.2.1):=Zr.of (T:=a6d) (ic:=Ff) (rs:=OA) (Zd (Yc Tryz.func94 (by kernel_rfl) BK) (Zd (Yc Tryz.func95 (by kernel_rfl) Ny) Zi)) ZJ Tryz.func55 (by kernel_rfl) (by kernel_rfl) (by kernel_rfl) b8w
theorem PH:Yw Tryz.prog XI:=(Zd (Yc Tryz.func56 (by kernel_rfl) Ef) (Zd (Yc Tryz.func41 (by kernel_rfl) V6) Zi))
theorem b5v{cd:Code}(h:Kt Tryz.prog JN Tryz.f70 0=some cd):JC Tryz.prog cd=some c3y:=by
 have:(Kt Tryz.prog JN Tryz.f70 0).bind (JC Tryz.prog)=some c3y:=by kernel_rfl
 rw[h]at this
 exact this
theorem d2t(args:List AV)(os:List AObj)(h:Ws args os=true)(c:Ctx)(hk : ∀ i m,os.length<=i->c.μ0 i m=none):b5g (U7 PH ZJ) (fun n cd=>Kt Tryz.prog JN Tryz.f70 n=some cd) OO c:=by
 rintro n cd hcd st a w q hr ⟨rfl,hE⟩
 have h2:os.length=2:=by
  unfold Ws at h
  split at h
  ·rfl
  ·cases h
 rw[h2]at hk
 exact b0f PH ZJ (b5v hcd) hk hr hE
theorem d0o:ZA Tryz.prog 70 Ws KU:=c5i (T:=XI) (ic:=Xw) (rs:=Xv) (E:=OO) (sel:=JN) PH ZJ Tryz.func70 (by kernel_rfl) (by kernel_rfl) (by kernel_rfl) d2t c7l b7w
theorem d8d:ZA Tryz.prog 70 Ws Tn:=d1b d0o
theorem d7k:ZA Tryz.prog 74 QP SG:=XP (T:=Ha) (ic:=Q8) (rs:=Q3) Zi ZJ Tryz.func74 (by kernel_rfl) (by kernel_rfl) (by kernel_rfl) c8w
theorem Sk:Zr Tryz.prog 71 (fun x:Lin×Lin×Int×Unit=>ZG x.1&&ZG x.2.1) (fun x:Lin×Lin×Int×Unit=>YI x.1 x.2.1 x.2.2.1):=Zr.of (T:=Aa) (ic:=Dk) (rs:=GK) (Zd (Yc Tryz.func41 (by kernel_rfl) V6) (Zd (Yc Tryz.func74 (by kernel_rfl) d7k) (Zd (Yc Tryz.func70 (by kernel_rfl) d8d) Zi))) ZJ Tryz.func71 (by kernel_rfl) (by kernel_rfl) (by kernel_rfl) a0n
theorem b2r:Zr Tryz.prog 38 (fun x:Lin×Lin×Unit=>ZG x.1&&ZG x.2.1) (fun x:Lin×Lin×Unit=>YI x.1 x.2.1 1):=Zr.of (T:=OM) (ic:=Rx) (rs:=TM) (Zd (Yc Tryz.func71 (by kernel_rfl) Sk) Zi) ZJ Tryz.func38 (by kernel_rfl) (by kernel_rfl) (by kernel_rfl) b6w
theorem a3b:Zr Tryz.prog 138 (fun x:Lin×Int×Unit=>ZG x.1) (fun x:Lin×Int×Unit=>VO x.1 x.2.1):=Zr.of (T:=Rz) (ic:=BZ) (rs:=BB) (Zd (Yc Tryz.func71 (by kernel_rfl) Sk) Zi) ZJ Tryz.func138 (by kernel_rfl) (by kernel_rfl) (by kernel_rfl) a5n
theorem Pn:Zr Tryz.prog 100 (fun x:Lin×Unit=>ZG x.1) (fun x:Lin×Unit=>Vn x.1):=Zr.of (T:=PG) (ic:=Bi) (rs:=Ah) (Zd (Yc Tryz.func138 (by kernel_rfl) a3b) (Zd (Yc Tryz.func38 (by kernel_rfl) b2r) (Zd (Yc Tryz.func139 (by kernel_rfl) b7k) Zi))) ZJ Tryz.func100 (by kernel_rfl) (by kernel_rfl) (by kernel_rfl) a4v
theorem c7y:Zr Tryz.prog 60 (fun x:Fact×Unit=>ZG x.1.l) (fun x:Fact×Unit=> !(Zm x.1.l)):=Zr.of (T:=c6j) (ic:=a6s) (rs:=a6i) (Zd (Yc Tryz.func41 (by kernel_rfl) V6) Zi) ZJ Tryz.func60 (by kernel_rfl) (by kernel_rfl) (by kernel_rfl) c9u
theorem d7r:Zr Tryz.prog 101 (fun x:List Fact×FnV 60×Unit=>Zt x.1) (fun x:List Fact×FnV 60×Unit=>Qx (fun f:Fact=> !(Zm f.l)) x.1):=Zr.of (T:=Ra) (ic:=G8) (rs:=GL) (Zd (Yc Tryz.func60 (by kernel_rfl) c7y) Zi) ZJ Tryz.func101 (by kernel_rfl) (by kernel_rfl) (by kernel_rfl) d2e
theorem d8f:Zr Tryz.prog 59 (fun x:List Fact×FnV 60×Unit=>Zt x.1) (fun x:List Fact×FnV 60×Unit=>x.1.any fun f:Fact=> !(Zm f.l)):=Zr.of (T:=b9a) (ic:=a6p) (rs:=a4u) (Zd (Yc Tryz.func101 (by kernel_rfl) d7r) Zi) ZJ Tryz.func59 (by kernel_rfl) (by kernel_rfl) (by kernel_rfl) d1h
theorem Qa:Zr Tryz.prog 28 (fun x:List Fact×Unit=>Zt x.1) (fun x:List Fact×Unit=>ZT x.1):=Zr.of (T:=TR) (ic:=BO) (rs:=BQ) (Zd (Yc Tryz.func59 (by kernel_rfl) d8f) Zi) ZJ Tryz.func28 (by kernel_rfl) (by kernel_rfl) (by kernel_rfl) a4n
theorem Ck:Yw Tryz.prog XA:=Zi
theorem a5r{cd:Code}(h:Kt Tryz.prog JN Tryz.f53 0=some cd):JQ Tryz.prog cd=some ⟨8,74,14,15⟩:=by
 have:(Kt Tryz.prog JN Tryz.f53 0).bind (JQ Tryz.prog)=some ⟨8,74,14,15⟩:=by kernel_rfl
 rw[h]at this
 exact this
theorem a0l(c:Ctx):b5g (U7 Ck ZJ) (fun n cd=>Kt Tryz.prog JN Tryz.f53 n=some cd) U6 c:=by
 rintro n cd hcd st a w q hr ⟨rfl,hE⟩
 exact d0q Ck ZJ (a5r hcd) hr hE
theorem a3d:ZA Tryz.prog 53 Wj Uu:=c5i (T:=XA) (ic:=YT) (rs:=YR) (E:=U6) (sel:=JN) Ck ZJ Tryz.func53 (by kernel_rfl) (by kernel_rfl) (by kernel_rfl) (fun _ _ _ c _=>a0l c) b4o b5d
theorem EH:ZA Tryz.prog 53 WK Qj:=c5i (T:=XA) (ic:=YT) (rs:=YR) (E:=U6) (sel:=JN) Ck ZJ Tryz.func53 (by kernel_rfl) (by kernel_rfl) (by kernel_rfl) (fun _ _ _ c _=>a0l c) b2p b5y
theorem Tw:Yw Tryz.prog Wq:=(Zd (Yc Tryz.func28 (by kernel_rfl) Qa) (Zd (Yc Tryz.func53 (by kernel_rfl) a3d) (Zd (Yc Tryz.func54 (by kernel_rfl) Ed) (Zd (Yc Tryz.func55 (by kernel_rfl) a5f) (Zd (Yc Tryz.func56 (by kernel_rfl) Ef) (Zd (Yc Tryz.func41 (by kernel_rfl) V6) Zi))))))
theorem c3k:Yw Tryz.prog LB:=(Zd (Yc Tryz.func28 (by kernel_rfl) Qa) (Zd (Yc Tryz.func53 (by kernel_rfl) EH) Zi))
theorem b5h{cd:Code}(h:Kt Tryz.prog JN Tryz.f24 0=some cd):JC Tryz.prog cd=some c1x:=by
 have:(Kt Tryz.prog JN Tryz.f24 0).bind (JC Tryz.prog)=some c1x:=by kernel_rfl
 rw[h]at this
 exact this
theorem c7r(c:Ctx)(hk : ∀ i m,0<=i->c.μ0 i m=none):b5g (U7 Tw ZJ) (fun n cd=>Kt Tryz.prog JN Tryz.f24 n=some cd) Rw c:=by
 rintro n cd hcd st a w q hr ⟨rfl,hE⟩
 exact b0f Tw ZJ (b5h hcd) hk hr hE
theorem d1e:Zr Tryz.prog 24 (fun x:List Fact×List Int×Unit=>(Zt x.1&&decide (x.1.length<=300))&&Nc x.1 x.2.1) (fun x:List Fact×List Int×Unit=>Y3 x.1 x.2.1):=Zr.ofX (T:=Wq) (ic:=WI) (rs:=Vk) (E:=Rw) (sel:=JN) Tw ZJ Tryz.func24 (by kernel_rfl) (by kernel_rfl) (by kernel_rfl) c7r fun⟨fs,ms,_⟩ h=>by
 simp only[Bool.and_eq_true,decide_eq_true_eq]at h
 exact c3h fs ms h.1.1 h.2 (d8o h.1.2 h.2)
theorem d0j:Zr Tryz.prog 24 (fun x:List Fact×List Int×Unit=>(Zt x.1&&decide (x.1.length<=300))&& !Nc x.1 x.2.1) (fun x:List Fact×List Int×Unit=>Y3 x.1 x.2.1):=Zr.ofX (T:=LB) (ic:=SH) (rs:=LV) (E:=fun _ _ _=>False) (sel:=JN) c3k ZJ Tryz.func24 (by kernel_rfl) (by kernel_rfl) (by kernel_rfl) (fun c hk n cd hcd st a w q hr hE=>hE.elim) fun⟨fs,ms,_⟩ h=>by
 simp only[Bool.and_eq_true,decide_eq_true_eq,Bool.not_eq_true']at h
 exact b7p fs ms h.1.1 h.2
theorem Ow:Zr Tryz.prog 24 (fun x:List Fact×List Int×Unit=>Zt x.1&&decide (x.1.length<=300)) (fun x:List Fact×List Int×Unit=>Y3 x.1 x.2.1):=Zr.or (fun x=>Nc x.1 x.2.1) d1e d0j
theorem Sb:Zr Tryz.prog 26 (fun x:Cert×Unit=>Y8 x.1) (fun x:Cert×Unit=>Yj x.1):=Zr.rec (fun a=>ZL a.1) fun N hN=>Zr.of (T:=K8 N) (ic:=QB) (rs:=QA) (Zd (Yc Tryz.func26 (by kernel_rfl) hN) Zi) ZJ Tryz.func26 (by kernel_rfl) (by kernel_rfl) (by kernel_rfl) (b0s N)
theorem a1v:Zr Tryz.prog 29 (fun x:Cert×Unit=>Y8 x.1) (fun x:Cert×Unit=>Yj x.1):=Zr.rec (fun a=>ZL a.1) fun N hN=>Zr.of (T:=QL N) (ic:=Ul) (rs:=Ux) (Zd (Yc Tryz.func29 (by kernel_rfl) hN) Zi) ZJ Tryz.func29 (by kernel_rfl) (by kernel_rfl) (by kernel_rfl) (a5h N)
theorem EZ:Zr Tryz.prog 99 (fun _:Cert×Int×Bool×Unit=>true) (fun x:Cert×Int×Bool×Unit=>Y0 x.1 x.2.1 x.2.2.1):=Zr.of (T:=a4l) (ic:=Om) (rs:=Ot) Zi ZJ Tryz.func99 (by kernel_rfl) (by kernel_rfl) (by kernel_rfl) c2g
theorem a9d:ZA Tryz.prog 98 XF JU:=XP (T:=a5p) (ic:=OC) (rs:=FN) Zi ZJ Tryz.func98 (by kernel_rfl) (by kernel_rfl) (by kernel_rfl) b8k
theorem a1z:Zr Tryz.prog 57 (fun x:List Fact×Cert×Unit=>Zt x.1&&ZT x.1&&Kh x.2.1&&decide (x.1.length+ZL x.2.1<=300)) (fun x:List Fact×Cert×Unit=>Xq x.1 x.2.1):=Zr.rec (fun a=>ZL a.2.1) fun N hN=>
 Zr.or (fun a=>Nc a.1 a.2.1.mults)
  (Zr.of (T:=a5v N) (ic:=SQ) (rs:=FQ) (Zd (Yc Tryz.func57 (by kernel_rfl) hN) (Zd (Yc Tryz.func98 (by kernel_rfl) a9d) (Zd (Yc Tryz.func53 (by kernel_rfl) a3d) (Zd (Yc Tryz.func99 (by kernel_rfl) EZ) (Zd (Yc Tryz.func24 (by kernel_rfl) Ow) (Zd (Yc Tryz.func100 (by kernel_rfl) Pn) Zi)))))) ZJ Tryz.func57 (by kernel_rfl) (by kernel_rfl) (by kernel_rfl) fun a h=>by
   simp only[Bool.and_eq_true]at h
   exact(a2v N a (by simp only[OT,Bool.and_eq_true];exact h.1)).1 h.2)
  (Zr.of (T:=a5b N) (ic:=Lc) (rs:=L6) (Zd (Yc Tryz.func57 (by kernel_rfl) hN) (Zd (Yc Tryz.func98 (by kernel_rfl) a9d) (Zd (Yc Tryz.func53 (by kernel_rfl) EH) (Zd (Yc Tryz.func99 (by kernel_rfl) EZ) (Zd (Yc Tryz.func24 (by kernel_rfl) Ow) (Zd (Yc Tryz.func100 (by kernel_rfl) Pn) Zi)))))) ZJ Tryz.func57 (by kernel_rfl) (by kernel_rfl) (by kernel_rfl) fun a h=>by
   simp only[Bool.and_eq_true,Bool.not_eq_true']at h
   exact(a2v N a (by simp only[OT,Bool.and_eq_true];exact h.1)).2 h.2)
theorem b6u:Zr Tryz.prog 25 (fun x:List Fact×Cert×Unit=>Zt x.1&&Kh x.2.1&&decide (x.1.length+ZL x.2.1<=300)) (fun x:List Fact×Cert×Unit=>V5 x.1 x.2.1):=Zr.of (T:=Fs) (ic:=RF) (rs:=R6) (Zd (Yc Tryz.func28 (by kernel_rfl) Qa) (Zd (Yc Tryz.func26 (by kernel_rfl) Sb) (Zd (Yc Tryz.func57 (by kernel_rfl) a1z) Zi))) ZJ Tryz.func25 (by kernel_rfl) (by kernel_rfl) (by kernel_rfl) b4b
theorem M8:Zr Tryz.prog 6 (fun x:Cert×Int×Unit=>Y8 x.1) (fun x:Cert×Int×Unit=>Xe x.1 x.2.1):=Zr.rec (fun a=>ZL a.1) fun N hN=>Zr.of (T:=Uj N) (ic:=Vq) (rs:=Vx) (Zd (Yc Tryz.func6 (by kernel_rfl) hN) (Zd (Yc Tryz.func14 (by kernel_rfl) a4c) (Zd (Yc Tryz.func29 (by kernel_rfl) a1v) Zi))) ZJ Tryz.func6 (by kernel_rfl) (by kernel_rfl) (by kernel_rfl) (a2f N)
theorem LC:Zr Tryz.prog 58 (fun x:Int×Unit=>decide (x.1=1)) (fun _:Int×Unit=>b0j):=Zr.of (T:=Rb) (ic:=Ga) (rs:=Ac) Zi ZJ Tryz.func58 (by kernel_rfl) (by kernel_rfl) (by kernel_rfl) a3k
theorem Lb:Zr Tryz.prog 58 (fun x:Int×Unit=>decide (x.1 = -1)) (fun _:Int×Unit=>b0c):=Zr.of (T:=Ph) (ic:=Aj) (rs:=Au) (Zd (Yc Tryz.func58 (by kernel_rfl) LC) Zi) ZJ Tryz.func58 (by kernel_rfl) (by kernel_rfl) (by kernel_rfl) a4h
theorem Nw:Zr Tryz.prog 27 (fun x:Lin×Unit=>decide (x.1=exL)) (fun _:Lin×Unit=>FO):=Zr.of (T:=Uk) (ic:=Vv) (rs:=Vu) (Zd (Yc Tryz.func18 (by kernel_rfl) CU) (Zd (Yc Tryz.func58 (by kernel_rfl) Lb) Zi)) ZJ Tryz.func27 (by kernel_rfl) (by kernel_rfl) (by kernel_rfl) a1h
theorem a3w:Zr Tryz.prog 23 (fun _:List Int×Unit=>true) (fun x:List Int×Unit=>Cert.mk 1 x.1 ⟨0,[]⟩ []):=Zr.of (T:=F6) (ic:=Rc) (rs:=RN) Zi ZJ Tryz.func23 (by kernel_rfl) (by kernel_rfl) (by kernel_rfl) b5r
theorem a6t:Zr Tryz.prog 5 (fun _:Unit=>true) (fun _:Unit=>true):=Zr.of (T:=Tv) (ic:=BD) (rs:=BH) (Zd (Yc Tryz.func22 (by kernel_rfl) b3t) (Zd (Yc Tryz.func21 (by kernel_rfl) a2s) (Zd (Yc Tryz.func23 (by kernel_rfl) a3w) (Zd (Yc Tryz.func24 (by kernel_rfl) Ow) (Zd (Yc Tryz.func25 (by kernel_rfl) b6u) (Zd (Yc Tryz.func26 (by kernel_rfl) Sb) (Zd (Yc Tryz.func27 (by kernel_rfl) Nw) (Zd (Yc Tryz.func28 (by kernel_rfl) Qa) Zi)))))))) ZJ Tryz.func5 (by kernel_rfl) (by kernel_rfl) (by kernel_rfl) a4d
end Go.Proofs.YtgllkpfiokkdhaaGreatDoor
namespace Go.Proofs.YtgllkpfiokkdhaaGreatDoor
open Go.Pl
open Enc (enc dec is)
open EncL (encL decL isL)
set_option maxRecDepth 100000
end Go.Proofs.YtgllkpfiokkdhaaGreatDoor
namespace Go.Proofs.YtgllkpfiokkdhaaGreatDoor
open Go.Pl
open Enc (enc dec is)
open EncL (encL decL isL)
set_option maxRecDepth 100000
theorem Tq:Zr Tryz.prog 49 (fun x:Lin×Lin×Unit=>Yb x.1) (fun x:Lin×Lin×Unit=>Nl x.1 x.2.1):=Zr.of (T:=Hg) (ic:=QO) (rs:=QU) Zi ZJ Tryz.func49 (by kernel_rfl) (by kernel_rfl) (by kernel_rfl) c4t
theorem LF:Zr Tryz.prog 19 (fun x:Lin×Lin×Unit=>Yb x.1) (fun x:Lin×Lin×Unit=>Nl x.1 x.2.1==0):=Zr.of (T:=c1f) (ic:=a3x) (rs:=a7a) (Zd (Yc Tryz.func49 (by kernel_rfl) Tq) Zi) ZJ Tryz.func19 (by kernel_rfl) (by kernel_rfl) (by kernel_rfl) c8x
end Go.Proofs.YtgllkpfiokkdhaaGreatDoor
namespace Go.Proofs.YtgllkpfiokkdhaaGreatDoor
open Go.Shelf
end Go.Proofs.YtgllkpfiokkdhaaGreatDoor
namespace Go.Proofs.YtgllkpfiokkdhaaGreatDoor
open Go.Pl Go.RowKit
open Enc (enc dec is)
open EncL (encL decL isL)
set_option maxRecDepth 100000
end Go.Proofs.YtgllkpfiokkdhaaGreatDoor
namespace Go.Proofs.YtgllkpfiokkdhaaGreatDoor
open Go.Pl
open Enc (enc dec is)
open EncL (encL decL isL)
set_option maxRecDepth 100000
end Go.Proofs.YtgllkpfiokkdhaaGreatDoor
namespace Go.Proofs.YtgllkpfiokkdhaaGreatDoor
open Go.Pl
open Enc (enc dec is)
open EncL (encL decL isL)
set_option maxRecDepth 100000
theorem Si:Zr Tryz.prog 104 (fun _:UInt8×Unit=>true) (fun x:UInt8×Unit=>x.1):=Zr.of (T:=Fv) (ic:=TF) (rs:=RX) Zi ZJ Tryz.func104 (by kernel_rfl) (by kernel_rfl) (by kernel_rfl) b5e
theorem Gv:Zr Tryz.prog 105 (fun _:UInt8×Unit=>true) (fun x:UInt8×Unit=>(255 - x.1:UInt8)):=Zr.of (T:=LK) (ic:=TV) (rs:=Rl) Zi ZJ Tryz.func105 (by kernel_rfl) (by kernel_rfl) (by kernel_rfl) b4t
theorem LW:Zr Tryz.prog 102 (fun x:U64×Unit=>decide (0<=x.1.n)&&decide (x.1.n<18446744073709551616)) (fun x:U64×Unit=>(Yl x.1.n.toNat:Int)):=Zr.of (T:=Dn) (ic:=Jd) (rs:=Jg) Zi ZJ Tryz.func102 (by kernel_rfl) (by kernel_rfl) (by kernel_rfl) c1z
theorem d8r:ZA Tryz.prog 103 (Jh 5 104 105) (Fx 105):=XP (T:=QH) (ic:=V4) (rs:=VP) (Zd (Yc Tryz.func104 (by kernel_rfl) Si) (Zd (Yc Tryz.func105 (by kernel_rfl) Gv) Zi)) ZJ Tryz.func103 (by kernel_rfl) (by kernel_rfl) (by kernel_rfl) c2c
theorem M9:ZA Tryz.prog 61 (Vl 5) HV:=XP (T:=a3l) (ic:=O3) (rs:=OQ) (Zd (Yc Tryz.func102 (by kernel_rfl) LW) (Zd (Yc Tryz.func103 (by kernel_rfl) d8r) Zi)) ZJ Tryz.func61 (by kernel_rfl) (by kernel_rfl) (by kernel_rfl) c6q
theorem FH:ZA Tryz.prog 62 VQ (Bb 5):=XP (T:=a6h) (ic:=OU) (rs:=Ou) Zi ZJ Tryz.func62 (by kernel_rfl) (by kernel_rfl) (by kernel_rfl) c5m
theorem a6v:Zr Tryz.prog 30 (fun x:List UInt8×Int×Unit=>decide (x.1.length<=1000000)) (fun x:List UInt8×Int×Unit=>x.1++Go.Pl.encI x.2.1):=Zr.of (T:=Bw) (ic:=Gb) (rs:=Hm) (Zd (Yc Tryz.func62 (by kernel_rfl) FH) (Zd (Yc Tryz.func61 (by kernel_rfl) M9) Zi)) ZJ Tryz.func30 (by kernel_rfl) (by kernel_rfl) (by kernel_rfl) c3x
theorem d6o:ZA Tryz.prog 81 (DI 5) Oe:=XP (T:=a5z) (ic:=Oc) (rs:=OL) (Zd (Yc Tryz.func61 (by kernel_rfl) M9) Zi) ZJ Tryz.func81 (by kernel_rfl) (by kernel_rfl) (by kernel_rfl) b9o
theorem Ey:Zr Tryz.prog 43 (fun x:List UInt8×Str×Unit=>decide (x.1.length<=1000000)&&decide (x.2.1.s.length<=1000000)) (fun x:List UInt8×Str×Unit=>x.1++Go.Pl.encS x.2.1.s):=Zr.of (T:=Od) (ic:=Rj) (rs:=TQ) (Zd (Yc Tryz.func62 (by kernel_rfl) FH) (Zd (Yc Tryz.func81 (by kernel_rfl) d6o) Zi)) ZJ Tryz.func43 (by kernel_rfl) (by kernel_rfl) (by kernel_rfl) b5q
theorem c4m:ZA Tryz.prog 30 Wy (WC 5):=XP (T:=Bw) (ic:=Gb) (rs:=Hm) (Zd (Yc Tryz.func62 (by kernel_rfl) FH) (Zd (Yc Tryz.func61 (by kernel_rfl) M9) Zi)) ZJ Tryz.func30 (by kernel_rfl) (by kernel_rfl) (by kernel_rfl) b3y
theorem b9b:ZA Tryz.prog 30 (QF 5) (JM 5):=c0w c4m
theorem Lj:Zr Tryz.prog 64 (fun x:Int×Unit=>true) (fun x:Int×Unit=>Wp x.1):=Zr.of (T:=X3) (ic:=Wi) (rs:=Xh) Zi ZJ Tryz.func64 (by kernel_rfl) (by kernel_rfl) (by kernel_rfl) a4q
theorem b0b:ZA Tryz.prog 33 Wy (WC 5):=XP (T:=Je) (ic:=U9) (rs:=Qc) (Zd (Yc Tryz.func64 (by kernel_rfl) Lj) Zi) ZJ Tryz.func33 (by kernel_rfl) (by kernel_rfl) (by kernel_rfl) c1j
theorem Jo:Zr Tryz.prog 33 (fun x:List UInt8×Int×Unit=>decide (x.1.length<=1000000)) (fun x:List UInt8×Int×Unit=>x.1++Go.Pl.encI x.2.1):=b2m b0b
theorem a0q:Zr Tryz.prog 44 (fun x:List UInt8×Str×Unit=>decide (x.1.length<=1000000)&&decide (x.2.1.s.length<=1000000)) (fun x:List UInt8×Str×Unit=>x.1++Go.Pl.encS x.2.1.s):=Zr.of (T:=TT) (ic:=Av) (rs:=BM) (Zd (Yc Tryz.func33 (by kernel_rfl) b0b) Zi) ZJ Tryz.func44 (by kernel_rfl) (by kernel_rfl) (by kernel_rfl) a4r
theorem a2g:Zr Tryz.prog 8 (fun x:List UInt8×List UInt8×Unit=>true) (fun x:List UInt8×List UInt8×Unit=>decide (x.1=x.2.1)):=Zr.of (T:=OX) (ic:=Rn) (rs:=Rv) Zi ZJ Tryz.func8 (by kernel_rfl) (by kernel_rfl) (by kernel_rfl) b2a
theorem Ns:Zr Tryz.prog 16 (fun x:List UInt8×Lin×Unit=>decide ((x.1++ZV x.2.1).length<=1000000)) (fun x:List UInt8×Lin×Unit=>x.1++ZV x.2.1):=Zr.of (T:=Q9) (ic:=UV) (rs:=UL) (Zd (Yc Tryz.func33 (by kernel_rfl) Jo) (Zd (Yc Tryz.func44 (by kernel_rfl) a0q) Zi)) ZJ Tryz.func16 (by kernel_rfl) (by kernel_rfl) (by kernel_rfl) b2i
theorem LQ:Zr Tryz.prog 123 (fun x:List UInt8×Unit=>decide (x.1.length<=9000000)) (fun x:List UInt8×Unit=>w3 (Yh x.1)):=Zr.ofS (T:=Y9) (ic:=YH) (rs:=YG) (Zd (Yc Tryz.func104 (by kernel_rfl) Si) (Zd (Yc Tryz.func105 (by kernel_rfl) Gv) Zi)) ZJ Tryz.func123 (by kernel_rfl) (by kernel_rfl) (by kernel_rfl) b6s
theorem EB:ZA Tryz.prog 124 Ve J4:=XP (T:=LZ) (ic:=Rm) (rs:=TW) Zi ZJ Tryz.func124 (by kernel_rfl) (by kernel_rfl) (by kernel_rfl) b2g
theorem SF:ZA Tryz.prog 84 YA WN:=XP (T:=a5w) (ic:=LM) (rs:=FR) (Zd (Yc Tryz.func123 (by kernel_rfl) LQ) (Zd (Yc Tryz.func124 (by kernel_rfl) EB) Zi)) ZJ Tryz.func84 (by kernel_rfl) (by kernel_rfl) (by kernel_rfl) c5e
theorem c3v:ZA Tryz.prog 83 JX QI:=XP (T:=Fg) (ic:=PP) (rs:=TA) (Zd (Yc Tryz.func84 (by kernel_rfl) SF) Zi) ZJ Tryz.func83 (by kernel_rfl) (by kernel_rfl) (by kernel_rfl) b4w
theorem c2y:ZA Tryz.prog 82 (JI 83) QI:=XP (T:=Oh) (ic:=PS) (rs:=Px) (Zd (Yc Tryz.func83 (by kernel_rfl) c3v) Zi) ZJ Tryz.func82 (by kernel_rfl) (by kernel_rfl) (by kernel_rfl) b7m
theorem EP:ZA Tryz.prog 45 Z5 VL:=XP (T:=LJ) (ic:=PT) (rs:=R8) (Zd (Yc Tryz.func82 (by kernel_rfl) c2y) Zi) ZJ Tryz.func45 (by kernel_rfl) (by kernel_rfl) (by kernel_rfl) b6a
theorem c6z:ZA Tryz.prog 87 YF DU:=XP (T:=Fa) (ic:=PE) (rs:=R5) (Zd (Yc Tryz.func84 (by kernel_rfl) SF) (Zd (Yc Tryz.func124 (by kernel_rfl) EB) Zi)) ZJ Tryz.func87 (by kernel_rfl) (by kernel_rfl) (by kernel_rfl) b4u
theorem c6o:ZA Tryz.prog 86 JK TG:=XP (T:=F3) (ic:=TN) (rs:=Pg) (Zd (Yc Tryz.func87 (by kernel_rfl) c6z) Zi) ZJ Tryz.func86 (by kernel_rfl) (by kernel_rfl) (by kernel_rfl) b2b
theorem c4h:ZA Tryz.prog 85 (JO 86) CY:=XP (T:=Fh) (ic:=TZ) (rs:=Ro) (Zd (Yc Tryz.func86 (by kernel_rfl) c6o) Zi) ZJ Tryz.func85 (by kernel_rfl) (by kernel_rfl) (by kernel_rfl) b3u
theorem b5u:ZA Tryz.prog 46 YF Ud:=XP (T:=PY) (ic:=Bo) (rs:=Ar) (Zd (Yc Tryz.func85 (by kernel_rfl) c4h) Zi) ZJ Tryz.func46 (by kernel_rfl) (by kernel_rfl) (by kernel_rfl) a3u
theorem Pk:Zr Tryz.prog 125 (fun x:List UInt8×Unit=>decide (x.1.length<=9000000)) (fun x:List UInt8×Unit=>w3 (Yh x.1)):=Zr.of (T:=XC) (ic:=Y1) (rs:=Y2) (Zd (Yc Tryz.func33 (by kernel_rfl) Jo) Zi) ZJ Tryz.func125 (by kernel_rfl) (by kernel_rfl) (by kernel_rfl) a5k
theorem b1z:ZA Tryz.prog 91 Kv Gh:=XP (T:=TY) (ic:=Bg) (rs:=Ad) Zi ZJ Tryz.func91 (by kernel_rfl) (by kernel_rfl) (by kernel_rfl) a5c
theorem O4:ZA Tryz.prog 90 YA WN:=XP (T:=a4z) (ic:=LD) (rs:=F4) (Zd (Yc Tryz.func125 (by kernel_rfl) Pk) Zi) ZJ Tryz.func90 (by kernel_rfl) (by kernel_rfl) (by kernel_rfl) c3p
theorem PK:ZA Tryz.prog 50 Z5 VL:=XP (T:=FV) (ic:=TP) (rs:=TE) (Zd (Yc Tryz.func90 (by kernel_rfl) O4) Zi) ZJ Tryz.func50 (by kernel_rfl) (by kernel_rfl) (by kernel_rfl) b2s
theorem b4c:ZA Tryz.prog 52 YF Ud:=XP (T:=TU) (ic:=BS) (rs:=BN) (Zd (Yc Tryz.func90 (by kernel_rfl) O4) (Zd (Yc Tryz.func91 (by kernel_rfl) b1z) Zi)) ZJ Tryz.func52 (by kernel_rfl) (by kernel_rfl) (by kernel_rfl) a7j
theorem b1e:ZA Tryz.prog 51 Ql Hq:=XP (T:=PR) (ic:=BU) (rs:=Bu) (Zd (Yc Tryz.func50 (by kernel_rfl) PK) Zi) ZJ Tryz.func51 (by kernel_rfl) (by kernel_rfl) (by kernel_rfl) a3h
theorem d0g:ZA Tryz.prog 17 ZZ Js:=QM (T:=Vw) (ic:=XV) (rs:=XQ) (Zd (Yc Tryz.func45 (by kernel_rfl) EP) (Zd (Yc Tryz.func46 (by kernel_rfl) b5u) (Zd (Yc Tryz.func41 (by kernel_rfl) V6) Zi))) ZJ Tryz.func17 (by kernel_rfl) (by kernel_rfl) (by kernel_rfl) c3a
theorem b8b:ZA Tryz.prog 20 ZZ Js:=QM (T:=Vf) (ic:=X4) (rs:=X0) (Zd (Yc Tryz.func50 (by kernel_rfl) PK) (Zd (Yc Tryz.func52 (by kernel_rfl) b4c) (Zd (Yc Tryz.func51 (by kernel_rfl) b1e) (Zd (Yc Tryz.func18 (by kernel_rfl) CU) Zi)))) ZJ Tryz.func20 (by kernel_rfl) (by kernel_rfl) (by kernel_rfl) b2f
end Go.Proofs.YtgllkpfiokkdhaaGreatDoor
namespace Go.Proofs.YtgllkpfiokkdhaaGreatDoor
open Go.Pl
open Enc (enc dec is)
open EncL (encL decL isL)
set_option maxRecDepth 100000
theorem c2s:Zr Tryz.prog 15 (fun x:List UInt8×Lin×Unit=>decide ((x.1++ZV x.2.1).length<=1000000)) (fun x:List UInt8×Lin×Unit=>x.1++ZV x.2.1):=Zr.of (T:=JL) (ic:=QZ) (rs:=Q5) (Zd (Yc Tryz.func30 (by kernel_rfl) a6v) (Zd (Yc Tryz.func43 (by kernel_rfl) Ey) Zi)) ZJ Tryz.func15 (by kernel_rfl) (by kernel_rfl) (by kernel_rfl) c0c
theorem c5b:ZA Tryz.prog 63 (KS 61) (Dx 5):=XP (T:=Jj) (ic:=QG) (rs:=Qr) (Zd (Yc Tryz.func62 (by kernel_rfl) FH) (Zd (Yc Tryz.func61 (by kernel_rfl) M9) Zi)) ZJ Tryz.func63 (by kernel_rfl) (by kernel_rfl) (by kernel_rfl) b3l
theorem Ei:Zr Tryz.prog 31 (fun x:List UInt8×List Int×Unit=>decide ((x.1++Go.Pl.encIs x.2.1).length<=1000000)) (fun x:List UInt8×List Int×Unit=>x.1++Go.Pl.encIs x.2.1):=Zr.of (T:=La) (ic:=PQ) (rs:=Rt) (Zd (Yc Tryz.func63 (by kernel_rfl) c5b) Zi) ZJ Tryz.func31 (by kernel_rfl) (by kernel_rfl) (by kernel_rfl) b2t
theorem EN:Zr Tryz.prog 32 (fun x:List UInt8×List Int×Unit=>decide ((x.1++Go.Pl.encIs x.2.1).length<=1000000)) (fun x:List UInt8×List Int×Unit=>x.1++Go.Pl.encIs x.2.1):=Zr.of (T:=QS) (ic:=UQ) (rs:=UT) (Zd (Yc Tryz.func33 (by kernel_rfl) Jo) Zi) ZJ Tryz.func32 (by kernel_rfl) (by kernel_rfl) (by kernel_rfl) b5k
theorem b8h:ZA Tryz.prog 7 (Qp 5) (X6 5):=ZA.recN Ji fun N hN=>c5n (XP (T:=Dj N) (ic:=Jb) (rs:=K9) (Zd (Yc Tryz.func30 (by kernel_rfl) b9b) (Zd (Yc Tryz.func31 (by kernel_rfl) Ei) (Zd (Yc Tryz.func15 (by kernel_rfl) c2s) (Zd (Yc Tryz.func7 (by kernel_rfl) hN) Zi)))) ZJ Tryz.func7 (by kernel_rfl) (by kernel_rfl) (by kernel_rfl) (c7n N))
theorem c2f:ZA Tryz.prog 7 Vb (Dy 5):=b7i b8h
theorem NB:Zr Tryz.prog 9 (fun x:List UInt8×Cert×Unit=>Y8 x.2.1&&decide ((x.1++Go.Pl.encC x.2.1).length<=1000000)) (fun x:List UInt8×Cert×Unit=>x.1++Go.Pl.encC x.2.1):=Zr.rec (fun a=>ZL a.2.1) fun N hN=>Zr.of (T:=QQ N) (ic:=UK) (rs:=UH) (Zd (Yc Tryz.func33 (by kernel_rfl) Jo) (Zd (Yc Tryz.func32 (by kernel_rfl) EN) (Zd (Yc Tryz.func16 (by kernel_rfl) Ns) (Zd (Yc Tryz.func9 (by kernel_rfl) hN) Zi)))) ZJ Tryz.func9 (by kernel_rfl) (by kernel_rfl) (by kernel_rfl) (b1m N)
theorem c3j:ZA Tryz.prog 109 Jm Ob:=XP (T:=Lm) (ic:=P9) (rs:=Pq) (Zd (Yc Tryz.func84 (by kernel_rfl) SF) Zi) ZJ Tryz.func109 (by kernel_rfl) (by kernel_rfl) (by kernel_rfl) b4f
theorem c4j:ZA Tryz.prog 108 (J8 109) CW:=QM (T:=VV) (ic:=Wx) (rs:=Wz) (Zd (Yc Tryz.func84 (by kernel_rfl) SF) (Zd (Yc Tryz.func109 (by kernel_rfl) c3j) Zi)) ZJ Tryz.func108 (by kernel_rfl) (by kernel_rfl) (by kernel_rfl) b3f
theorem b2v:ZA Tryz.prog 107 KH BL:=QM (T:=PN) (ic:=Al) (rs:=Bp) (Zd (Yc Tryz.func108 (by kernel_rfl) c4j) Zi) ZJ Tryz.func107 (by kernel_rfl) (by kernel_rfl) (by kernel_rfl) a5g
theorem b9j:ZA Tryz.prog 106 (JS 107) DK:=QM (T:=Ti) (ic:=Bc) (rs:=D8) (Zd (Yc Tryz.func107 (by kernel_rfl) b2v) Zi) ZJ Tryz.func106 (by kernel_rfl) (by kernel_rfl) (by kernel_rfl) b7f
theorem b6q:ZA Tryz.prog 65 Xg Uh:=QM (T:=Po) (ic:=Ay) (rs:=Ab) (Zd (Yc Tryz.func106 (by kernel_rfl) b9j) Zi) ZJ Tryz.func65 (by kernel_rfl) (by kernel_rfl) (by kernel_rfl) a5u
theorem b1n:ZA Tryz.prog 66 Xg Uh:=QM (T:=WE) (ic:=XD) (rs:=XB) (Zd (Yc Tryz.func90 (by kernel_rfl) O4) Zi) ZJ Tryz.func66 (by kernel_rfl) (by kernel_rfl) (by kernel_rfl) a7l
theorem Lx:ZA Tryz.prog 34 YE (VU false):=ZA.recN (WQ false) fun N hN=>QM (T:=Vr N) (ic:=XU) (rs:=XR) (Zd (Yc Tryz.func45 (by kernel_rfl) EP) (Zd (Yc Tryz.func65 (by kernel_rfl) b6q) (Zd (Yc Tryz.func17 (by kernel_rfl) d0g) (Zd (Yc Tryz.func34 (by kernel_rfl) hN) Zi)))) ZJ Tryz.func34 (by kernel_rfl) (by kernel_rfl) (by kernel_rfl) (c3d N)
theorem Oq:ZA Tryz.prog 35 YE (VU true):=ZA.recN (WQ true) fun N hN=>QM (T:=Vm N) (ic:=X8) (rs:=X5) (Zd (Yc Tryz.func50 (by kernel_rfl) PK) (Zd (Yc Tryz.func66 (by kernel_rfl) b1n) (Zd (Yc Tryz.func20 (by kernel_rfl) b8b) (Zd (Yc Tryz.func35 (by kernel_rfl) hN) Zi)))) ZJ Tryz.func35 (by kernel_rfl) (by kernel_rfl) (by kernel_rfl) (b1l N)
theorem Fw:ZA Tryz.prog 10 ZZ Z0:=QM (T:=Dw) (ic:=JD) (rs:=JV) (Zd (Yc Tryz.func34 (by kernel_rfl) Lx) Zi) ZJ Tryz.func10 (by kernel_rfl) (by kernel_rfl) (by kernel_rfl) b5b
theorem FK:ZA Tryz.prog 11 ZZ Z0:=QM (T:=JY) (ic:=KN) (rs:=KJ) (Zd (Yc Tryz.func35 (by kernel_rfl) Oq) Zi) ZJ Tryz.func11 (by kernel_rfl) (by kernel_rfl) (by kernel_rfl) a4f
theorem PD: ∀ (xs:List PV) (e:PV),ZZ [.ptr 0 0] [.box [.pv (.sl 1 false xs),.pv e]]=true-> ∃ p a b,Z0 [.ptr 0 0] [.box [.pv (.sl 1 false xs),.pv e]]=(.pv p,[.box [.pv a,.pv b]],[]):=by
 intro xs e h
 unfold ZZ at h
 split at h
 ·rename_i p err h1 h2
  cases h2
  exact⟨_,_,_,rfl⟩
 ·rename_i h1 h2;cases h2
 ·cases h
theorem Nk:ZA Tryz.prog 10 (GH ZZ Z0) (LY Z0):=ZA.frzBox Fw PD
theorem NE:ZA Tryz.prog 11 (GH ZZ Z0) (LY Z0):=ZA.frzBox FK PD
theorem NC:Zr Tryz.prog 19 (fun x:Lin×Lin×Unit=>Yb x.1) (fun x:Lin×Lin×Unit=>decide (x.1=x.2.1)):=by
 have h:(fun x:Lin×Lin×Unit=>Nl x.1 x.2.1==0)=(fun x:Lin×Lin×Unit=>decide (x.1=x.2.1)):=funext fun x=>Cm.cmpL_dec x.1 x.2.1
 rw[<- h]
 exact LF
theorem SC:Zr Tryz.prog 36 (fun x:List Int×List Int×Unit=>a8e x.1) (fun x:List Int×List Int×Unit=>decide (x.1=x.2.1)):=Zr.of (T:=QE) (ic:=Us) (rs:=Ue) Zi ZJ Tryz.func36 (by kernel_rfl) (by kernel_rfl) (by kernel_rfl) a3t
theorem d0b:Zr Tryz.prog 12 (fun x:Cert×Cert×Unit=>Y8 x.1&&Y8 x.2.1) (fun x:Cert×Cert×Unit=>OZ x.1 x.2.1):=Zr.rec (fun a=>ZL a.1) fun N hN=>Zr.of (T:=J9 N) (ic:=Q7) (rs:=QT) (Zd (Yc Tryz.func36 (by kernel_rfl) SC) (Zd (Yc Tryz.func19 (by kernel_rfl) NC) (Zd (Yc Tryz.func12 (by kernel_rfl) hN) Zi))) ZJ Tryz.func12 (by kernel_rfl) (by kernel_rfl) (by kernel_rfl) (c3l N)
theorem c6y:Zr Tryz.prog 3 (fun x:Cert×List UInt8×Unit=>Y8 x.1) (fun _:Cert×List UInt8×Unit=>true):=Zr.of (T:=Xz) (ic:=YQ) (rs:=YP) (Zd (Yc Tryz.func5 (by kernel_rfl) a6t) (Zd (Yc Tryz.func6 (by kernel_rfl) M8) (Zd (Yc Tryz.func7 (by kernel_rfl) c2f) (Zd (Yc Tryz.func9 (by kernel_rfl) NB) (Zd (Yc Tryz.func8 (by kernel_rfl) a2g) (Zd (Yc Tryz.func10 (by kernel_rfl) Nk) (Zd (Yc Tryz.func11 (by kernel_rfl) NE) (Zd (Yc Tryz.func12 (by kernel_rfl) d0b) Zi)))))))) ZJ Tryz.func3 (by kernel_rfl) (by kernel_rfl) (by kernel_rfl) b7a
end Go.Proofs.YtgllkpfiokkdhaaGreatDoor
namespace Go.Proofs.YtgllkpfiokkdhaaGreatDoor
open Go.Pl
open Enc (enc dec is)
open EncL (encL decL isL)
set_option maxRecDepth 100000
theorem SS:Tryz.prog.underlying 3=some (.int .i64):=by kernel_rfl
theorem d3c:Tryz.prog.underlying 9=some .string:=by kernel_rfl
theorem c4e:Tryz.prog.underlying 22=some (.slice 3):=by kernel_rfl
theorem c4w:Tryz.prog.underlying 23=some (.slice 80):=by kernel_rfl
theorem c6i:Tryz.prog.underlying 26=some (.slice 28):=by kernel_rfl
theorem SN:Tryz.prog.cellsOf 3=1:=by kernel_rfl
theorem c9x:Tryz.prog.cellsOf 9=1:=by kernel_rfl
theorem c4l:Tryz.prog.cellsOf 22=1:=by kernel_rfl
theorem c5l:Tryz.prog.cellsOf 23=1:=by kernel_rfl
theorem c1d:Tryz.prog.cellsOf 26=1:=by kernel_rfl
theorem EM:Tryz.prog.cellsOf 80=2:=by kernel_rfl
theorem EO:Tryz.prog.cellsOf 25=2:=by kernel_rfl
theorem a1d:Tryz.prog.cellsOf 28=5:=by kernel_rfl
theorem d6s:Xo Tryz.prog 80=true:=by kernel_rfl
theorem d8s:Xo Tryz.prog 28=true:=by kernel_rfl
theorem c5w:D5 Tryz.prog 80=some [(0,9),(1,3)]:=by kernel_rfl
theorem b9c:D5 Tryz.prog 25=some [(0,3),(1,23)]:=by kernel_rfl
theorem c0t:D5 Tryz.prog 28=some [(0,3),(1,22),(2,25),(4,26)]:=by kernel_rfl
theorem SK{α:Type}[Enc α]{P:α->Prop}{f:List PV->PV}: ∀ {qs:List (List PV)},(∀ q∈qs,∃ a:α,f q=enc a∧P a)-> ∃ l:List α,qs.map f=l.map enc∧ ∀ a∈l,P a
 | [],_=>⟨[],rfl,fun a h=>by cases h⟩
 | q::qs,h=>by
  obtain⟨a,h1,h2⟩:=h q (by simp)
  obtain⟨l,h3,h4⟩:=SK (qs:=qs) fun r hr=>h r (by simp[hr])
  refine⟨a::l,by rw[List.map_cons,List.map_cons,h1,h3],fun b hb=> ?_⟩
  rcases List.mem_cons.1 hb with rfl|hb
  ·exact h2
  ·exact h4 b hb
theorem Ew{α:Type}[Enc α]{f:List PV->PV}{qs:List (List PV)}{l:List α}(h:qs.map f=l.map enc):l.length=qs.length:=by
 have:=congrArg List.length h
 simpa using this.symm
theorem d2c{n:Nat}{q:List PV}(h:Wv Tryz.prog n 80 q): ∃ t:Coef,Dq Tryz.prog 80 q=enc t∧True:=by
 obtain⟨m,_,hl,h0,h1,_⟩:=JR c5w EM h
 match q,hl with
 | [a,b],_=>
  rw[c9x]at h0
  rw[SN]at h1
  obtain⟨o,e0,w0⟩:=c1m d3c h0
  obtain⟨k,e1,w1⟩:=He SS h1
  simp at e0 e1
  subst e0 e1
  exact⟨⟨⟨o⟩,k⟩,by rw[Dq,d6s];rfl,trivial⟩
theorem d4g{n:Nat}{q:List PV}(h:Wv Tryz.prog n 23 q): ∃ l:List Coef,q=[enc l]∧l.length<=9223372036854775807:=by
 obtain⟨m,_,qs,rfl,hl,hq⟩:=K6 c4w EM h
 obtain⟨l,e,_⟩:=SK (α:=Coef) (P:=fun _=>True) (f:=Dq Tryz.prog 80) fun x hx=>d2c (hq x hx).2
 have hl:qs.length<=9223372036854775807:=hl
 exact⟨l,by rw[e];rfl,by rw[Ew e];exact hl⟩
theorem c9j{n:Nat}{q:List PV}(h:Wv Tryz.prog n 22 q): ∃ l:List Int,q=[enc l]∧l.length<=9223372036854775807:=by
 obtain⟨d,rfl,l1,_⟩:=b4y c4e SS SN h
 exact⟨d,rfl,l1⟩
theorem c8h{n:Nat}{a b:PV}(h:Wv Tryz.prog n 25 [a,b]): ∃ l:Lin,a=enc l.k∧b=enc l.t∧Yb l=true:=by
 obtain⟨m,_,hl,h0,h1,_⟩:=JR b9c EO h
 rw[SN]at h0
 rw[c5l]at h1
 obtain⟨o,e0,w0⟩:=He SS h0
 obtain⟨t,e1,l1⟩:=d4g h1
 simp at e0 e1
 subst e0 e1
 exact⟨⟨o,t⟩,rfl,rfl,by simp only[Yb];exact decide_eq_true l1⟩
theorem a9l: ∀ {l:List Cert},(∀ c∈l,Y8 c=true)->Ug l=true
 | [],_=>rfl
 | c::l,h=>by simp only[Ug,h c (by simp),a9l (l:=l) fun d hd=>h d (by simp[hd])];rfl
theorem b4e: ∀ (n:Nat) {q:List PV},Wv Tryz.prog n 28 q-> ∃ c:Cert,Dq Tryz.prog 28 q=enc c∧Y8 c=true:=by
 intro n
 induction n using Nat.strongRecOn with
 | ind n ih=>
  intro q h
  obtain⟨m,hm,hl,h0,h1,h2,h3,_⟩:=JR c0t a1d h
  match q,hl with
  | [a,b,c,d,e],_=>
   rw[SN]at h0
   rw[c4l]at h1
   rw[EO]at h2
   rw[c1d]at h3
   obtain⟨o,e0,w0⟩:=He SS h0
   obtain⟨ms,e1,l1⟩:=c9j h1
   obtain⟨l,e2,e3,l2⟩:=c8h (a:=c) (b:=d) h2
   obtain⟨m',hm',qs,e4,l4,hq⟩:=K6 c6i a1d h3
   obtain⟨ks,e5,hk⟩:=SK (α:=Cert) (P:=fun c=>Y8 c=true) (f:=Dq Tryz.prog 28) fun x hx=>ih m' (by omega) (hq x hx).2
   have l4:qs.length<=9223372036854775807:=l4
   simp at e0 e1 e4
   subst e0 e1 e2 e3 e4
   refine⟨.mk o ms l ks,?_,?_⟩
   ·rw[Dq,d8s,ZO,e5];rfl
   ·simp only[Y8,l2,a9l hk,Ew e5]
    rw[decide_eq_true l1,decide_eq_true l4]
    rfl
end Go.Proofs.YtgllkpfiokkdhaaGreatDoor
namespace Go.Proofs.YtgllkpfiokkdhaaGreatDoor
open Go.Pl
open Enc (enc dec is)
open EncL (encL decL isL)
set_option maxRecDepth 100000
theorem c2h:Tryz.prog.underlying 5=some (.int .u8):=by kernel_rfl
theorem b5w:Tryz.prog.underlying 29=some (.slice 5):=by kernel_rfl
theorem c0x:Tryz.prog.cellsOf 5=1:=by kernel_rfl
theorem d8g:Xo Tryz.prog 5=false:=by kernel_rfl
theorem d0p:Xo Tryz.prog 29=false:=by kernel_rfl
theorem d4d{n:Nat}{q:List PV}(h:Wv Tryz.prog n 5 q): ∃ c:UInt8,Dq Tryz.prog 5 q=enc c∧True:=by
 obtain⟨m,rfl,hm⟩:=He c2h h
 have h1:0<=m∧m<256:=by
  have:=hm
  simp only[Lit.wf,Bool.and_eq_true,decide_eq_true_eq,show IntKind.u8.min=0 by decide,show IntKind.u8.max=255 by decide]at this
  omega
 refine⟨UInt8.ofNat m.toNat,?_,trivial⟩
 rw[Dq,d8g]
 show PV.int .u8 m=PV.int .u8 ((UInt8.ofNat m.toNat).toNat:Int)
 rw[UInt8.toNat_ofNat']
 congr 1
 omega
theorem a4o{n:Nat}{q:List PV}(h:Wv Tryz.prog n 29 q): ∃ l:List UInt8,Dq Tryz.prog 29 q=enc l:=by
 obtain⟨m,_,qs,rfl,hl,hq⟩:=K6 b5w c0x h
 obtain⟨l,e,_⟩:=SK (α:=UInt8) (P:=fun _=>True) (f:=Dq Tryz.prog 5) fun x hx=>d4d (hq x hx).2
 exact⟨l,by rw[Dq,d0p,e];rfl⟩
end Go.Proofs.YtgllkpfiokkdhaaGreatDoor
namespace Go.Proofs.YtgllkpfiokkdhaaGreatDoor
open Go.Pl
open Enc (enc dec is)
open EncL (encL decL isL)
set_option maxRecDepth 100000
theorem a6b{n0 n1:Nat}{q0 q1:List PV}(h0:Wv Tryz.prog n0 28 q0)(h1:Wv Tryz.prog n1 29 q1):
  preT (fun x:Cert×List UInt8×Unit=>Y8 x.1) [Dq Tryz.prog 28 q0,Dq Tryz.prog 29 q1]=true:=by
 obtain⟨c,e0,c1⟩:=b4e n0 h0
 obtain⟨b,e1⟩:=a4o h1
 rw[e0,e1]
 exact Zo (c,b,()) rfl c1
end Go.Proofs.YtgllkpfiokkdhaaGreatDoor
