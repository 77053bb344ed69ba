/-
  Texts of mine that belong together (packed by pack.py), for every input: Post, PlGl, LaidY, Sh, ShB, OkCe, OkN, OkR, ShC, ShD, ShI, Ci, OkWk, OpY, OpZ, OpWk.
-/
import Derived.Test.YtjfgiaooglnomaaGreatDoorChecked
import Derived.Test.YtjfgiaooglnomaaGreatDoorRows
import Derived.Test.YtjfgiaooglnomaaGreatDoorKI2
import Derived.Test.YtjfgiaooglnomaaGreatDoorKI3
import Derived.Test.YtjfgiaooglnomaaGreatDoorKI4
import Derived.Test.YtjfgiaooglnomaaGreatDoorKI5
import Derived.Below
import Derived.ChangeSame
import Derived.ChangeShapes
import Derived.ChangeSlices
import Derived.WideShapes
import Derived.RowKit
import Derived.Stop.LaidErr
import Derived.Lib.LaidTab
import Derived.Shelf.Strconv.AtoiAll
import Derived.Shelf.Strconv.Itoa3
import Derived.Shelf.Strings.Prefix
import Derived.Shelf.Sort.Plain
import Derived.Shelf.Small.Strs
import Derived.Shelf.Slices.In.SortNone
import Derived.KernelRfl
import Derived.Shelf.Strings.Trim
import Derived.Shelf.Spec.SlicesInsert
import Derived.Shelf.Spec.SlicesInsertGrow
import Derived.WalkKit
import Derived.Deep.LoopGhost
import Derived.Lib.Walk
import Derived.Lib.SliceRun
set_option linter.unusedVariables false
set_option linter.unusedSimpArgs false
namespace Go.Proofs.YtjfgiaooglnomaaGreatDoor
open Go.RowKit Go.WideShapes Go.ChangeShapes
section
variable {H:Type} {enc:TypeId×Value->H} {P:Program}
theorem Bl{f:Func}{s:ChangeSpec}{apart fresh handsOn again:Bool}{W W':World}{args:Array Value}{v:Value}{ds gs:List (DataW H)}{before pa pv:List MemPlace}
  (hW:DataW.Whole enc P f.params.toList s.vars apart W args.toList ds gs before)
  (hres : ∀ (b:Nat) (sp:Nat->Bool) (hd:Bool),DataW.TrodAll enc P W' b sp hd f.resultTypes.toList (v.resultList f.resultTypes.size) (s.fn H (ds++gs)).results [])
  (hargs : ∀ sp:Nat->Bool,(∀ p∈before,sp p.block=true)->DataW.TrodAll enc P W' 0 sp true f.params.toList args.toList (s.fn H (ds++gs)).args pa)
  (hvars : ∀ sp:Nat->Bool,(∀ p∈before,sp p.block=true)->DataW.TrodVars enc P W' sp s.vars (s.fn H (ds++gs)).vars pv)
  (hps:before=pa++pv) (hb:Below W.heap.size W W')
  (hok : ∀ (j:Nat) (t:TypeId) (r:Value),f.resultTypes[j]? = some t->(v.resultList f.resultTypes.size)[j]? = some r->Value.okWide P W' .any 0 t r) :
  s.post enc P f apart fresh handsOn again W args v W':=by
 have hlt : ∀ p∈before,p.block<W.heap.size:=fun p hp=>hW.lt p hp
 have hold : ∀ p∈before,(fun b=>decide (b<W.heap.size)) p.block=true:=fun p hp=>by simpa using hlt p hp
 refine⟨ds,gs,before,[],pa,pv,hW,hres _ _ _,hargs _ hold,hvars _ hold,World.keptBut_mono (fun p hp=>⟨hp,?_⟩) (hb.frame (· ∈ before)),fun _=> ?_⟩
 ·rw[hps,List.mem_append]at hp
  exact Or.inr hp
 ·obtain⟨_,_,_,_,_,hz,hn⟩:=hW
  refine⟨hok,_,_,([]++pa)++pv,⟨[]++pa,pv,trodAll_append (hargs _ (fun _ _=>rfl)) (hres _ _ _),hvars _ (fun _ _=>rfl),rfl,?_,?_⟩,?_⟩
  ·intro b off hp
   have hin:MemPlace.cell b off∈before:=by rw[hps];simpa using hp
   rw[hb.frozen (hlt _ hin)]
   exact hz b off hin
  ·intro ha
   have:=hn ha
   rw[hps]at this
   simpa using this
  ·intro p hp _
   rw[hps]
   simpa using hp
end
end Go.Proofs.YtjfgiaooglnomaaGreatDoor

namespace Go.Pl
open Go.RowKit Go.WideShapes Go.ChangeShapes
def Bg(w:World):ZV:=fun b=>match w.heap[b]? with|some (.cells cs _ _)=>some cs|_=>none
theorem b7z(w:World):XY (Bg w) w:=fun b cs h=>by
 unfold Bg at h
 split at h
 ·rename_i c T fz hb
  cases h
  exact⟨T,fz,hb⟩
 ·cases h
def K9(P:Program)(e:TypeId)(ps:List PV):PV:=match YJ P e with|true=>.agg ps|false=>ps.headD .nilp
def Y7(P:Program):Nat->TypeId->List PV->Prop
 | 0,_,_=>False
 | n+1,t,ps=>match P.underlying t with
  | some .bool=> ∃ b,ps=[.bool b]
  | some (.int k)=> ∃ m,ps=[.int k m]∧(Lit.int k m).wf=true
  | some .string=> ∃ s:List UInt8,ps=[.str s]∧s.length<=maxLen
  | some (.slice e)=> ∃ qs:List (List PV),ps=[.sl (P.cellsOf e) false (qs.map (K9 P e))]∧qs.length<=maxLen∧ ∀ q∈qs,q.length=P.cellsOf e∧Y7 P n e q
  | some (.struct fs)=>ps.length=P.cellsOf t∧ ∀ f∈fs.toList,Y7 P n f.type ((ps.drop f.offset).take (P.cellsOf f.type))
  | some (.array m e)=>ps.length=P.cellsOf t∧ ∀ i<m,Y7 P n e ((ps.drop (i*P.cellsOf e)).take (P.cellsOf e))
  | _=>False
def Qw(P:Program):Nat->List Field->Nat->Bool
 | o,[],n=>o==n
 | o,f::fs,n=>f.offset==o&&Qw P (o+P.cellsOf f.type) fs n
def TI(P:Program)(S:List TypeId):Bool:=S.all fun t=>match P.underlying t with
 | some .bool|some (.int _)|some .string=>P.cellsOf t==1
 | some (.slice e)=>P.cellsOf t==1&&S.contains e&&decide (0<P.cellsOf e)&&(YJ P e||P.cellsOf e==1)
 | some (.struct fs)=>Qw P 0 fs.toList (P.cellsOf t)&&fs.toList.all fun f=>S.contains f.type
 | some (.array m e)=>S.contains e&&m*P.cellsOf e==P.cellsOf t
 | _=>false
section
variable {H:Type} {enc:TypeId×Value->H} {P:Program} {w:World} {base:Nat} {sp:Nat->Bool} {held:Bool} {S:List TypeId}
theorem DU{α β:Type}{f:α->Option β}: ∀ {l:List α} {r:List β},l.mapM f=some r->r.length=l.length∧ ∀ (j:Nat) x y,l[j]? = some x->r[j]? = some y->f x=some y:=by
 intro l
 induction l with
 | nil=>intro r h;simp at h;subst h;exact⟨rfl,fun j x y h=>by simp at h⟩
 | cons a l ih=>
  intro r h
  simp only[List.mapM_cons,Option.bind_eq_bind,Option.bind_eq_some_iff]at h
  obtain⟨b,hb,bs,hbs,h⟩:=h
  simp at h
  subst h
  obtain⟨h1,h2⟩:=ih hbs
  refine⟨by simp[h1],fun j x y hx hy=> ?_⟩
  cases j with
  | zero=>cases hx;cases hy;exact hb
  | succ j=>exact h2 j x y hx hy
def Cl(w:World)(cs:List Value)(ps:List PV):Prop:=Wu (Bg w) cs ps∧YB cs
theorem Cl.one{v:Value}{p:PV}(h:RP (Bg w) v p)(h1:v.oneCell'=true):Cl w [v] [p]:=⟨⟨rfl,fun j x q hx hq=>match j with
 | 0=>by cases hx;cases hq;exact h
 | j+1=>by simp at hx⟩,fun v hv=>by simp at hv;subst hv;exact h1⟩
theorem Cl.append{cs ds:List Value}{ps qs:List PV}(h:Cl w cs ps)(k:Cl w ds qs):Cl w (cs++ds) (ps++qs):=by
 refine⟨⟨by simp[h.1.1,k.1.1],fun j v p hv hp=> ?_⟩,fun v hv=> ?_⟩
 ·by_cases hj:j<cs.length
  ·rw[List.getElem?_append_left hj]at hv
   rw[List.getElem?_append_left (by rw[<- h.1.1];exact hj)]at hp
   exact h.1.2 j v p hv hp
  ·rw[List.getElem?_append_right (by omega)]at hv
   rw[List.getElem?_append_right (by rw[<- h.1.1];omega),<- h.1.1]at hp
   exact k.1.2 _ v p hv hp
 ·rcases List.mem_append.1 hv with h'|h'
  ·exact h.2 v h'
  ·exact k.2 v h'
theorem Cl.nil:Cl w [] []:=⟨⟨rfl,fun j v p h=>by simp at h⟩,fun v h=>by simp at h⟩
theorem Au(hS:TI P S=true){t:TypeId}(ht:t∈S):(match P.underlying t with
 | some .bool|some (.int _)|some .string=>P.cellsOf t==1
 | some (.slice e)=>P.cellsOf t==1&&S.contains e&&decide (0<P.cellsOf e)&&(YJ P e||P.cellsOf e==1)
 | some (.struct fs)=>Qw P 0 fs.toList (P.cellsOf t)&&fs.toList.all fun f=>S.contains f.type
 | some (.array m e)=>S.contains e&&m*P.cellsOf e==P.cellsOf t
 | _=>false)=true:=List.all_eq_true.1 hS t ht
theorem Nv{n:Nat}{cs:List Value}(ih : ∀ (t:TypeId) (cs:List Value) (x:DataW H×List MemPlace),t∈S->DataW.trod enc P w base sp held n t cs=some x-> ∃ ps,Cl w cs ps∧Y7 P n t ps):
  ∀ (fs:List Field) (o N:Nat) (xs:List (DataW H×List MemPlace)),Qw P o fs N=true->(∀ f∈fs,f.type∈S)->cs.length=N->o<=N ->
   fs.mapM (fun f=>DataW.trod enc P w base sp held n f.type ((cs.drop f.offset).take (P.cellsOf f.type)))=some xs ->
   ∃ ps,Cl w (cs.drop o) ps∧ ∀ qs:List PV,qs.length=o-> ∀ f∈fs,Y7 P n f.type (((qs++ps).drop f.offset).take (P.cellsOf f.type)):=by
 intro fs
 induction fs with
 | nil=>
  intro o N xs hc _ hl ho _
  simp[Qw]at hc
  refine⟨[],?_,fun qs _ f hf=>by simp at hf⟩
  rw[List.drop_of_length_le (by omega)]
  exact Cl.nil
 | cons f fs ihf=>
  intro o N xs hc hm hl ho h
  simp only[Qw,Bool.and_eq_true,beq_iff_eq]at hc
  obtain⟨hfo,hc⟩:=hc
  simp only[List.mapM_cons,Option.bind_eq_bind,Option.bind_eq_some_iff]at h
  obtain⟨x,hx,xs',hxs,_⟩:=h
  obtain⟨p1,k1,k2⟩:=ih _ _ x (hm f List.mem_cons_self) hx
  have hle:o+P.cellsOf f.type<=N:=by
   have : ∀ (fs:List Field) (a:Nat),Qw P a fs N=true->a<=N:=by
    intro fs
    induction fs with
    | nil=>intro a h;simp[Qw]at h;omega
    | cons g fs ih=>intro a h;simp only[Qw,Bool.and_eq_true]at h;have:=ih _ h.2;omega
   exact this _ _ hc
  obtain⟨p2,k3,k4⟩:=ihf (o+P.cellsOf f.type) N xs' hc (fun g hg=>hm g (List.mem_cons_of_mem _ hg)) hl hle hxs
  have hp1:p1.length=P.cellsOf f.type:=by
   rw[<- k1.1.1,List.length_take,List.length_drop,hfo]
   omega
  refine⟨p1++p2,?_,fun qs hq g hg=> ?_⟩
  ·have:=k1.append k3
   rw[hfo]at this
   have e:cs.drop o=(cs.drop o).take (P.cellsOf f.type)++cs.drop (o+P.cellsOf f.type):=by rw[<- List.drop_drop,List.take_append_drop]
   rw[e]
   exact this
  ·rcases List.mem_cons.1 hg with rfl|hg
   ·rw[hfo,<- hq,List.drop_left,<- hp1,List.take_left]
    exact k2
   ·have:=k4 (qs++p1) (by simp[hq,hp1]) g hg
    rwa [List.append_assoc]at this
theorem TV{n m sz:Nat}{e:TypeId}(he:P.cellsOf e=sz){cs:List Value}(ih : ∀ i,i<m-> ∃ ps,Cl w ((cs.drop (i*sz)).take sz) ps∧Y7 P n e ps)(hl:cs.length=m*sz):
  ∃ ps,Cl w cs ps∧ ∀ i<m,Y7 P n e ((ps.drop (i*sz)).take sz):=by
 induction m generalizing cs with
 | zero=>
  have:cs=[]:=List.length_eq_zero_iff.1 (by omega)
  subst this
  exact⟨[],Cl.nil,fun i h=>by omega⟩
 | succ m ihm=>
  obtain⟨p1,k1,k2⟩:=ih 0 (by omega)
  simp only[Nat.zero_mul,List.drop_zero]at k1
  have hl1:p1.length=sz:=by
   rw[<- k1.1.1,List.length_take,hl,Nat.succ_mul]
   omega
  obtain⟨p2,k3,k4⟩:=ihm (cs:=cs.drop sz) (fun i hi=>by
   have:=ih (i+1) (by omega)
   rwa [Nat.succ_mul,Nat.add_comm,<- List.drop_drop]at this) (by rw[List.length_drop,hl,Nat.succ_mul];omega)
  refine⟨p1++p2,by have:=k1.append k3;rwa [List.take_append_drop]at this,fun i hi=> ?_⟩
  cases i with
  | zero=>
   simp only[Nat.zero_mul,List.drop_zero]
   rw[<- hl1,List.take_left]
   exact k2
  | succ i=>
   have:=k4 i (by omega)
   have e2:(p1++p2).drop ((i+1)*sz)=p2.drop (i*sz):=by
    rw[Nat.succ_mul,Nat.add_comm,<- List.drop_drop]
    congr 1
    rw[<- hl1,List.drop_left]
   rwa [e2]
theorem O1{e:TypeId}{q:List PV}(h:YJ P e=true∨P.cellsOf e=1)(hl:q.length=P.cellsOf e)(h1:YJ P e=false-> ∀ p∈q,p.cells=[p]):(K9 P e q).cells=q:=by
 unfold K9
 cases ha:YJ P e with
 | true=>rfl
 | false=>
  rcases h with h|h
  ·rw[h]at ha;cases ha
  ·rw[h]at hl
   match q,hl with
   | [p],_=>exact h1 ha p (by simp)
theorem a2h{n:Nat}{e:TypeId}{q:List PV}(h:Y7 P n e q)(ha:YJ P e=false): ∀ p∈q,p.cells=[p]:=by
 cases n with
 | zero=>exact h.elim
 | succ n=>
  unfold Y7 at h
  unfold YJ at ha
  split at h
  ·obtain⟨b,rfl⟩:=h;intro p hp;simp at hp;subst hp;rfl
  ·obtain⟨m,rfl,_⟩:=h;intro p hp;simp at hp;subst hp;rfl
  ·obtain⟨s,rfl,_⟩:=h;intro p hp;simp at hp;subst hp;rfl
  ·obtain⟨s,rfl,_⟩:=h;intro p hp;simp at hp;subst hp;rfl
  ·rename_i hu;rw[hu]at ha;cases ha
  ·rename_i hu;rw[hu]at ha;cases ha
  ·exact h.elim
theorem Pg{α:Type}{R:Nat->α->Prop}: ∀ (n:Nat),(∀ i,i<n-> ∃ q,R i q)-> ∃ qs:List α,qs.length=n∧ ∀ (i:Nat) q,qs[i]? = some q->R i q:=by
 intro n
 induction n with
 | zero=>intro _;exact⟨[],rfl,fun i q h=>by simp at h⟩
 | succ n ih=>
  intro h
  obtain⟨qs,h1,h2⟩:=ih fun i hi=>h i (by omega)
  obtain⟨q,hq⟩:=h n (by omega)
  refine⟨qs++[q],by simp[h1],fun i q' hi=> ?_⟩
  by_cases hlt:i<qs.length
  ·rw[List.getElem?_append_left hlt]at hi;exact h2 i q' hi
  ·rw[List.getElem?_append_right (by omega)]at hi
   have:i=n:=by
    have:=(List.getElem?_eq_some_iff.1 hi).1
    simp at this
    omega
   subst this
   rw[h1,Nat.sub_self]at hi
   cases hi
   exact hq
theorem OJ(a:Addr)(i j:Nat):(a.add i).add j=a.add (i+j):=by
 unfold Addr.add
 by_cases hi:i=0 <;> by_cases hj:j=0 <;> simp[hi,hj,Nat.add_assoc]
theorem EW{base n:Nat}{a:Addr}{cs:List Value}(h:w.cells? base a n=some cs):cs.length=n∧ ∀ (r:Nat) v,cs[r]? = some v->w.cell? (a.add r)=some v:=by
 unfold World.cells? at h
 split at h
 ·obtain⟨h1,h2⟩:=DU h
  refine⟨by simpa using h1,fun r v hv=> ?_⟩
  have hr:=(List.getElem?_eq_some_iff.1 hv).1
  have hr2:r<n:=by rw[h1]at hr;simpa using hr
  exact h2 r r v (by simp[hr2]) hv
 ·cases h
theorem AC{a:Addr}{v:Value}(h:w.cell? a=some v): ∃ b off cs,a=⟨b,off,none⟩∧Bg w b=some cs∧cs[off]? = some v:=by
 obtain⟨b,off,spot⟩:=a
 unfold World.cell? at h
 split at h
 ·rename_i c T fz hb
  split at h
  ·cases h
  ·rename_i hs
   have:spot=none:=by cases spot with|none=>rfl|some=>simp at hs
   subst this
   exact⟨b,off,c,rfl,by simp only[Bg];rw[hb],h⟩
 ·cases h
theorem NN{n:Nat}{e:TypeId}{a:Addr}{len cap:Nat}{xs:List (DataW H×List MemPlace)}(hsz:0<P.cellsOf e)(hag:YJ P e=true∨P.cellsOf e=1)(hcap:len<=cap)(hmax:cap<=maxLen)
  (ih : ∀ (cs:List Value) (x:DataW H×List MemPlace),DataW.trod enc P w base sp held n e cs=some x-> ∃ ps,Cl w cs ps∧Y7 P n e ps)
  (h:(List.range len).mapM (fun i=>(w.cells? base (a.add (i*P.cellsOf e)) (P.cellsOf e)).bind (DataW.trod enc P w base sp held n e))=some xs) :
  ∃ qs:List (List PV),RP (Bg w) (.slice (some a) len cap) (.sl (P.cellsOf e) false (qs.map (K9 P e)))∧qs.length<=maxLen∧ ∀ q∈qs,q.length=P.cellsOf e∧Y7 P n e q:=by
 obtain⟨hl,hg⟩:=DU h
 rw[List.length_range]at hl
 have key : ∀ i,i<len-> ∃ q:List PV,(q.length=P.cellsOf e∧Y7 P n e q)∧ ∀ (r:Nat) p,q[r]? = some p-> ∃ v,w.cell? (a.add (i*P.cellsOf e+r))=some v∧v.oneCell'=true∧RP (Bg w) v p:=by
  intro i hi
  have hx:=List.getElem?_eq_getElem (show i<xs.length by omega)
  have:=hg i i _ (by simp[hi]) hx
  rw[Option.bind_eq_some_iff]at this
  obtain⟨cs,h1,h2⟩:=this
  obtain⟨q,k1,k2⟩:=ih cs _ h2
  obtain⟨c1,c2⟩:=EW h1
  refine⟨q,⟨by rw[<- k1.1.1,c1],k2⟩,fun r p hp=> ?_⟩
  have hr:r<cs.length:=by rw[k1.1.1];exact(List.getElem?_eq_some_iff.1 hp).1
  have hv:=List.getElem?_eq_getElem hr
  refine⟨_,?_,k1.2 _ (List.getElem_mem hr),k1.1.2 r _ p hv hp⟩
  rw[<- OJ]
  exact c2 r _ hv
 obtain⟨qs,hq1,hq2⟩:=Pg len key
 have hcells : ∀ q∈qs,(K9 P e q).cells=q:=by
  intro q hq
  obtain⟨i,hi,rfl⟩:=List.getElem_of_mem hq
  have:=(hq2 i _ (List.getElem?_eq_getElem hi)).1
  exact O1 hag this.1 fun ha=>a2h this.2 ha
 refine⟨qs,?_,by omega,fun q hq=> ?_⟩
 ·by_cases h0:len=0
  ·subst h0
   have:qs=[]:=List.length_eq_zero_iff.1 hq1
   subst this
   exact .sl0 _ _ _ _ fun e=>by cases e
  ·-- the first cell tells the block
   obtain⟨b,off,cs,rfl,hb,-⟩ : ∃ b off cs,a=⟨b,off,none⟩∧Bg w b=some cs∧True:=by
    have hq0:=List.getElem?_eq_getElem (show 0<qs.length by omega)
    obtain⟨⟨f1,f2⟩,f3⟩:=hq2 0 _ hq0
    have hp:=List.getElem?_eq_getElem (show 0<(qs[0]'(by omega)).length by omega)
    obtain⟨v,hv,_⟩:=f3 0 _ hp
    simp[Addr.add]at hv
    obtain⟨b,off,cs,e1,e2,_⟩:=AC hv
    exact⟨b,off,cs,e1,e2,trivial⟩
   have hs : ∀ x∈qs.map (K9 P e),x.cells.length=P.cellsOf e:=by
    intro x hx
    obtain⟨q,hq,rfl⟩:=List.mem_map.1 hx
    rw[hcells q hq]
    obtain⟨i,hi,rfl⟩:=List.getElem_of_mem hq
    exact(hq2 i _ (List.getElem?_eq_getElem hi)).1.1
   have hat : ∀ (j:Nat) p,(flat (qs.map (K9 P e)))[j]? = some p-> ∃ v,cs[off+j]? = some v∧v.oneCell'=true∧RP (Bg w) v p:=by
    intro j p hp
    have hj:j<len*P.cellsOf e:=by
     have:=(List.getElem?_eq_some_iff.1 hp).1
     rw[Xw hs]at this
     simpa [hq1]using this
    have hi:j / P.cellsOf e<qs.length:=by rw[hq1];exact(Nat.div_lt_iff_lt_mul hsz).2 hj
    have hr:j % P.cellsOf e<P.cellsOf e:=Nat.mod_lt _ hsz
    have hqi:=List.getElem?_eq_getElem hi
    have e0:j=j / P.cellsOf e*P.cellsOf e+j % P.cellsOf e:=by rw[Nat.mul_comm];exact(Nat.div_add_mod _ _).symm
    have hxi:(qs.map (K9 P e))[j / P.cellsOf e]? = some (K9 P e qs[j / P.cellsOf e]):=by rw[List.getElem?_map,hqi];rfl
    have hfg:=RS hs hxi hr
    rw[<- e0,hcells _ (List.getElem_mem hi)]at hfg
    rw[hfg]at hp
    obtain⟨v,hv,h1,h2⟩:=(hq2 _ _ hqi).2 _ p hp
    rw[<- e0,YQ]at hv
    obtain⟨b',off',cs',e1,e2,e3⟩:=AC hv
    cases e1
    rw[hb]at e2
    cases e2
    exact⟨v,e3,h1,h2⟩
   have hlen:len=(qs.map (K9 P e)).length:=by simp[hq1]
   rw[hlen]
   refine .sl b off cs cap _ false _ (fun j=>(cs[off+j]?).getD default) hb (by rw[<- hlen];exact hcap) (fun e=>by cases e) hs (fun j p hp=> ?_) (fun j p hp=> ?_)
   ·obtain⟨v,h1,h2,h3⟩:=hat j p hp
    rw[h1]
    exact⟨rfl,h2⟩
   ·obtain⟨v,h1,h2,h3⟩:=hat j p hp
    rw[h1]
    exact h3
 ·obtain⟨i,hi,rfl⟩:=List.getElem_of_mem hq
  exact(hq2 i _ (List.getElem?_eq_getElem hi)).1
theorem EG(hS:TI P S=true): ∀ (n:Nat) (t:TypeId) (cs:List Value) (x:DataW H×List MemPlace),t∈S->DataW.trod enc P w base sp held n t cs=some x-> ∃ ps,Cl w cs ps∧Y7 P n t ps:=by
  intro n
  induction n with
  | zero=>intro t cs x _ h;simp[DataW.trod]at h
  | succ n ih=>
    intro t cs x ht h
    have hp:=Au hS ht
    unfold DataW.trod at h
    unfold Y7
    split at h <;> (try rename_i hu) <;> (try simp only[hu]at hp ⊢) <;> try (cases hp;done)
    all_goals first
      | (exact⟨_,Cl.one (.bool _) rfl,_,rfl⟩)
      | (split at h
         · rename_i hc
           obtain⟨rfl,hw⟩:=hc
           exact⟨_,Cl.one (.int _ _) rfl,_,rfl,hw⟩
         · cases h)
      | (split at h
         · rename_i hc
           exact⟨_,Cl.one (.str _) rfl,_,rfl,by simpa using hc⟩
         · cases h)
      | (cases h;done)
      | skip
    · exact⟨_,Cl.one (.sl0 _ _ _ false (fun e=>by cases e)) rfl,[],rfl,by simp,fun q hq=>by simp at hq⟩
    · rename_i e a len cap
      simp only[Bool.and_eq_true,Bool.or_eq_true,beq_iff_eq,decide_eq_true_eq]at hp
      simp only at h
      split at h
      · rename_i hc
        rw[Option.bind_eq_some_iff]at h
        obtain⟨xs,h1,_⟩:=h
        obtain⟨qs,k1,k2,k3⟩:=NN hp.1.2 hp.2 hc.2.1 hc.2.2 (fun cs x hx=>ih e cs x (by simpa using hp.1.1.2) hx) h1
        exact⟨_,Cl.one k1 rfl,qs,rfl,k2,k3⟩
      · cases h
    · rename_i cs2 fs
      simp only[Bool.and_eq_true]at hp
      split at h
      · rename_i hc
        rw[Option.map_eq_some_iff]at h
        obtain⟨xs,h1,_⟩:=h
        obtain⟨ps,k1,k2⟩:=Nv ih fs.toList 0 (P.cellsOf t) xs hp.1 (fun f hf=>by simpa using List.all_eq_true.1 hp.2 f hf) hc (Nat.zero_le _) h1
        rw[List.drop_zero]at k1
        exact⟨ps,k1,by rw[<- k1.1.1,hc],fun f hf=>by simpa using k2 [] rfl f hf⟩
      · cases h
    · rename_i cs1 _ cs2 m e
      simp only[Bool.and_eq_true,beq_iff_eq]at hp
      split at h
      · rename_i hc
        rw[Option.map_eq_some_iff]at h
        obtain⟨xs,h1,_⟩:=h
        obtain⟨hl,hg⟩:=DU h1
        rw[List.length_range]at hl
        obtain⟨ps,k1,k2⟩:=TV (n:=n) (m:=m) (e:=e) rfl (cs:=cs1) (fun i hi=>by
          have hx:=List.getElem?_eq_getElem (show i<xs.length by omega)
          exact ih e _ _ (by simpa using hp.1) (hg i i _ (by simp[hi]) hx)) (by rw[hc,hp.2])
        exact⟨ps,k1,by rw[<- k1.1.1,hc],k2⟩
      · cases h
theorem Cy(hS:TI P S=true){t:TypeId}(ht:t∈S){r:Reach}{b0:Nat}{v:Value}{d:DataW H}{p:List MemPlace}(hval:Value.okWide P w r b0 t v)(h:DataW.Trod enc P w base sp held t v d p):
  ∃ n q,RP (Bg w) v (K9 P t q)∧Y7 P n t q:=by
 obtain⟨n,h⟩:=h
 obtain⟨q,k1,k2⟩:=EG hS n t _ _ ht h
 refine⟨n,q,?_,k2⟩
 have hp:=Au hS ht
 have scal:v.cells = #[v]->YJ P t=false->RP (Bg w) v (K9 P t q):=by
  intro hc ha
  rw[hc]at k1
  have hl:=k1.1.1
  match q,hl with
  | [x],_=>simp only[K9,ha,List.headD_cons];exact k1.1.2 0 v x rfl rfl
 have agg : ∀ cs,v = .agg cs->YJ P t=true->RP (Bg w) v (K9 P t q):=by
  rintro cs rfl ha
  simp only[K9,ha]
  exact .agg cs q (by have:=k1.1.1;simpa [Value.cells]using this) (fun x hx=>k1.2 x (by simpa [Value.cells]using hx)) fun j x y hx hy=>k1.1.2 j x y (by simpa [Value.cells]using hx) hy
 split at hp
 ·rename_i hu
  obtain⟨b,rfl⟩:=okWide_bool hu hval
  exact scal rfl (by simp[YJ,hu])
 ·rename_i hu
  obtain⟨b,rfl⟩:=okWide_int hu hval
  exact scal rfl (by simp[YJ,hu])
 ·rename_i hu
  obtain⟨b,rfl⟩:=okWide_string hu hval
  exact scal rfl (by simp[YJ,hu])
 ·rename_i hu
  obtain⟨a,l,c,rfl⟩:=okWide_slice hu hval
  exact scal rfl (by simp[YJ,hu])
 ·rename_i hu
  simp only[Value.okWide,hu]at hval
  obtain⟨cs,rfl,_⟩:=hval
  exact agg cs rfl (by simp[YJ,hu])
 ·rename_i hu
  simp only[Value.okWide,hu]at hval
  obtain⟨cs,rfl,_⟩:=hval
  exact agg cs rfl (by simp[YJ,hu])
 ·cases hp
def Kq(P:Program)(t:TypeId):Option (List (Nat×TypeId)):=match P.underlying t with
 | some (.struct fs)=>some (fs.toList.map fun f=>(f.offset,f.type))
 | _=>none
def b6z(P:Program)(n:Nat)(q:List PV):List (Nat×TypeId)->Prop
 | []=>True
 | (o,t)::r=>Y7 P n t ((q.drop o).take (P.cellsOf t))∧b6z P n q r
theorem Ul{n c:Nat}{t:TypeId}{q:List PV}{l:List (Nat×TypeId)}(hs:Kq P t=some l)(hc:P.cellsOf t=c)(h:Y7 P n t q): ∃ m,n=m+1∧q.length=c∧b6z P m q l:=by
 cases n with
 | zero=>exact h.elim
 | succ m=>
  unfold Kq at hs
  split at hs
  ·rename_i fs hu
   cases hs
   simp only[Y7,hu]at h
   refine⟨m,rfl,by rw[h.1,hc],?_⟩
   have key : ∀ l:List Field,(∀ f∈l,Y7 P m f.type ((q.drop f.offset).take (P.cellsOf f.type)))->b6z P m q (l.map fun f=>(f.offset,f.type)):=by
    intro l
    induction l with
    | nil=>intro _;trivial
    | cons f l ih=>intro h;exact⟨h f List.mem_cons_self,ih fun g hg=>h g (List.mem_cons_of_mem _ hg)⟩
   exact key _ h.2
  ·cases hs
theorem Ji{n:Nat}{t:TypeId}{k:IntKind}{q:List PV}(hu:P.underlying t=some (.int k))(h:Y7 P n t q): ∃ m,q=[.int k m]∧(Lit.int k m).wf=true:=by
 cases n with
 | zero=>exact h.elim
 | succ m=>simpa only[Y7,hu]using h
theorem a0r{n:Nat}{t:TypeId}{q:List PV}(hu:P.underlying t=some .bool)(h:Y7 P n t q): ∃ b,q=[.bool b]:=by
 cases n with
 | zero=>exact h.elim
 | succ m=>simpa only[Y7,hu]using h
theorem a6q{n:Nat}{t:TypeId}{q:List PV}(hu:P.underlying t=some .string)(h:Y7 P n t q): ∃ s:List UInt8,q=[.str s]∧s.length<=maxLen:=by
 cases n with
 | zero=>exact h.elim
 | succ m=>simpa only[Y7,hu]using h
theorem Qc{n c:Nat}{t e:TypeId}{q:List PV}(hu:P.underlying t=some (.slice e))(hc:P.cellsOf e=c)(h:Y7 P n t q): ∃ m,n=m+1∧ ∃ qs:List (List PV),q=[.sl c false (qs.map (K9 P e))]∧qs.length<=maxLen∧ ∀ x∈qs,x.length=c∧Y7 P m e x:=by
 cases n with
 | zero=>exact h.elim
 | succ m=>
  subst hc
  simp only[Y7,hu]at h
  exact⟨m,rfl,h⟩
theorem a0f{n:Nat}{t e:TypeId}{q:List PV}(hu:P.underlying t=some (.slice e))(he:P.underlying e=some (.int .i64))(hc:P.cellsOf e=1)(h:Y7 P n t q):
  ∃ zs:List Int,q=[.sl 1 false (Mr zs)]∧zs.length<=maxLen∧ ∀ z∈zs,(Lit.int .i64 z).wf=true:=by
 obtain⟨m,_,qs,rfl,hl,hq⟩:=Qc hu hc h
 have ha:YJ P e=false:=by simp[YJ,he]
 have : ∃ zs:List Int,qs=zs.map (fun z=>[.int .i64 z])∧ ∀ z∈zs,(Lit.int .i64 z).wf=true:=by
  clear hl h
  induction qs with
  | nil=>exact⟨[],rfl,fun z hz=>by simp at hz⟩
  | cons x qs ih=>
   obtain⟨zs,h1,h2⟩:=ih fun y hy=>hq y (List.mem_cons_of_mem _ hy)
   obtain⟨z,hz,hw⟩:=Ji he (hq x List.mem_cons_self).2
   exact⟨z::zs,by simp[h1,hz],fun y hy=>by rcases List.mem_cons.1 hy with rfl|hy;exact hw;exact h2 y hy⟩
 obtain⟨zs,rfl,hw⟩:=this
 refine⟨zs,?_,by simpa using hl,hw⟩
 simp[Mr,K9,ha]
theorem b1v{Φ:ZV}:Wu Φ (#[]:Array Value).toList []:=⟨rfl,fun j v p h=>by simp at h⟩
theorem b5e{Φ:ZV}{v:Value}{vs:List Value}{p:PV}{ps:List PV}(h:RP Φ v p)(k:Wu Φ vs ps):Wu Φ (v::vs) (p::ps):=
 ⟨by simp[k.1],fun j u q hu hq=>match j with
  | 0=>by cases hu;cases hq;exact h
  | j+1=>k.2 j u q (by simpa using hu) (by simpa using hq)⟩
theorem Eg{f:Nat}{pre:List PV->Bool}{val:List PV->PV}(h:Wx P f pre val){ps:List PV}(hp:pre ps=true)(hv:val ps = .bool true){vs:Array Value}(hL:GlobOK (Bg w))(hr:Wu (Bg w) vs.toList ps):
  Calls P f vs w fun e w'=>e = .returned (.bool true)∧Below w.heap.size w w':=by
 refine(h ps hp (Bg w) w vs hL (b7z w) hr).mono ?_
 rintro e w' ⟨v,Φ',rfl,_,_,h1,h2,_⟩
 rw[hv]at h1
 cases h1
 exact⟨rfl,h2⟩
end
end Go.Pl

namespace Go.Proofs.YtjfgiaooglnomaaGreatDoor
open Go.Pl Go.RowKit Go.ChangeShapes
set_option maxRecDepth 100000
theorem FU{P:Program}{W:World}{n:String}{g:Nat}{cs:Array Value}(hg:P.globalNamed n=some g)(h:W.var? P n=some cs):Bg W g=some cs:=by
 unfold World.var? at h
 rw[hg]at h
 simp only[Option.bind_some]at h
 unfold Bg
 exact h
theorem b4y:Tryz.prog.globalNamed "internal/strconv.uint64pow10" = some 1:=by kernel_rfl
theorem b9d:Tryz.prog.globalNamed "strconv.ErrRange" = some 3:=by kernel_rfl
theorem b8s:Tryz.prog.globalNamed "strconv.ErrSyntax" = some 2:=by kernel_rfl
theorem OX:Tryz.prog.underlying 213=some (.interface ((match Tryz.prog.underlying 213 with|some (.interface ms)=>ms|_=>#[]))):=by kernel_rfl
theorem b7r{W:World}{r:List (String×DataW Unit)}(h:laidMet Tryz.prog (("internal/strconv.uint64pow10",Rows.laid_internal_strconv_uint64pow10)::r) W):Bg W 1=some CV:=by
 have h1:Lib.TabIs Tryz.prog W "internal/strconv.uint64pow10" .u64 ((List.range 20).map fun i=>((10 ^ i:Nat):Int)):=Lib.tabIs_of_head (e:=200) (t:=301) b4y (by kernel_rfl) (n:=20) (by kernel_rfl) (by kernel_rfl) (by kernel_rfl) (by kernel_rfl) h
 exact(FU b4y h1).trans rfl
theorem a3q{W:World}{n:String}{g:Nat}{text:List UInt8}{r:List (String×DataW Unit)}(hg:Tryz.prog.globalNamed n=some g)(ht:(Tryz.prog.globals[g]?).map (·.type)=some 213)(h:laidMet Tryz.prog ((n,.iface "*errors.errorString" (.ptr (.agg [.lit (.string text)])))::r) W): ∃ cs,Bg W g=some cs∧DZ cs:=by
 obtain⟨ps,⟨g0,t0,cs0,f0,p0,q0,hg0,ht0,hv0,hd0,_,e0⟩,_,hrows⟩:=h
 obtain rfl:=Option.some.inj (hg.symm.trans hg0)
 obtain rfl:=Option.some.inj (ht.symm.trans ht0)
 subst e0
 refine⟨cs0,FU hg hv0,?_⟩
 obtain⟨f1,u,v,e,_⟩:=iface_of_trod OX hd0
 obtain⟨l0⟩:=cs0
 have e:l0=[.iface u v]:=e
 subst e
 exact⟨_,rfl,.inr ⟨u,v,rfl⟩⟩
theorem b4e{W:World}{x y:String×DataW Unit}{r:List (String×DataW Unit)}(h:laidMet Tryz.prog (x::y::("internal/strconv.uint64pow10",Rows.laid_internal_strconv_uint64pow10)::("strconv.ErrRange",Rows.laid_strconv_ErrRange)::("strconv.ErrSyntax",Rows.laid_strconv_ErrSyntax)::r) W):GlobOK (Bg W):=
 ⟨a3q b8s (by kernel_rfl) h.tail.tail.tail.tail,a3q b9d (by kernel_rfl) h.tail.tail.tail,b7r h.tail.tail⟩
noncomputable def c0u:DataW Unit->Value
 | .lit (.int k n)=>.int k n
 | _=>.int .i64 0
noncomputable def Lb:DataW Unit->Array Value
 | .agg ds=>(ds.map c0u).toArray
 | _=>#[]
noncomputable def a6t:DataW Unit->ByteArray
 | .iface _ (.ptr (.agg [.lit (.string bs)]))=>⟨bs.toArray⟩
 | _=>⟨#[]⟩
noncomputable def low:Nat:=(World.holding Tryz.prog default ⟨#[],#[],[]⟩).heap.size
noncomputable def a3s(cs:Array Value):Obj->Obj
 | .cells _ t frozen=>.cells cs t frozen
 | o=>o
noncomputable def BU(os:Os):World:=
 let w0:=World.holding Tryz.prog os ⟨#[.cells #[.string (a6t Rows.laid_strconv_ErrRange)] 326,.cells #[.string (a6t Rows.laid_strconv_ErrSyntax)] 326],#[],[]⟩
 {w0 with heap:=((((w0.heap.modify 3 (a3s #[.iface 324 (.pointer (some ⟨low,0,none⟩))])).modify 2 (a3s #[.iface 324 (.pointer (some ⟨low+1,0,none⟩))])).modify 1 (a3s (Lb Rows.laid_internal_strconv_uint64pow10))).modify 6 (a3s (Lb Rows.laid_math_bits_deBruijn32tab))).modify 7 (a3s (Lb Rows.laid_math_bits_deBruijn64tab))}
end Go.Proofs.YtjfgiaooglnomaaGreatDoor

namespace Go.Proofs.YtjfgiaooglnomaaGreatDoor
open Go.Shelf
def Tryz.lays172_ren:Go.Shelf.Ren:=⟨fun|172=>182|244=>242|245=>243|247=>278|279=>279|280=>280|281=>281|282=>282|287=>298|316=>299|171=>76|205=>300|321=>308|322=>309|243=>146|246=>214|283=>260|284=>261|285=>262|286=>263|129=>276|317=>287|318=>288|319=>289|320=>290|337=>301|338=>302|n=>n,fun|9=>9|3=>3|75=>213|76=>214|4=>4|5=>5|167=>290|37=>38|0=>0|85=>291|2=>2|168=>293|53=>200|175=>309|46=>171|210=>313|127=>323|145=>326|143=>324|21=>21|171=>273|173=>275|212=>301|51=>288|20=>20|213=>302|232=>327|233=>328|80=>329|n=>n,fun|15=>2|16=>3|17=>1|18=>6|19=>7|n=>n⟩
theorem Tryz.lays172:Go.Proofs.LaysC.n172 Tryz.prog Tryz.lays172_ren:={
 mixed:=by kernel_rfl
 f129:=Tryz.func276.trans (congrArg some (by kernel_rfl))
 f171:=Tryz.func76.trans (congrArg some (by kernel_rfl))
 f172:=Tryz.func182.trans (congrArg some (by kernel_rfl))
 f205:=Tryz.func300.trans (congrArg some (by kernel_rfl))
 f243:=Tryz.func146.trans (congrArg some (by kernel_rfl))
 f244:=Tryz.func242.trans (congrArg some (by kernel_rfl))
 f245:=Tryz.func243.trans (congrArg some (by kernel_rfl))
 f246:=Tryz.func214.trans (congrArg some (by kernel_rfl))
 f247:=Tryz.func278.trans (congrArg some (by kernel_rfl))
 f279:=Tryz.func279.trans (congrArg some (by kernel_rfl))
 f280:=Tryz.func280.trans (congrArg some (by kernel_rfl))
 f281:=Tryz.func281.trans (congrArg some (by kernel_rfl))
 f282:=Tryz.func282.trans (congrArg some (by kernel_rfl))
 f283:=Tryz.func260.trans (congrArg some (by kernel_rfl))
 f284:=Tryz.func261.trans (congrArg some (by kernel_rfl))
 f285:=Tryz.func262.trans (congrArg some (by kernel_rfl))
 f286:=Tryz.func263.trans (congrArg some (by kernel_rfl))
 f287:=Tryz.func298.trans (congrArg some (by kernel_rfl))
 f316:=Tryz.func299.trans (congrArg some (by kernel_rfl))
 f317:=Tryz.func287.trans (congrArg some (by kernel_rfl))
 f318:=Tryz.func288.trans (congrArg some (by kernel_rfl))
 f319:=Tryz.func289.trans (congrArg some (by kernel_rfl))
 f320:=Tryz.func290.trans (congrArg some (by kernel_rfl))
 f321:=Tryz.func308.trans (congrArg some (by kernel_rfl))
 f322:=Tryz.func309.trans (congrArg some (by kernel_rfl))
 f337:=Tryz.func301.trans (congrArg some (by kernel_rfl))
 f338:=Tryz.func302.trans (congrArg some (by kernel_rfl))
 t0:=Tryz.underlying0
 a0:=Tryz.isAgg0
 z0:=Tryz.sizeOf0
 v0:=Tryz.zeroValue0
 t2:=Tryz.underlying2
 a2:=Tryz.isAgg2
 z2:=Tryz.sizeOf2
 v2:=Tryz.zeroValue2
 t3:=Tryz.underlying3
 a3:=Tryz.isAgg3
 z3:=Tryz.sizeOf3
 v3:=Tryz.zeroValue3
 t4:=Tryz.underlying4
 a4:=Tryz.isAgg4
 z4:=Tryz.sizeOf4
 v4:=Tryz.zeroValue4
 t5:=Tryz.underlying5
 a5:=Tryz.isAgg5
 z5:=Tryz.sizeOf5
 v5:=Tryz.zeroValue5
 t9:=Tryz.underlying9
 a9:=Tryz.isAgg9
 z9:=Tryz.sizeOf9
 v9:=Tryz.zeroValue9
 t20:=Tryz.underlying20
 a20:=Tryz.isAgg20
 z20:=Tryz.sizeOf20
 v20:=Tryz.zeroValue20
 t21:=Tryz.underlying21
 a21:=Tryz.isAgg21
 z21:=Tryz.sizeOf21
 v21:=Tryz.zeroValue21
 t37:=Tryz.underlying38
 a37:=Tryz.isAgg38
 z37:=Tryz.sizeOf38
 v37:=Tryz.zeroValue38
 t46:=Tryz.underlying171
 a46:=Tryz.isAgg171
 z46:=Tryz.sizeOf171
 v46:=Tryz.zeroValue171
 t51:=Tryz.underlying288
 a51:=Tryz.isAgg288
 z51:=Tryz.sizeOf288
 v51:=Tryz.zeroValue288
 t53:=Tryz.underlying200
 a53:=Tryz.isAgg200
 z53:=Tryz.sizeOf200
 v53:=Tryz.zeroValue200
 t75:=Tryz.underlying213
 a75:=Tryz.isAgg213
 z75:=Tryz.sizeOf213
 v75:=Tryz.zeroValue213
 t76:=Tryz.underlying214
 a76:=Tryz.isAgg214
 z76:=Tryz.sizeOf214
 v76:=Tryz.zeroValue214
 t85:=Tryz.underlying291
 a85:=Tryz.isAgg291
 z85:=Tryz.sizeOf291
 v85:=Tryz.zeroValue291
 t127:=Tryz.underlying323
 a127:=Tryz.isAgg323
 z127:=Tryz.sizeOf323
 v127:=Tryz.zeroValue323
 t143:=Tryz.underlying324
 a143:=Tryz.isAgg324
 z143:=Tryz.sizeOf324
 v143:=Tryz.zeroValue324
 t145:=Tryz.underlying326
 a145:=Tryz.isAgg326
 z145:=Tryz.sizeOf326
 v145:=Tryz.zeroValue326
 t167:=Tryz.underlying290
 a167:=Tryz.isAgg290
 z167:=Tryz.sizeOf290
 v167:=Tryz.zeroValue290
 t168:=Tryz.underlying293
 a168:=Tryz.isAgg293
 z168:=Tryz.sizeOf293
 v168:=Tryz.zeroValue293
 t171:=Tryz.underlying273
 a171:=Tryz.isAgg273
 z171:=Tryz.sizeOf273
 v171:=Tryz.zeroValue273
 t173:=Tryz.underlying275
 a173:=Tryz.isAgg275
 z173:=Tryz.sizeOf275
 v173:=Tryz.zeroValue275
 t175:=Tryz.underlying309
 a175:=Tryz.isAgg309
 z175:=Tryz.sizeOf309
 v175:=Tryz.zeroValue309
 t210:=Tryz.underlying313
 a210:=Tryz.isAgg313
 z210:=Tryz.sizeOf313
 v210:=Tryz.zeroValue313
 t212:=Tryz.underlying301
 a212:=Tryz.isAgg301
 z212:=Tryz.sizeOf301
 v212:=Tryz.zeroValue301
 t213:=Tryz.underlying302
 a213:=Tryz.isAgg302
 z213:=Tryz.sizeOf302
 t232:=Tryz.underlying327
 a232:=Tryz.isAgg327
 z232:=Tryz.sizeOf327
 v232:=Tryz.zeroValue327
 t233:=Tryz.underlying328
 a233:=Tryz.isAgg328
 z233:=Tryz.sizeOf328
 v233:=Tryz.zeroValue328
 g15:=by kernel_rfl
 g16:=by kernel_rfl
 g17:=by kernel_rfl
 g18:=by kernel_rfl
 g19:=by kernel_rfl
 t80:=Tryz.underlying329
 a80:=Tryz.isAgg329
 z80:=Tryz.sizeOf329
 v80:=Tryz.zeroValue329
 i0:=by kernel_rfl
 i2:=by kernel_rfl
 i3:=by kernel_rfl
 i4:=by kernel_rfl
 i5:=by kernel_rfl
 i9:=by kernel_rfl
 i20:=by kernel_rfl
 i21:=by kernel_rfl
 i37:=by kernel_rfl
 i46:=by kernel_rfl
 i51:=by kernel_rfl
 i53:=by kernel_rfl
 i75:=by kernel_rfl
 i76:=by kernel_rfl
 i80:=by kernel_rfl
 i85:=by kernel_rfl
 i127:=by kernel_rfl
 i143:=by kernel_rfl
 i145:=by kernel_rfl
 i167:=by kernel_rfl
 i168:=by kernel_rfl
 i171:=by kernel_rfl
 i173:=by kernel_rfl
 i175:=by kernel_rfl
 i210:=by kernel_rfl
 i212:=by kernel_rfl
 i232:=by kernel_rfl
 i233:=by kernel_rfl
 m15:=by kernel_rfl
 m16:=by kernel_rfl
 m17:=by kernel_rfl
 m18:=by kernel_rfl
 m19:=by kernel_rfl
 c0:=by kernel_rfl
 c2:=by kernel_rfl
 c3:=by kernel_rfl
 c4:=by kernel_rfl
 c5:=by kernel_rfl
 c9:=by kernel_rfl
 c20:=by kernel_rfl
 c21:=by kernel_rfl
 c37:=by kernel_rfl
 c46:=by kernel_rfl
 c51:=by kernel_rfl
 c53:=by kernel_rfl
 c75:=by kernel_rfl
 c76:=by kernel_rfl
 c80:=by kernel_rfl
 c85:=by kernel_rfl
 c127:=by kernel_rfl
 c143:=by kernel_rfl
 c145:=by kernel_rfl
 c167:=by kernel_rfl
 c168:=by kernel_rfl
 c171:=by kernel_rfl
 c173:=by kernel_rfl
 c175:=by kernel_rfl
 c210:=by kernel_rfl
 c212:=by kernel_rfl
 c213:=by kernel_rfl
 c232:=by kernel_rfl
 c233:=by kernel_rfl}
def Tryz.lays171_ren:Go.Shelf.Ren:=⟨fun|171=>76|243=>146|246=>214|283=>260|284=>261|285=>262|286=>263|129=>276|317=>287|318=>288|319=>289|320=>290|337=>301|338=>302|n=>n,fun|3=>3|9=>9|2=>2|4=>4|171=>273|0=>0|53=>200|37=>38|5=>5|173=>275|212=>301|51=>288|20=>20|213=>302|46=>171|232=>327|233=>328|n=>n,fun|17=>1|18=>6|19=>7|n=>n⟩
theorem Tryz.lays171:Go.Proofs.LaysM.n171 Tryz.prog Tryz.lays171_ren:={
 mixed:=by kernel_rfl
 f129:=Tryz.func276.trans (congrArg some (by kernel_rfl))
 f171:=Tryz.func76.trans (congrArg some (by kernel_rfl))
 f243:=Tryz.func146.trans (congrArg some (by kernel_rfl))
 f246:=Tryz.func214.trans (congrArg some (by kernel_rfl))
 f283:=Tryz.func260.trans (congrArg some (by kernel_rfl))
 f284:=Tryz.func261.trans (congrArg some (by kernel_rfl))
 f285:=Tryz.func262.trans (congrArg some (by kernel_rfl))
 f286:=Tryz.func263.trans (congrArg some (by kernel_rfl))
 f317:=Tryz.func287.trans (congrArg some (by kernel_rfl))
 f318:=Tryz.func288.trans (congrArg some (by kernel_rfl))
 f319:=Tryz.func289.trans (congrArg some (by kernel_rfl))
 f320:=Tryz.func290.trans (congrArg some (by kernel_rfl))
 f337:=Tryz.func301.trans (congrArg some (by kernel_rfl))
 f338:=Tryz.func302.trans (congrArg some (by kernel_rfl))
 t0:=Tryz.underlying0
 a0:=Tryz.isAgg0
 z0:=Tryz.sizeOf0
 v0:=Tryz.zeroValue0
 t2:=Tryz.underlying2
 a2:=Tryz.isAgg2
 z2:=Tryz.sizeOf2
 v2:=Tryz.zeroValue2
 t3:=Tryz.underlying3
 a3:=Tryz.isAgg3
 z3:=Tryz.sizeOf3
 v3:=Tryz.zeroValue3
 t4:=Tryz.underlying4
 a4:=Tryz.isAgg4
 z4:=Tryz.sizeOf4
 v4:=Tryz.zeroValue4
 t5:=Tryz.underlying5
 a5:=Tryz.isAgg5
 z5:=Tryz.sizeOf5
 v5:=Tryz.zeroValue5
 t9:=Tryz.underlying9
 a9:=Tryz.isAgg9
 z9:=Tryz.sizeOf9
 v9:=Tryz.zeroValue9
 t20:=Tryz.underlying20
 a20:=Tryz.isAgg20
 z20:=Tryz.sizeOf20
 v20:=Tryz.zeroValue20
 t37:=Tryz.underlying38
 a37:=Tryz.isAgg38
 z37:=Tryz.sizeOf38
 v37:=Tryz.zeroValue38
 t46:=Tryz.underlying171
 a46:=Tryz.isAgg171
 z46:=Tryz.sizeOf171
 v46:=Tryz.zeroValue171
 t51:=Tryz.underlying288
 a51:=Tryz.isAgg288
 z51:=Tryz.sizeOf288
 v51:=Tryz.zeroValue288
 t53:=Tryz.underlying200
 a53:=Tryz.isAgg200
 z53:=Tryz.sizeOf200
 v53:=Tryz.zeroValue200
 t171:=Tryz.underlying273
 a171:=Tryz.isAgg273
 z171:=Tryz.sizeOf273
 v171:=Tryz.zeroValue273
 t173:=Tryz.underlying275
 a173:=Tryz.isAgg275
 z173:=Tryz.sizeOf275
 v173:=Tryz.zeroValue275
 t212:=Tryz.underlying301
 a212:=Tryz.isAgg301
 z212:=Tryz.sizeOf301
 v212:=Tryz.zeroValue301
 t213:=Tryz.underlying302
 a213:=Tryz.isAgg302
 z213:=Tryz.sizeOf302
 t232:=Tryz.underlying327
 a232:=Tryz.isAgg327
 z232:=Tryz.sizeOf327
 v232:=Tryz.zeroValue327
 t233:=Tryz.underlying328
 a233:=Tryz.isAgg328
 z233:=Tryz.sizeOf328
 v233:=Tryz.zeroValue328
 g17:=by kernel_rfl
 g18:=by kernel_rfl
 g19:=by kernel_rfl
 i0:=by kernel_rfl
 i2:=by kernel_rfl
 i3:=by kernel_rfl
 i4:=by kernel_rfl
 i5:=by kernel_rfl
 i9:=by kernel_rfl
 i20:=by kernel_rfl
 i37:=by kernel_rfl
 i46:=by kernel_rfl
 i51:=by kernel_rfl
 i53:=by kernel_rfl
 i171:=by kernel_rfl
 i173:=by kernel_rfl
 i212:=by kernel_rfl
 i232:=by kernel_rfl
 i233:=by kernel_rfl
 m17:=by kernel_rfl
 m18:=by kernel_rfl
 m19:=by kernel_rfl}
def Tryz.lays99_ren:Go.Shelf.Ren:=⟨fun|99=>152|206=>221|n=>n,fun|9=>9|4=>4|3=>3|n=>n,fun|n=>n⟩
theorem Tryz.lays99:Go.Proofs.Lays.n99 Tryz.prog Tryz.lays99_ren:={
 mixed:=by kernel_rfl
 f99:=Tryz.func152.trans (congrArg some (by kernel_rfl))
 f206:=Tryz.func221.trans (congrArg some (by kernel_rfl))
 t3:=Tryz.underlying3
 a3:=Tryz.isAgg3
 z3:=Tryz.sizeOf3
 v3:=Tryz.zeroValue3
 t4:=Tryz.underlying4
 a4:=Tryz.isAgg4
 z4:=Tryz.sizeOf4
 v4:=Tryz.zeroValue4
 t9:=Tryz.underlying9
 a9:=Tryz.isAgg9
 z9:=Tryz.sizeOf9
 v9:=Tryz.zeroValue9}
def Tryz.lays190_ren:Go.Shelf.Ren:=⟨fun|190=>154|125=>223|258=>222|128=>275|129=>276|302=>267|303=>268|304=>269|305=>270|306=>271|307=>272|308=>244|309=>273|310=>274|333=>293|329=>294|330=>295|334=>296|335=>297|336=>283|344=>307|n=>n,fun|31=>76|9=>9|3=>3|46=>171|0=>0|51=>288|53=>200|4=>4|183=>282|182=>281|131=>129|5=>5|218=>304|222=>148|228=>321|229=>247|n=>n,fun|n=>n⟩
theorem Tryz.lays190:Go.Proofs.Lays.n190 Tryz.prog Tryz.lays190_ren:={
 mixed:=by kernel_rfl
 f125:=Tryz.func223.trans (congrArg some (by kernel_rfl))
 f128:=Tryz.func275.trans (congrArg some (by kernel_rfl))
 f129:=Tryz.func276.trans (congrArg some (by kernel_rfl))
 f190:=Tryz.func154.trans (congrArg some (by kernel_rfl))
 f258:=Tryz.func222.trans (congrArg some (by kernel_rfl))
 f302:=Tryz.func267.trans (congrArg some (by kernel_rfl))
 f303:=Tryz.func268.trans (congrArg some (by kernel_rfl))
 f304:=Tryz.func269.trans (congrArg some (by kernel_rfl))
 f305:=Tryz.func270.trans (congrArg some (by kernel_rfl))
 f306:=Tryz.func271.trans (congrArg some (by kernel_rfl))
 f307:=Tryz.func272.trans (congrArg some (by kernel_rfl))
 f308:=Tryz.func244.trans (congrArg some (by kernel_rfl))
 f309:=Tryz.func273.trans (congrArg some (by kernel_rfl))
 f310:=Tryz.func274.trans (congrArg some (by kernel_rfl))
 f329:=Tryz.func294.trans (congrArg some (by kernel_rfl))
 f330:=Tryz.func295.trans (congrArg some (by kernel_rfl))
 f333:=Tryz.func293.trans (congrArg some (by kernel_rfl))
 f334:=Tryz.func296.trans (congrArg some (by kernel_rfl))
 f335:=Tryz.func297.trans (congrArg some (by kernel_rfl))
 f336:=Tryz.func283.trans (congrArg some (by kernel_rfl))
 f344:=Tryz.func307.trans (congrArg some (by kernel_rfl))
 t0:=Tryz.underlying0
 a0:=Tryz.isAgg0
 z0:=Tryz.sizeOf0
 v0:=Tryz.zeroValue0
 t3:=Tryz.underlying3
 a3:=Tryz.isAgg3
 z3:=Tryz.sizeOf3
 v3:=Tryz.zeroValue3
 t4:=Tryz.underlying4
 a4:=Tryz.isAgg4
 z4:=Tryz.sizeOf4
 v4:=Tryz.zeroValue4
 t5:=Tryz.underlying5
 a5:=Tryz.isAgg5
 z5:=Tryz.sizeOf5
 v5:=Tryz.zeroValue5
 t9:=Tryz.underlying9
 a9:=Tryz.isAgg9
 z9:=Tryz.sizeOf9
 v9:=Tryz.zeroValue9
 t31:=Tryz.underlying76
 a31:=Tryz.isAgg76
 z31:=Tryz.sizeOf76
 v31:=Tryz.zeroValue76
 t46:=Tryz.underlying171
 a46:=Tryz.isAgg171
 z46:=Tryz.sizeOf171
 v46:=Tryz.zeroValue171
 t51:=Tryz.underlying288
 a51:=Tryz.isAgg288
 z51:=Tryz.sizeOf288
 v51:=Tryz.zeroValue288
 t53:=Tryz.underlying200
 a53:=Tryz.isAgg200
 z53:=Tryz.sizeOf200
 v53:=Tryz.zeroValue200
 t131:=Tryz.underlying129
 a131:=Tryz.isAgg129
 z131:=Tryz.sizeOf129
 v131:=Tryz.zeroValue129
 t182:=Tryz.underlying281
 a182:=Tryz.isAgg281
 z182:=Tryz.sizeOf281
 v182:=Tryz.zeroValue281
 t183:=Tryz.underlying282
 a183:=Tryz.isAgg282
 z183:=Tryz.sizeOf282
 v183:=Tryz.zeroValue282
 t218:=Tryz.underlying304
 a218:=Tryz.isAgg304
 z218:=Tryz.sizeOf304
 v218:=Tryz.zeroValue304
 t222:=Tryz.underlying148
 a222:=Tryz.isAgg148
 z222:=Tryz.sizeOf148
 v222:=Tryz.zeroValue148
 t228:=Tryz.underlying321
 a228:=Tryz.isAgg321
 z228:=Tryz.sizeOf321
 v228:=Tryz.zeroValue321
 t229:=Tryz.underlying247
 a229:=Tryz.isAgg247
 z229:=Tryz.sizeOf247
 v229:=Tryz.zeroValue247}
end Go.Proofs.YtjfgiaooglnomaaGreatDoor

namespace Go.Proofs.YtjfgiaooglnomaaGreatDoor
open Go.Pl Go.RowKit
open Enc (enc dec is)
open EncL (encL decL isL)
set_option maxRecDepth 100000
theorem Bn:Zl Tryz.prog 152 (fun _:Str×Str×Unit=>true) (fun x:Str×Str×Unit=>x.2.1.s.isPrefixOf x.1.s):=Vb (by
  rintro⟨⟨s⟩,⟨p⟩,⟨⟩⟩ hps Φ w vs hL hΦ hv
  obtain⟨u,v,rfl,h1,h2⟩:=b8q hv
  rw[CX h1,CX h2]
  refine(Any.strings_HasPrefix Tryz.lays99 ⟨s.toArray⟩ ⟨p.toArray⟩ w).mono ?_
  rintro e w' ⟨rfl,rfl⟩
  exact⟨_,rfl,.bool _,.refl _ _⟩)
theorem a2f:Zl Tryz.prog 182 (fun x:Str×Unit=>decide (x.1.s.length<=1000000)) (fun x:Str×Unit=>Y2 x.1):=Vb (by
  rintro⟨⟨s⟩,⟨⟩⟩ hps Φ w vs hL hΦ hv
  have hs:s.length<=1000000:=by simpa using hps
  obtain⟨v,rfl,h1⟩:=b9k hv
  rw[CX h1]
  have hsz:(⟨s.toArray⟩:ByteArray).size=s.length:=rfl
  cases h:Lib.atoiAll s
  ·rename_i n
   have e1:Y2 ⟨s⟩=(n,⟨false⟩):=by simp only[Y2,h]
   rw[e1]
   refine(Any.strconv_Atoi_ok Tryz.lays172 ⟨s.toArray⟩ (by rw[hsz];omega) n h w).mono ?_
   rintro e w' ⟨rfl,hw⟩
   refine⟨_,rfl,.tup _ _ rfl ?_,?_⟩
   ·intro j v x hv hx
    match j with
    | 0=>cases hv;cases hx;exact .int _ _
    | 1=>cases hv;cases hx;exact .nili
    | j+2=>simp at hv
   ·rcases hw with rfl|⟨t,rfl⟩
    ·exact .refl _ _
    ·exact Pf _ _ 0 _
  ·skip
   have e1:Y2 ⟨s⟩=(0,⟨true⟩):=by simp only[Y2,h]
   rw[e1]
   obtain⟨cs,hc,ev,he,hev⟩:=hL.syn
   refine(Any.strconv_Atoi_syntax Tryz.lays172 ⟨s.toArray⟩ (by rw[hsz];omega) h ev w (AL hΦ hc he) hev).mono ?_
   rintro e w' ⟨N,rfl,_,_,hb⟩
   refine⟨_,rfl,.tup _ _ rfl ?_,hb⟩
   intro j v x hv hx
   match j with
   | 0=>cases hv;cases hx;exact .int _ _
   | 1=>cases hv;cases hx;exact .ifc _ _
   | j+2=>simp at hv
  ·skip
   have e1:Y2 ⟨s⟩=(Lib.atoiSat s,⟨true⟩):=by simp only[Y2,h]
   rw[e1]
   obtain⟨cs,hc,ev,he,hev⟩:=hL.rng
   refine(Any.strconv_Atoi_range Tryz.lays172 ⟨s.toArray⟩ (by rw[hsz];omega) h ev w (AL hΦ hc he) hev).mono ?_
   rintro e w' ⟨N,rfl,_,_,hb⟩
   refine⟨_,rfl,.tup _ _ rfl ?_,hb⟩
   intro j v x hv hx
   match j with
   | 0=>cases hv;cases hx;exact .int _ _
   | 1=>cases hv;cases hx;exact .ifc _ _
   | j+2=>simp at hv)
theorem a3r:Zl Tryz.prog 76 (fun x:Int×Unit=>decide (-9223372036854775808<=x.1)&&decide (x.1<=9223372036854775807)) (fun x:Int×Unit=>a5l x.1):=Vb (by
  rintro⟨n,⟨⟩⟩ hps Φ w vs hL hΦ hv
  obtain⟨v,rfl,h1⟩:=b9k hv
  have h1:RP Φ v (.int .i64 n):=h1
  rw[b6a h1]
  have hn : -9223372036854775808<=n∧n<=9223372036854775807:=by simpa using hps
  have hg:=hL.pow
  obtain⟨T,fz,hh⟩:=hΦ _ _ hg
  refine(Any.strconv_Itoa Tryz.lays171 n hn.1 hn.2 w ?_).mono ?_
  ·unfold Lib.TabIs World.var?
   rw[show Program.globalNamed Tryz.prog "internal/strconv.uint64pow10" = some 1 by kernel_rfl]
   simp only[Option.bind_some,hh]
   rfl
  ·rintro e w' ⟨rfl,k,os,rfl⟩
   refine⟨_,rfl,.str _,?_⟩
   exact⟨rfl,rfl,rfl,by show w.heap.size<=(w.heap++os).size;simp,fun j hj=>by show(w.heap++os)[j]? = _;rw[Array.getElem?_append_left hj]⟩)
end Go.Proofs.YtjfgiaooglnomaaGreatDoor

namespace Go.Proofs.YtjfgiaooglnomaaGreatDoor
open Go.Pl
open Enc (enc dec is)
open EncL (encL decL isL)
set_option maxRecDepth 100000
theorem ZX:Tryz.prog.follows .mixedOrders=true:=by kernel_rfl
theorem Rb:Ye Tryz.prog 154 YW Wt:=OI (Any.slices_Sort_string Tryz.lays190) (Any.slices_Sort_string_none Tryz.lays190)
theorem SN:Zl Tryz.prog 155 (fun _:UInt8×Unit=>true) (fun x:UInt8×Unit=>digB x.1):=Zl.of (T:=ML) (ic:=Tj) (rs:=TP) Zm ZX Tryz.func155 (by kernel_rfl) (by kernel_rfl) (by kernel_rfl) a3e
theorem BG:Zl Tryz.prog 156 (fun _:UInt8×Unit=>true) (fun x:UInt8×Unit=>WA x.1):=Zl.of (T:=Ld) (ic:=TK) (rs:=Tq) Zm ZX Tryz.func156 (by kernel_rfl) (by kernel_rfl) (by kernel_rfl) a5z
theorem Sj:Zl Tryz.prog 83 (fun _:Int×Unit=>true) (fun x:Int×Unit=>Ya x.1):=Zl.of (T:=Bf) (ic:=Ka) (rs:=Ga) Zm ZX Tryz.func83 (by kernel_rfl) (by kernel_rfl) (by kernel_rfl) LF
theorem Ps:Zl Tryz.prog 84 (fun _:Str×Unit=>true) (fun x:Str×Unit=>Yu x.1):=Zl.of (T:=Wi) (ic:=Xe) (rs:=Xf) (Zb (Yn Tryz.func155 (by kernel_rfl) SN) (Zb (Yn Tryz.func156 (by kernel_rfl) BG) Zm)) ZX Tryz.func84 (by kernel_rfl) (by kernel_rfl) (by kernel_rfl) OZ
theorem JC:Zl Tryz.prog 20 (fun x:Lin×Unit=>Zy x.1) (fun x:Lin×Unit=>Zj x.1):=Zl.of (T:=Wy) (ic:=XN) (rs:=XM) (Zb (Yn Tryz.func83 (by kernel_rfl) Sj) (Zb (Yn Tryz.func84 (by kernel_rfl) Ps) Zm)) ZX Tryz.func20 (by kernel_rfl) (by kernel_rfl) (by kernel_rfl) MO
theorem Cj:Zl Tryz.prog 16 (fun x:Lin×Int×Unit=>Zy x.1) (fun x:Lin×Int×Unit=>Qt x.1 x.2.1):=Zl.of (T:=KS) (ic:=Qn) (rs:=Qo) Zm ZX Tryz.func16 (by kernel_rfl) (by kernel_rfl) (by kernel_rfl) a5i
theorem LC:Zl Tryz.prog 31 (fun x:List Fact×Int×Unit=>YA x.1) (fun x:List Fact×Int×Unit=>Gy x.1 x.2.1):=Zl.of (T:=Qb) (ic:=Ue) (rs:=VV) (Zb (Yn Tryz.func16 (by kernel_rfl) Cj) Zm) ZX Tryz.func31 (by kernel_rfl) (by kernel_rfl) (by kernel_rfl) EF
theorem a0v:Zl Tryz.prog 91 (fun _:Int×Unit=>true) (fun x:Int×Unit=>(⟨x.1,[]⟩:Lin)):=Zl.of (T:=a7y) (ic:=Sn) (rs:=MP) Zm ZX Tryz.func91 (by kernel_rfl) (by kernel_rfl) (by kernel_rfl) b0e
theorem a6n:Ye Tryz.prog 89 Kv Kh:=a7q (T:=ZK) (ic:=ZE) (rs:=ZC) Zm ZX Tryz.func89 (by kernel_rfl) (by kernel_rfl) (by kernel_rfl) a1h
theorem Ru:Zl Tryz.prog 89 (fun x:Lin×Str×Int×Unit=>decide (x.1.t.length<=1000000)) (fun x:Lin×Str×Int×Unit=>Un x.1 x.2.1 x.2.2.1):=Ej a6n
theorem OT:Zl Tryz.prog 144 (fun _:Int×Unit=>true) (fun x:Int×Unit=>Ya x.1):=Zl.of (T:=a4u) (ic:=MF) (rs:=Mx) Zm ZX Tryz.func144 (by kernel_rfl) (by kernel_rfl) (by kernel_rfl) a9s
theorem RA:Zl Tryz.prog 119 (fun x:Str×Unit=>decide (x.1.s.length<=1000000)) (fun x:Str×Unit=>Yu x.1):=Zl.of (T:=Wh) (ic:=Xb) (rs:=Xh) (Zb (Yn Tryz.func152 (by kernel_rfl) Bn) (Zb (Yn Tryz.func182 (by kernel_rfl) a2f) (Zb (Yn Tryz.func76 (by kernel_rfl) a3r) Zm))) ZX Tryz.func119 (by kernel_rfl) (by kernel_rfl) (by kernel_rfl) a0s
theorem Vr:Zl Tryz.prog 73 (fun x:Lin×Unit=>Zx x.1) (fun x:Lin×Unit=>Zj x.1):=Zl.of (T:=WF) (ic:=XP) (rs:=XQ) (Zb (Yn Tryz.func144 (by kernel_rfl) OT) (Zb (Yn Tryz.func119 (by kernel_rfl) RA) Zm)) ZX Tryz.func73 (by kernel_rfl) (by kernel_rfl) (by kernel_rfl) Mg
theorem O7:Zl Tryz.prog 237 (fun _:Int×Unit=>true) (fun x:Int×Unit=>(⟨x.1,[]⟩:Lin)):=Zl.of (T:=a7p) (ic:=Lu) (rs:=NR) Zm ZX Tryz.func237 (by kernel_rfl) (by kernel_rfl) (by kernel_rfl) b0p
theorem MZ:Zl Tryz.prog 249 (fun _:Int×Unit=>true) (fun x:Int×Unit=>BB x.1):=Zl.of (T:=Ml) (ic:=Tv) (rs:=Sd) Zm ZX Tryz.func249 (by kernel_rfl) (by kernel_rfl) (by kernel_rfl) a1w
theorem Aj:Zl Tryz.prog 191 (fun x:List Int×Unit=>decide (x.1.length<=9223372036854775807)) (fun x:List Int×Unit=>x.1.all WJ):=Zl.of (T:=Cz) (ic:=K5) (rs:=KX) Zm ZX Tryz.func191 (by kernel_rfl) (by kernel_rfl) (by kernel_rfl) b1z
theorem La:Zl Tryz.prog 224 (fun x:Int×Int×Unit=>WJ x.1&&WJ x.2.1) (fun x:Int×Int×Unit=>(Int.gcd x.1 x.2.1:Int)):=Zl.of (T:=QI) (ic:=Ut) (rs:=Qr) (Zb (Yn Tryz.func249 (by kernel_rfl) MZ) Zm) ZX Tryz.func224 (by kernel_rfl) (by kernel_rfl) (by kernel_rfl) a4y
theorem R8:Zl Tryz.prog 159 (fun x:List Int×Unit=>decide (x.1.length<=10000)&&x.1.all WJ) (fun x:List Int×Unit=>KE x.1):=Zl.of (T:=Ql) (ic:=Uc) (rs:=VQ) (Zb (Yn Tryz.func191 (by kernel_rfl) Aj) (Zb (Yn Tryz.func224 (by kernel_rfl) La) Zm)) ZX Tryz.func159 (by kernel_rfl) (by kernel_rfl) (by kernel_rfl) Ep
theorem Bj:Zl Tryz.prog 226 (fun x:Int×Int×Unit=>WJ x.1&&WJ x.2.1&&decide (x.2.1≠0)) (fun x:Int×Int×Unit=>(a1k x.1 x.2.1,a3u x.1 x.2.1)):=Zl.of (T:=H5) (ic:=KQ) (rs:=KL) Zm ZX Tryz.func226 (by kernel_rfl) (by kernel_rfl) (by kernel_rfl) PU
theorem JY:Zl Tryz.prog 225 (fun _:Int×Int×Unit=>true) (fun x:Int×Int×Unit=>Gx x.1 x.2.1):=Zl.of (T:=TT) (ic:=D5) (rs:=Cw) (Zb (Yn Tryz.func191 (by kernel_rfl) Aj) Zm) ZX Tryz.func225 (by kernel_rfl) (by kernel_rfl) (by kernel_rfl) a1m
theorem NW:Zl Tryz.prog 160 (fun _:Int×Int×Unit=>true) (fun x:Int×Int×Unit=>Kw x.1 x.2.1):=Zl.of (T:=NH) (ic:=TN) (rs:=TJ) (Zb (Yn Tryz.func225 (by kernel_rfl) JY) (Zb (Yn Tryz.func226 (by kernel_rfl) Bj) Zm)) ZX Tryz.func160 (by kernel_rfl) (by kernel_rfl) (by kernel_rfl) a7i
theorem Bd:Yl Tryz.prog YX:=(Zb (Yn Tryz.func154 (by kernel_rfl) Rb) (Zb (Yn Tryz.func73 (by kernel_rfl) Vr) Zm))
theorem ES{cd:Code}(h:U1 Tryz.prog JR Tryz.f82 0=some cd):Qk Tryz.prog cd=some a7v:=by
 have:(U1 Tryz.prog JR Tryz.f82 0).bind (Qk Tryz.prog)=some a7v:=by kernel_rfl
 rw[h]at this
 exact this
theorem b3t(args:List AV)(os:List AObj)(h:Xr args os=true)(c:Ctx)(hk : ∀ i m,os.length<=i->c.μ0 i m=none):OL (Vt Bd ZX) (fun n cd=>U1 Tryz.prog JR Tryz.f82 n=some cd) SB c:=by
 rintro n cd hcd st a w q hr ⟨rfl,hE⟩
 have h2:os.length=2:=by
  unfold Xr at h
  split at h
  ·rfl
  ·cases h
 rw[h2]at hk
 exact Fx Bd ZX (ES hcd) hk hr hE
theorem b1s:Ye Tryz.prog 82 Xr UQ:=a2r (T:=YX) (ic:=YP) (rs:=YR) (E:=SB) (sel:=JR) Bd ZX Tryz.func82 (by kernel_rfl) (by kernel_rfl) (by kernel_rfl) b3t a8n a5r
theorem b5l:Ye Tryz.prog 82 Xr GU:=b3d b1s
theorem b7v:Ye Tryz.prog 114 Ui GN:=a7q (T:=QA) (ic:=Um) (rs:=Uu) Zm ZX Tryz.func114 (by kernel_rfl) (by kernel_rfl) (by kernel_rfl) b3r
theorem Gi:Zl Tryz.prog 111 (fun x:Lin×Lin×Int×Unit=>Zx x.1&&Zx x.2.1) (fun x:Lin×Lin×Int×Unit=>Yg x.1 x.2.1 x.2.2.1):=Zl.of (T:=HZ) (ic:=KT) (rs:=KG) (Zb (Yn Tryz.func73 (by kernel_rfl) Vr) (Zb (Yn Tryz.func114 (by kernel_rfl) b7v) (Zb (Yn Tryz.func82 (by kernel_rfl) b5l) Zm))) ZX Tryz.func111 (by kernel_rfl) (by kernel_rfl) (by kernel_rfl) RX
theorem ER:Zl Tryz.prog 39 (fun x:Lin×Lin×Unit=>Zx x.1&&Zx x.2.1) (fun x:Lin×Lin×Unit=>Yg x.1 x.2.1 1):=Zl.of (T:=SA) (ic:=CP) (rs:=CQ) (Zb (Yn Tryz.func111 (by kernel_rfl) Gi) Zm) ZX Tryz.func39 (by kernel_rfl) (by kernel_rfl) (by kernel_rfl) O5
theorem Nh:Zl Tryz.prog 41 (fun x:Lin×Int×Unit=>Zx x.1) (fun x:Lin×Int×Unit=>WG x.1 x.2.1):=Zl.of (T:=DV) (ic:=H8) (rs:=H6) (Zb (Yn Tryz.func111 (by kernel_rfl) Gi) Zm) ZX Tryz.func41 (by kernel_rfl) (by kernel_rfl) (by kernel_rfl) Lx
theorem Cg:Zl Tryz.prog 173 (fun x:Lin×Unit=>Zx x.1) (fun x:Lin×Unit=>X8 x.1):=Zl.of (T:=Co) (ic:=Ht) (rs:=Ha) (Zb (Yn Tryz.func41 (by kernel_rfl) Nh) (Zb (Yn Tryz.func39 (by kernel_rfl) ER) (Zb (Yn Tryz.func237 (by kernel_rfl) O7) Zm))) ZX Tryz.func173 (by kernel_rfl) (by kernel_rfl) (by kernel_rfl) LB
theorem b3v:Zl Tryz.prog 162 (fun x:Fact×Unit=>Zx x.1.l) (fun x:Fact×Unit=> !(Zj x.1.l)):=Zl.of (T:=a6m) (ic:=M9) (rs:=M6) (Zb (Yn Tryz.func73 (by kernel_rfl) Vr) Zm) ZX Tryz.func162 (by kernel_rfl) (by kernel_rfl) (by kernel_rfl) a9r
theorem b5v:Zl Tryz.prog 227 (fun x:List Fact×FnV 162×Unit=>Zi x.1) (fun x:List Fact×FnV 162×Unit=>VY (fun f:Fact=> !(Zj f.l)) x.1):=Zl.of (T:=Be) (ic:=K7) (rs:=Ja) (Zb (Yn Tryz.func162 (by kernel_rfl) b3v) Zm) ZX Tryz.func227 (by kernel_rfl) (by kernel_rfl) (by kernel_rfl) b2n
theorem b7b:Zl Tryz.prog 161 (fun x:List Fact×FnV 162×Unit=>Zi x.1) (fun x:List Fact×FnV 162×Unit=>x.1.any fun f:Fact=> !(Zj f.l)):=Zl.of (T:=a5u) (ic:=NM) (rs:=NU) (Zb (Yn Tryz.func227 (by kernel_rfl) b5v) Zm) ZX Tryz.func161 (by kernel_rfl) (by kernel_rfl) (by kernel_rfl) b0w
theorem Vw:Zl Tryz.prog 95 (fun x:List Fact×Unit=>Zi x.1) (fun x:List Fact×Unit=>Zq x.1):=Zl.of (T:=Cn) (ic:=He) (rs:=Gd) (Zb (Yn Tryz.func161 (by kernel_rfl) b7b) Zm) ZX Tryz.func95 (by kernel_rfl) (by kernel_rfl) (by kernel_rfl) MN
theorem Jg:Yl Tryz.prog Y1:=Zm
theorem MS{cd:Code}(h:U1 Tryz.prog JR Tryz.f158 0=some cd):QN Tryz.prog cd=some ⟨8,74,14,15⟩:=by
 have:(U1 Tryz.prog JR Tryz.f158 0).bind (QN Tryz.prog)=some ⟨8,74,14,15⟩:=by kernel_rfl
 rw[h]at this
 exact this
theorem Ro(c:Ctx):OL (Vt Jg ZX) (fun n cd=>U1 Tryz.prog JR Tryz.f158 n=some cd) Vp c:=by
 rintro n cd hcd st a w q hr ⟨rfl,hE⟩
 exact b0j Jg ZX (MS hcd) hr hE
theorem PO:Ye Tryz.prog 158 Xj WO:=a2r (T:=Y1) (ic:=Yr) (rs:=Yt) (E:=Vp) (sel:=JR) Jg ZX Tryz.func158 (by kernel_rfl) (by kernel_rfl) (by kernel_rfl) (fun _ _ _ c _=>Ro c) a0y a1e
theorem PR:Ye Tryz.prog 158 XV Vy:=a2r (T:=Y1) (ic:=Yr) (rs:=Yt) (E:=Vp) (sel:=JR) Jg ZX Tryz.func158 (by kernel_rfl) (by kernel_rfl) (by kernel_rfl) (fun _ _ _ c _=>Ro c) Eo EU
theorem Cc:Yl Tryz.prog Xl:=(Zb (Yn Tryz.func95 (by kernel_rfl) Vw) (Zb (Yn Tryz.func158 (by kernel_rfl) PO) (Zb (Yn Tryz.func159 (by kernel_rfl) R8) (Zb (Yn Tryz.func160 (by kernel_rfl) NW) (Zb (Yn Tryz.func154 (by kernel_rfl) Rb) (Zb (Yn Tryz.func73 (by kernel_rfl) Vr) Zm))))))
theorem a7t:Yl Tryz.prog Ta:=(Zb (Yn Tryz.func95 (by kernel_rfl) Vw) (Zb (Yn Tryz.func158 (by kernel_rfl) PR) Zm))
theorem EZ{cd:Code}(h:U1 Tryz.prog JR Tryz.f93 0=some cd):Qk Tryz.prog cd=some a5m:=by
 have:(U1 Tryz.prog JR Tryz.f93 0).bind (Qk Tryz.prog)=some a5m:=by kernel_rfl
 rw[h]at this
 exact this
theorem a2v(c:Ctx)(hk : ∀ i m,0<=i->c.μ0 i m=none):OL (Vt Cc ZX) (fun n cd=>U1 Tryz.prog JR Tryz.f93 n=some cd) CR c:=by
 rintro n cd hcd st a w q hr ⟨rfl,hE⟩
 exact Fx Cc ZX (EZ hcd) hk hr hE
theorem b1c:Zl Tryz.prog 93 (fun x:List Fact×List Int×Unit=>(Zi x.1&&decide (x.1.length<=300))&&QZ x.1 x.2.1) (fun x:List Fact×List Int×Unit=>Yj x.1 x.2.1):=Zl.ofX (T:=Xl) (ic:=XJ) (rs:=Wj) (E:=CR) (sel:=JR) Cc ZX Tryz.func93 (by kernel_rfl) (by kernel_rfl) (by kernel_rfl) a2v fun⟨fs,ms,_⟩ h=>by
 simp only[Bool.and_eq_true,decide_eq_true_eq]at h
 exact a9k fs ms h.1.1 h.2 (b6x h.1.2 h.2)
theorem b1p:Zl Tryz.prog 93 (fun x:List Fact×List Int×Unit=>(Zi x.1&&decide (x.1.length<=300))&& !QZ x.1 x.2.1) (fun x:List Fact×List Int×Unit=>Yj x.1 x.2.1):=Zl.ofX (T:=Ta) (ic:=GL) (rs:=Tk) (E:=fun _ _ _=>False) (sel:=JR) a7t ZX Tryz.func93 (by kernel_rfl) (by kernel_rfl) (by kernel_rfl) (fun c hk n cd hcd st a w q hr hE=>hE.elim) fun⟨fs,ms,_⟩ h=>by
 simp only[Bool.and_eq_true,decide_eq_true_eq,Bool.not_eq_true']at h
 exact a5y fs ms h.1.1 h.2
theorem TS:Zl Tryz.prog 93 (fun x:List Fact×List Int×Unit=>Zi x.1&&decide (x.1.length<=300)) (fun x:List Fact×List Int×Unit=>Yj x.1 x.2.1):=Zl.or (fun x=>QZ x.1 x.2.1) b1c b1p
theorem Gf:Zl Tryz.prog 94 (fun x:Cert×Unit=>UA x.1) (fun x:Cert×Unit=>Z7 x.1):=Zl.rec (fun a=>Zt a.1) fun N hN=>Zl.of (T:=Qj N) (ic:=VW) (rs:=Ud) (Zb (Yn Tryz.func94 (by kernel_rfl) hN) Zm) ZX Tryz.func94 (by kernel_rfl) (by kernel_rfl) (by kernel_rfl) (OM N)
theorem Ra:Zl Tryz.prog 96 (fun x:Cert×Unit=>UA x.1) (fun x:Cert×Unit=>Z7 x.1):=Zl.rec (fun a=>Zt a.1) fun N hN=>Zl.of (T:=VR N) (ic:=WW) (rs:=WP) (Zb (Yn Tryz.func96 (by kernel_rfl) hN) Zm) ZX Tryz.func96 (by kernel_rfl) (by kernel_rfl) (by kernel_rfl) (Lv N)
theorem P9:Zl Tryz.prog 172 (fun _:Cert×Int×Bool×Unit=>true) (fun x:Cert×Int×Bool×Unit=>Z4 x.1 x.2.1 x.2.2.1):=Zl.of (T:=M3) (ic:=Sr) (rs:=TE) Zm ZX Tryz.func172 (by kernel_rfl) (by kernel_rfl) (by kernel_rfl) a6b
theorem LV:Ye Tryz.prog 171 YU QK:=a7q (T:=Lr) (ic:=SH) (rs:=SS) Zm ZX Tryz.func171 (by kernel_rfl) (by kernel_rfl) (by kernel_rfl) a5p
theorem Rc:Zl Tryz.prog 108 (fun x:List Fact×Cert×Unit=>Zi x.1&&Zq x.1&&Vu x.2.1&&decide (x.1.length+Zt x.2.1<=300)) (fun x:List Fact×Cert×Unit=>YC x.1 x.2.1):=Zl.rec (fun a=>Zt a.2.1) fun N hN=>
 Zl.or (fun a=>QZ a.1 a.2.1.mults)
  (Zl.of (T:=NB N) (ic:=Db) (rs:=Sg) (Zb (Yn Tryz.func108 (by kernel_rfl) hN) (Zb (Yn Tryz.func171 (by kernel_rfl) LV) (Zb (Yn Tryz.func158 (by kernel_rfl) PO) (Zb (Yn Tryz.func172 (by kernel_rfl) P9) (Zb (Yn Tryz.func93 (by kernel_rfl) TS) (Zb (Yn Tryz.func173 (by kernel_rfl) Cg) Zm)))))) ZX Tryz.func108 (by kernel_rfl) (by kernel_rfl) (by kernel_rfl) fun a h=>by
   simp only[Bool.and_eq_true]at h
   exact(TW N a (by simp only[TH,Bool.and_eq_true];exact h.1)).1 h.2)
  (Zl.of (T:=MU N) (ic:=Tz) (rs:=SY) (Zb (Yn Tryz.func108 (by kernel_rfl) hN) (Zb (Yn Tryz.func171 (by kernel_rfl) LV) (Zb (Yn Tryz.func158 (by kernel_rfl) PR) (Zb (Yn Tryz.func172 (by kernel_rfl) P9) (Zb (Yn Tryz.func93 (by kernel_rfl) TS) (Zb (Yn Tryz.func173 (by kernel_rfl) Cg) Zm)))))) ZX Tryz.func108 (by kernel_rfl) (by kernel_rfl) (by kernel_rfl) fun a h=>by
   simp only[Bool.and_eq_true,Bool.not_eq_true']at h
   exact(TW N a (by simp only[TH,Bool.and_eq_true];exact h.1)).2 h.2)
theorem BX:Zl Tryz.prog 36 (fun x:List Fact×Cert×Unit=>Zi x.1&&Vu x.2.1&&decide (x.1.length+Zt x.2.1<=300)) (fun x:List Fact×Cert×Unit=>Yp x.1 x.2.1):=Zl.of (T:=Tm) (ic:=D8) (rs:=Cx) (Zb (Yn Tryz.func95 (by kernel_rfl) Vw) (Zb (Yn Tryz.func94 (by kernel_rfl) Gf) (Zb (Yn Tryz.func108 (by kernel_rfl) Rc) Zm))) ZX Tryz.func36 (by kernel_rfl) (by kernel_rfl) (by kernel_rfl) EY
theorem Tt:Zl Tryz.prog 35 (fun x:List Fact×Unit=>Zi x.1) (fun x:List Fact×Unit=>Zq x.1):=Zl.of (T:=Qv) (ic:=VG) (rs:=VN) (Zb (Yn Tryz.func20 (by kernel_rfl) JC) Zm) ZX Tryz.func35 (by kernel_rfl) (by kernel_rfl) (by kernel_rfl) Ea
theorem Tc:Zl Tryz.prog 24 (fun x:Cert×Int×Unit=>UA x.1) (fun x:Cert×Int×Unit=>Xo x.1 x.2.1):=Zl.rec (fun a=>Zt a.1) fun N hN=>Zl.of (T:=WY N) (ic:=Wo) (rs:=Wm) (Zb (Yn Tryz.func24 (by kernel_rfl) hN) (Zb (Yn Tryz.func16 (by kernel_rfl) Cj) (Zb (Yn Tryz.func96 (by kernel_rfl) Ra) Zm))) ZX Tryz.func24 (by kernel_rfl) (by kernel_rfl) (by kernel_rfl) (RZ N)
theorem Sc:Zl Tryz.prog 78 (fun x:Int×Unit=>decide (x.1=1)) (fun _:Int×Unit=>F8):=Zl.of (T:=CS) (ic:=Ko) (rs:=Ho) Zm ZX Tryz.func78 (by kernel_rfl) (by kernel_rfl) (by kernel_rfl) Mm
theorem TB:Zl Tryz.prog 78 (fun x:Int×Unit=>decide (x.1 = -1)) (fun _:Int×Unit=>Oa):=Zl.of (T:=CY) (ic:=Hq) (rs:=Hy) (Zb (Yn Tryz.func78 (by kernel_rfl) Sc) Zm) ZX Tryz.func78 (by kernel_rfl) (by kernel_rfl) (by kernel_rfl) NA
theorem Bz:Zl Tryz.prog 18 (fun x:Lin×Unit=>decide (x.1=exL)) (fun _:Lin×Unit=>Sq):=Zl.of (T:=WR) (ic:=Wp) (rs:=Wn) (Zb (Yn Tryz.func20 (by kernel_rfl) JC) (Zb (Yn Tryz.func78 (by kernel_rfl) TB) Zm)) ZX Tryz.func18 (by kernel_rfl) (by kernel_rfl) (by kernel_rfl) RN
theorem Mj:Zl Tryz.prog 92 (fun _:List Int×Unit=>true) (fun x:List Int×Unit=>Cert.mk 1 x.1 ⟨0,[]⟩ []):=Zl.of (T:=Tx) (ic:=Ba) (rs:=D6) Zm ZX Tryz.func92 (by kernel_rfl) (by kernel_rfl) (by kernel_rfl) a1r
theorem LA:Zl Tryz.prog 23 (fun _:Unit=>true) (fun _:Unit=>true):=Zl.of (T:=Bc) (ic:=Hm) (rs:=Gc) (Zb (Yn Tryz.func91 (by kernel_rfl) a0v) (Zb (Yn Tryz.func89 (by kernel_rfl) Ru) (Zb (Yn Tryz.func92 (by kernel_rfl) Mj) (Zb (Yn Tryz.func93 (by kernel_rfl) TS) (Zb (Yn Tryz.func36 (by kernel_rfl) BX) (Zb (Yn Tryz.func94 (by kernel_rfl) Gf) (Zb (Yn Tryz.func18 (by kernel_rfl) Bz) (Zb (Yn Tryz.func95 (by kernel_rfl) Vw) Zm)))))))) ZX Tryz.func23 (by kernel_rfl) (by kernel_rfl) (by kernel_rfl) NC
end Go.Proofs.YtjfgiaooglnomaaGreatDoor

namespace Go.Proofs.YtjfgiaooglnomaaGreatDoor
open Go.Pl
open Enc (enc dec is)
open EncL (encL decL isL)
set_option maxRecDepth 100000
end Go.Proofs.YtjfgiaooglnomaaGreatDoor

namespace Go.Proofs.YtjfgiaooglnomaaGreatDoor
open Go.Pl
open Enc (enc dec is)
open EncL (encL decL isL)
set_option maxRecDepth 100000
theorem CO:Zl Tryz.prog 85 (fun x:Lin×Lin×Unit=>Zy x.1) (fun x:Lin×Lin×Unit=>BM x.1 x.2.1):=Zl.of (T:=QF) (ic:=Us) (rs:=Uo) Zm ZX Tryz.func85 (by kernel_rfl) (by kernel_rfl) (by kernel_rfl) a9b
theorem Tf:Zl Tryz.prog 21 (fun x:Lin×Lin×Unit=>Zy x.1) (fun x:Lin×Lin×Unit=>BM x.1 x.2.1==0):=Zl.of (T:=a3l) (ic:=Me) (rs:=Mw) (Zb (Yn Tryz.func85 (by kernel_rfl) CO) Zm) ZX Tryz.func21 (by kernel_rfl) (by kernel_rfl) (by kernel_rfl) b1x
end Go.Proofs.YtjfgiaooglnomaaGreatDoor

namespace Go.Proofs.YtjfgiaooglnomaaGreatDoor
open Go.Shelf
def Tryz.lays106_ren:Go.Shelf.Ren:=⟨fun|106=>212|213=>259|265=>286|n=>n,fun|9=>9|3=>3|n=>n,fun|n=>n⟩
theorem Tryz.lays106:Go.Proofs.Lays.n106 Tryz.prog Tryz.lays106_ren:={
 mixed:=by kernel_rfl
 f106:=Tryz.func212.trans (congrArg some (by kernel_rfl))
 f213:=Tryz.func259.trans (congrArg some (by kernel_rfl))
 f265:=Tryz.func286.trans (congrArg some (by kernel_rfl))
 t3:=Tryz.underlying3
 a3:=Tryz.isAgg3
 z3:=Tryz.sizeOf3
 v3:=Tryz.zeroValue3
 t9:=Tryz.underlying9
 a9:=Tryz.isAgg9
 z9:=Tryz.sizeOf9
 v9:=Tryz.zeroValue9}
end Go.Proofs.YtjfgiaooglnomaaGreatDoor

namespace Go.Proofs.YtjfgiaooglnomaaGreatDoor
open Go.Pl Go.RowKit
open Enc (enc dec is)
open EncL (encL decL isL)
set_option maxRecDepth 100000
theorem Rs:Zl Tryz.prog 212 (fun _:Str×Str×Unit=>true) (fun x:Str×Str×Unit=>Lib.compareBytes x.1.s x.2.1.s):=Vb (by
  rintro⟨⟨s⟩,⟨p⟩,⟨⟩⟩ hps Φ w vs hL hΦ hv
  obtain⟨u,v,rfl,h1,h2⟩:=b8q hv
  rw[CX h1,CX h2]
  refine(Any.strings_Compare Tryz.lays106 ⟨s.toArray⟩ ⟨p.toArray⟩ w).mono ?_
  rintro e w' ⟨rfl,rfl⟩
  exact⟨_,rfl,.int _ _,.refl _ _⟩)
end Go.Proofs.YtjfgiaooglnomaaGreatDoor

namespace Go.Proofs.YtjfgiaooglnomaaGreatDoor
open Go.Shelf
def Tryz.laysI21_ren:Go.Shelf.Ren:=⟨fun|21=>103|27=>169|28=>170|35=>236|39=>277|n=>n,fun|22=>34|3=>3|4=>4|0=>0|n=>n,fun|n=>n⟩
theorem Tryz.laysI21:Go.Proofs.Lays2.n21 Tryz.prog Tryz.laysI21_ren:={
 mixed:=by kernel_rfl
 f21:=Tryz.func103.trans (congrArg some (by kernel_rfl))
 f27:=Tryz.func169.trans (congrArg some (by kernel_rfl))
 f28:=Tryz.func170.trans (congrArg some (by kernel_rfl))
 f35:=Tryz.func236.trans (congrArg some (by kernel_rfl))
 f39:=Tryz.func277.trans (congrArg some (by kernel_rfl))
 t0:=Tryz.underlying0
 a0:=Tryz.isAgg0
 z0:=Tryz.sizeOf0
 v0:=Tryz.zeroValue0
 t3:=Tryz.underlying3
 a3:=Tryz.isAgg3
 z3:=Tryz.sizeOf3
 v3:=Tryz.zeroValue3
 t4:=Tryz.underlying4
 a4:=Tryz.isAgg4
 z4:=Tryz.sizeOf4
 v4:=Tryz.zeroValue4
 t22:=Tryz.underlying34
 a22:=Tryz.isAgg34
 z22:=Tryz.sizeOf34
 v22:=Tryz.zeroValue34
 i3:=by kernel_rfl}
end Go.Proofs.YtjfgiaooglnomaaGreatDoor

namespace Go.Proofs.YtjfgiaooglnomaaGreatDoor
open Go.RowKit Go.Lib Go.Pl
theorem a2s:(Tryz.prog.info? 3).map (fun i=>(i.zero,i.size,i.bytes))=some (some (.int .i64 0),1,8):=by kernel_rfl
theorem Jy:Tryz.prog.underlying 34=some (.slice 3):=by kernel_rfl
theorem FZ:(Tryz.prog.info? 61).map (fun i=>(i.zero,i.size,i.bytes))=some (some (.agg #[.string ByteArray.empty,.int .i64 0]),2,24):=by kernel_rfl
theorem QR:Tryz.prog.underlying 22=some (.slice 61):=by kernel_rfl
theorem NS(n c:Nat)(w:World):Calls Tryz.prog 104 #[.slice none n c] w fun e w'=>e = .returned (.slice none 0 0)∧w'=w:=by
 have q22 : ∀ (w:World) (a:Option Addr) (n c n' c':Nat),(binOp .eql 34 (.slice a n c) (.slice none n' c')).run Tryz.prog w = .ok (.bool a.isNone) w:=fun w a n c n' c'=>Lib.run_eql_slice_nil w _ _ a n c n' c' Jy
 go_enter Tryz.func104,Tryz.ntmps104
 go_wp2
 go_ret
 exact⟨rfl,rfl⟩
theorem R5(a:Addr)(c:Nat)(w:World):Calls Tryz.prog 104 #[.slice (some a) 0 c] w fun e w'=>(∃ g,e = .returned (.slice (some g) 0 0))∧Below w.heap.size w w':=by
 have q22 : ∀ (w:World) (a:Option Addr) (n c n' c':Nat),(binOp .eql 34 (.slice a n c) (.slice none n' c')).run Tryz.prog w = .ok (.bool a.isNone) w:=fun w a n c n' c'=>Lib.run_eql_slice_nil w _ _ a n c n' c' Jy
 obtain⟨i0,hi,hz0,hz1,hz2⟩:=info_parts a2s
 go_enter Tryz.func104,Tryz.ntmps104
 go_wp2_with (at_builtin;refine Lib.wpList_append_run _ rfl _ _ _ _ rfl _ _ rfl rfl _ _ (Xc Jy hi (Nat.le_refl _)) ?_)
 go_ret
 exact⟨⟨_,rfl⟩,(Below.refl _ w).alloc (Nat.le_refl _) _⟩
theorem TZ(a:Addr)(n c:Nat)(news:List Value)(w:World)(h0:0<n)(hn:n<=1048576)(hl:news.length=n*1)(hc : ∀ j u,news[j]? = some u->w.cell? (a.add j)=some u)(h1 : ∀ u∈news,u.oneCell'=true):
  Calls Tryz.prog 104 #[.slice (some a) n c] w fun e w'=> ∃ v',e = .returned v'∧w'.ownsRow w.heap.size 3 1 v' n news∧Below w.heap.size w w':=by
 have q22 : ∀ (w:World) (a:Option Addr) (n c n' c':Nat),(binOp .eql 34 (.slice a n c) (.slice none n' c')).run Tryz.prog w = .ok (.bool a.isNone) w:=fun w a n c n' c'=>Lib.run_eql_slice_nil w _ _ a n c n' c' Jy
 obtain⟨i0,hi,hz0,hz1,hz2⟩:=info_parts a2s
 have A:Aside (∀ j u,news[j]? = some u->w.cell? (a.add j)=some u):=hc
 clear hc
 go_enter Tryz.func104,Tryz.ntmps104
 go_wp2_with (at_builtin;refine wpList_append_own _ rfl _ _ 34 rfl w.heap.size 3 i0 (.int .i64 0) 1 8 Jy hi hz0 hz1 hz2 rfl (by decide) _ _ _ rfl (World.ownsRow_made w #[] 0 (Nat.le_refl _) (Nat.zero_le _) rfl) a n c news rfl ?qc1 ?qc2 ?qc3 ?qc4 ?qc5 ?qc6 ?_)
 case qc1=>exact hl
 case qc2=>intro j u hj;exact Lib.cell?_alloc_some _ (A.out j u hj)
 case qc3=>exact h1
 case qc4=>unfold maxLen;omega
 case qc5=>omega
 case qc6=>simp
 intro v' w1 hown hgrow hnil
 go_wp2
 go_ret
 refine⟨v',rfl,by simpa using hown,?_⟩
 exact((Below.refl _ w).alloc (Nat.le_refl _) _).grown hgrow (by simp) (by intro k hk;simp[Value.ownBlock]at hk;omega)
theorem b5c:CloneC Tryz.prog 104 3 1:=⟨NS,R5,TZ⟩
theorem Lc(n c:Nat)(w:World):Calls Tryz.prog 105 #[.slice none n c] w fun e w'=>e = .returned (.slice none 0 0)∧w'=w:=by
 have q22 : ∀ (w:World) (a:Option Addr) (n c n' c':Nat),(binOp .eql 22 (.slice a n c) (.slice none n' c')).run Tryz.prog w = .ok (.bool a.isNone) w:=fun w a n c n' c'=>Lib.run_eql_slice_nil w _ _ a n c n' c' QR
 go_enter Tryz.func105,Tryz.ntmps105
 go_wp2
 go_ret
 exact⟨rfl,rfl⟩
theorem PK(a:Addr)(c:Nat)(w:World):Calls Tryz.prog 105 #[.slice (some a) 0 c] w fun e w'=>(∃ g,e = .returned (.slice (some g) 0 0))∧Below w.heap.size w w':=by
 have q22 : ∀ (w:World) (a:Option Addr) (n c n' c':Nat),(binOp .eql 22 (.slice a n c) (.slice none n' c')).run Tryz.prog w = .ok (.bool a.isNone) w:=fun w a n c n' c'=>Lib.run_eql_slice_nil w _ _ a n c n' c' QR
 obtain⟨i0,hi,hz0,hz1,hz2⟩:=info_parts FZ
 go_enter Tryz.func105,Tryz.ntmps105
 go_wp2_with (at_builtin;refine Lib.wpList_append_run _ rfl _ _ _ _ rfl _ _ rfl rfl _ _ (Xc QR hi (Nat.le_refl _)) ?_)
 go_ret
 exact⟨⟨_,rfl⟩,(Below.refl _ w).alloc (Nat.le_refl _) _⟩
theorem P8(a:Addr)(n c:Nat)(news:List Value)(w:World)(h0:0<n)(hn:n<=1048576)(hl:news.length=n*2)(hc : ∀ j u,news[j]? = some u->w.cell? (a.add j)=some u)(h1 : ∀ u∈news,u.oneCell'=true):
  Calls Tryz.prog 105 #[.slice (some a) n c] w fun e w'=> ∃ v',e = .returned v'∧w'.ownsRow w.heap.size 61 2 v' n news∧Below w.heap.size w w':=by
 have q22 : ∀ (w:World) (a:Option Addr) (n c n' c':Nat),(binOp .eql 22 (.slice a n c) (.slice none n' c')).run Tryz.prog w = .ok (.bool a.isNone) w:=fun w a n c n' c'=>Lib.run_eql_slice_nil w _ _ a n c n' c' QR
 obtain⟨i0,hi,hz0,hz1,hz2⟩:=info_parts FZ
 have A:Aside (∀ j u,news[j]? = some u->w.cell? (a.add j)=some u):=hc
 clear hc
 go_enter Tryz.func105,Tryz.ntmps105
 go_wp2_with (at_builtin;refine wpList_append_own _ rfl _ _ 22 rfl w.heap.size 61 i0 (.agg #[.string ByteArray.empty,.int .i64 0]) 2 24 QR hi hz0 hz1 hz2 rfl (by decide) _ _ _ rfl (World.ownsRow_made w #[] 0 (Nat.le_refl _) (Nat.zero_le _) rfl) a n c news rfl ?qc1 ?qc2 ?qc3 ?qc4 ?qc5 ?qc6 ?_)
 case qc1=>exact hl
 case qc2=>intro j u hj;exact Lib.cell?_alloc_some _ (A.out j u hj)
 case qc3=>exact h1
 case qc4=>unfold maxLen;omega
 case qc5=>omega
 case qc6=>simp
 intro v' w1 hown hgrow hnil
 go_wp2
 go_ret
 refine⟨v',rfl,by simpa using hown,?_⟩
 exact((Below.refl _ w).alloc (Nat.le_refl _) _).grown hgrow (by simp) (by intro k hk;simp[Value.ownBlock]at hk;omega)
theorem b6n:CloneC Tryz.prog 105 61 2:=⟨Lc,PK,P8⟩
theorem X9(b ty:Nat): ∀ (vs:List Value) (o:Nat) (w:World) (cs:Array Value),w.heap[b]? = some (.cells cs ty (0,0))->o+vs.length<=cs.size ->
  ∃ cs',(w.setCells b o vs).heap[b]? = some (.cells cs' ty (0,0))∧cs'.size=cs.size∧cs'.toList=cs.toList.take o++vs++cs.toList.drop (o+vs.length)∧(w.setCells b o vs).heap.size=w.heap.size ∧
   (∀ k,k≠b->(w.setCells b o vs).heap[k]? = w.heap[k]?)∧(w.setCells b o vs).os=w.os∧(w.setCells b o vs).tape=w.tape∧(w.setCells b o vs).output=w.output:=by
 intro vs
 induction vs with
 | nil=>
  intro o w cs h hl
  exact⟨cs,h,rfl,by simp,rfl,fun _ _=>rfl,rfl,rfl,rfl⟩
 | cons v r ih=>
  intro o w cs h hl
  simp only[List.length_cons]at hl
  have hset:(w.setCell ⟨b,o,none⟩ v).heap[b]? = some (.cells (cs.setIfInBounds o v) ty (0,0)):=by
   simp[World.setCell,Array.getElem?_modify,h]
  obtain⟨cs',k1,k2,k3,k4,k5,k6,k7,k8⟩:=ih (o+1) (w.setCell ⟨b,o,none⟩ v) (cs.setIfInBounds o v) hset (by simp;omega)
  refine⟨cs',k1,by rw[k2];simp,?_,by rw[World.setCells,k4];simp[World.setCell],fun k hk=>(k5 k hk).trans (Below.heap_setCell w ⟨b,o,none⟩ v k hk),k6,k7,k8⟩
  rw[k3,Array.toList_setIfInBounds]
  have hlt:o<cs.toList.length:=by simp;omega
  rw[List.take_succ_eq_append_getElem (by rw[List.length_set];exact hlt),List.take_set_of_le (Nat.le_refl _),List.getElem_set_self,List.drop_set_of_lt (by omega)]
  simp only[List.length_cons,List.append_assoc,List.singleton_append,List.cons_append,List.nil_append]
  rw[show o+1+r.length=o+(r.length+1) by omega]
theorem TM{w:World}{b ty:Nat}{cs:Array Value}(h:w.heap[b]? = some (.cells cs ty (0,0)))(n:Nat): ∀ j v,(cs.toList.take n)[j]? = some v->w.cell? ⟨b,0+j,none⟩=some v:=by
 intro j v hj
 rw[Nat.zero_add,cell_of_row w b j cs ty (0,0) h]
 rw[List.getElem?_take]at hj
 split at hj
 ·simpa using hj
 ·cases hj
theorem Nj{w:World}{b ty:Nat}{cs:Array Value}(h:w.heap[b]? = some (.cells cs ty (0,0))){j:Nat}(hj:j<cs.size):(w.cell? ⟨b,j,none⟩).isSome=true:=by
 rw[cell_of_row w b j cs ty (0,0) h,Array.getElem?_eq_getElem hj]
 rfl
theorem Tn{w:World}{b ty:Nat}{cs:Array Value}(h:w.heap[b]? = some (.cells cs ty (0,0)))(j:Nat):w.frozen? ⟨b,j,none⟩=false:=by
 simp[World.frozen?,h]
theorem PP{w:World}{b ty:Nat}{cs:Array Value}(h:w.heap[b]? = some (.cells cs ty (0,0))):w.shape? b=some (ty,cs.size):=by
 simp[World.shape?,h]
theorem a3g(a:Option Addr)(n c i:Nat)(vb:Option Addr)(vc:Nat)(w:World)(hi:i<=n)(hn:n<=c)(hc:c<=maxLen):
  Calls Tryz.prog 103 #[.slice a n c,.int .i64 (i:Int),.slice vb 0 vc] w fun e w'=>e = .returned (.slice a n c)∧Below w.heap.size w w':=by
 go_enter Tryz.func103,Tryz.ntmps103
 go_wp2
 all_goals (go_ret;exact⟨rfl,Below.refl _ _⟩)
theorem b8c:Tryz.laysI21_ren.t 3=3:=by kernel_rfl
theorem a2q(b n c i vb m vc:Nat)(cur cur2:Array Value)(w:World)(hb:w.heap[b]? = some (.cells cur 3 (0,0)))(hc:cur.size=c)(hn:n<=c)(hcm:c<=maxLen)(hv:w.heap[vb]? = some (.cells cur2 3 (0,0)))(hm2:m<=cur2.size)(hne:vb≠b)(hi:i<=n)(hm:0<m)
  (h1 : ∀ u∈cur.toList.take n,u.oneCell'=true) (h2 : ∀ u∈cur2.toList.take m,u.oneCell'=true) (hbig:n+m<=1048576) :
  Calls Tryz.prog 103 #[.slice (some ⟨b,0,none⟩) n c,.int .i64 (i:Int),.slice (some ⟨vb,0,none⟩) m vc] w fun e w'=> ∃ g cp cur',e = .returned (.slice (some ⟨g,0,none⟩) (n+m) cp)∧((g=b∧cp=c)∨w.heap.size<=g) ∧
   w'.heap[g]? = some (.cells cur' 3 (0,0))∧cur'.size=cp∧n+m<=cp∧cp<=maxLen∧cur'.toList.take (n+m)=(cur.toList.take n).take i++cur2.toList.take m++(cur.toList.take n).drop i ∧
   (∀ k,k<w.heap.size->k≠b->w'.heap[k]? = w.heap[k]?)∧w'.os=w.os∧w'.tape=w.tape∧w'.output=w.output∧w.heap.size<=w'.heap.size:=by
 have hcl:(cur.toList.take n).length=n:=by simp;omega
 have hvl:(cur2.toList.take m).length=m:=by simp;omega
 have hcells:=TM hb n
 have hvcells:=TM hv m
 have hc63:c<=9223372036854775807:=by simp only[maxLen]at hcm;omega
 have hbw:b<w.heap.size:=(Array.getElem?_eq_some_iff.1 hb).1
 have hG:=grownCap_ge w (n+m) c 3
 have hGm:grownCap w (n+m) c 3<=maxLen:=grownCap_le_maxLen w (n+m) c 3 (by unfold maxLen;omega)
 by_cases hin:i=n
 ·subst hin
  by_cases hroom:i+m<=c
  ·refine(Any2.slices_Insert_int_end_room Tryz.laysI21 b 0 i c vb 0 m vc (cur2.toList.take m) w hm hroom hc63 hvl (fun j hj=>by rw[Nat.zero_add];exact Nj hb (by omega)) (fun j hj=>Tn hb _) hvcells h2).mono ?_
   rintro e w' ⟨rfl,rfl⟩
   rw[Nat.zero_add]
   obtain⟨cs',k1,k2,k3,k4,k5,k6,k7,k8⟩:=X9 b 3 (cur2.toList.take m) i w cur hb (by rw[hvl];omega)
   refine⟨b,c,cs',rfl,.inl ⟨rfl,rfl⟩,k1,by rw[k2,hc],hroom,hcm,?_,fun k _ hk=>k5 k hk,k6,k7,k8,by rw[k4];exact Nat.le_refl _⟩
   rw[k3,hvl]
   rw[List.take_append_of_le_length (by rw[List.length_append,hvl,hcl];exact Nat.le_refl _),List.take_of_length_le (by rw[List.length_append,hvl,hcl];exact Nat.le_refl _),List.take_take,Nat.min_self,List.drop_of_length_le (by rw[hcl];exact Nat.le_refl _),List.append_nil]
  ·refine(Any2.slices_Insert_int_end_grow Tryz.laysI21 (some ⟨b,0,none⟩) i c vb 0 m vc (cur.toList.take i) (cur2.toList.take m) w hm hn (by omega) (by omega) hcl hvl (by intro h;cases h) (by intro a ha;cases ha;intro j v hj;rw[Addr.add_lit];exact hcells j v hj) hvcells h2).mono ?_
   rintro e w' ⟨rfl,rfl⟩
   simp only[b8c]
   refine⟨w.heap.size,_,_,rfl,.inr (Nat.le_refl _),heap_alloc_new w.drew _,?_,hG,hGm,?_,fun k hk _=>heap_alloc_old w.drew _ hk,rfl,rfl,rfl,by simp⟩
   ·simp only[Array.size_append,List.size_toArray,List.length_append,hcl,hvl,size_zeroCells]
    show i+m+(grownCap w (i+m) c 3 - (i+m))*1=_
    have:i+m<=grownCap w (i+m) c 3:=hG
    omega
   ·rw[Array.toList_append,List.toList_toArray,List.take_append_of_le_length (by rw[List.length_append,hvl,hcl];exact Nat.le_refl _),List.take_of_length_le (by rw[List.length_append,hvl,hcl];exact Nat.le_refl _),List.take_take,Nat.min_self,List.drop_of_length_le (by rw[hcl];exact Nat.le_refl _),List.append_nil]
 ·have hlt:i<n:=by omega
  by_cases hroom:n+m<=c
  ·refine(Any2.slices_Insert_int_shift Tryz.laysI21 b 0 n c i vb 0 m vc (cur.toList.take n) (cur2.toList.take m) w hlt hm hroom hc63 hne hcl hvl hcells (fun j hj=>by rw[Nat.zero_add];exact Nj hb (by omega)) (fun j hj=>Tn hb _) hvcells h1 h2
    3 3 cur2.size cur.size (PP hv) (PP hb) (by omega) (Tn hv _) (Tn hv _)).mono ?_
   rintro e w' ⟨rfl,rfl⟩
   rw[Nat.zero_add,Nat.zero_add]
   obtain⟨cs1,j1,j2,j3,j4,j5,j6,j7,j8⟩:=X9 b 3 ((cur.toList.take n).drop i) (i+m) w.drew cur hb (by rw[List.length_drop,hcl];omega)
   obtain⟨cs',k1,k2,k3,k4,k5,k6,k7,k8⟩:=X9 b 3 (cur2.toList.take m) i _ cs1 j1 (by rw[hvl,j2];omega)
   refine⟨b,c,cs',rfl,.inl ⟨rfl,rfl⟩,k1,by rw[k2,j2,hc],hroom,hcm,?_,fun k _ hk=>(k5 k hk).trans (j5 k hk),k6.trans j6,k7.trans j7,k8.trans j8,by rw[k4,j4];exact Nat.le_refl _⟩
   rw[k3,j3,hvl]
   have e1:(List.take (i+m) cur.toList++List.drop i (List.take n cur.toList)++List.drop (i+m+(List.drop i (List.take n cur.toList)).length) cur.toList).take i=(List.take n cur.toList).take i:=by
    rw[List.append_assoc,List.take_append_of_le_length (by simp;omega),List.take_take,List.take_take,Nat.min_eq_left (by omega),Nat.min_eq_left (by omega)]
   have hl1:(List.take (i+m) cur.toList).length=i+m:=by simp;omega
   have e2:(List.take (i+m) cur.toList++List.drop i (List.take n cur.toList)++List.drop (i+m+(List.drop i (List.take n cur.toList)).length) cur.toList).drop (i+m)=List.drop i (List.take n cur.toList)++List.drop (i+m+(List.drop i (List.take n cur.toList)).length) cur.toList:=by
    rw[List.append_assoc,List.drop_append_of_le_length (by rw[hl1];exact Nat.le_refl _),List.drop_of_length_le (by rw[hl1];exact Nat.le_refl _),List.nil_append]
   rw[e1,e2,<- List.append_assoc]
   have hl2:(List.take i (List.take n cur.toList)++List.take m cur2.toList++List.drop i (List.take n cur.toList)).length=n+m:=by
    rw[List.length_append,List.length_append,hvl,List.length_take,List.length_drop,hcl];omega
   rw[List.take_append_of_le_length (by rw[hl2];exact Nat.le_refl _),List.take_of_length_le (by rw[hl2];exact Nat.le_refl _)]
  ·refine(Any2.slices_Insert_int_grow Tryz.laysI21 b 0 n c i vb 0 m vc (cur.toList.take n) (cur2.toList.take m) w hlt hm hn (by omega) (by omega) hcl hvl hcells hvcells h1 h2).mono ?_
   rintro e w' ⟨rfl,rfl⟩
   simp only[b8c]
   have hil:((cur.toList.take n).take i).length=i:=by rw[List.length_take,hcl];omega
   have hzc:(Value.int .i64 0).cells.size=1:=rfl
   obtain⟨cs1,j1,j2,j3,j4,j5,j6,j7,j8⟩:=X9 w.heap.size 3 (cur2.toList.take m) i
    (w.alloc (.cells (((cur.toList.take n).take i).toArray++Builtin.zeroCells (Value.int .i64 0).cells (n+m - i)++Builtin.zeroCells (Value.int .i64 0).cells (grownCap w (n+m) c 3 - (n+m))) 3)).drew _ (heap_alloc_new w _)
    (by rw[hvl];simp only[Array.size_append,List.size_toArray,hil,size_zeroCells,hzc];omega)
   obtain⟨cs',k1,k2,k3,k4,k5,k6,k7,k8⟩:=X9 w.heap.size 3 ((cur.toList.take n).drop i) (i+m) _ cs1 (show(World.drew _).heap[w.heap.size]? = _ from j1)
    (by rw[List.length_drop,hcl,j2];simp only[Array.size_append,List.size_toArray,hil,size_zeroCells,hzc];omega)
   have hsz:cs1.size=grownCap w (n+m) c 3:=by
    rw[j2];simp only[Array.size_append,List.size_toArray,hil,size_zeroCells,hzc];omega
   refine⟨w.heap.size,_,cs',rfl,.inr (Nat.le_refl _),k1,by rw[k2,hsz],hG,hGm,?_,fun k hk _=>(k5 k (by omega)).trans ((j5 k (by omega)).trans (heap_alloc_old w _ hk)),k6.trans j6,k7.trans j7,k8.trans j8,by rw[k4];show _<=(World.setCells _ _ _ _).heap.size;rw[j4];simp⟩
   have hl1:cs1.toList.take (i+m)=(cur.toList.take n).take i++cur2.toList.take m:=by
    have hC : ∀ (A Z1 Z2:Array Value),A.size=i->(A++Z1++Z2).toList.take i=A.toList:=fun A Z1 Z2 h=>by
     rw[Array.toList_append,Array.toList_append,List.append_assoc,List.take_append_of_le_length (by simp;omega),List.take_of_length_le (by simp;omega)]
    have hq:=hC ((cur.toList.take n).take i).toArray (Builtin.zeroCells (Value.int .i64 0).cells (n+m - i)) (Builtin.zeroCells (Value.int .i64 0).cells (grownCap w (n+m) c 3 - (n+m))) (by simpa using hil)
    rw[List.toList_toArray]at hq
    rw[j3,hq,List.take_append_of_le_length (by rw[List.length_append,hil,hvl];exact Nat.le_refl _),List.take_of_length_le (by rw[List.length_append,hil,hvl];exact Nat.le_refl _)]
   have hl2:((cur.toList.take n).take i++cur2.toList.take m++(cur.toList.take n).drop i).length=n+m:=by
    rw[List.length_append,List.length_append,hil,hvl,List.length_drop,hcl];omega
   rw[k3,hl1]
   rw[List.take_append_of_le_length (by rw[hl2];exact Nat.le_refl _),List.take_of_length_le (by rw[hl2];exact Nat.le_refl _)]
theorem a7d(base:Option Addr)(vb m vc:Nat)(cur2:Array Value)(w:World)(hv:w.heap[vb]? = some (.cells cur2 3 (0,0)))(hm2:m<=cur2.size)(hm:0<m)(h2 : ∀ u∈cur2.toList.take m,u.oneCell'=true)(hbig:m<=1048576):
  Calls Tryz.prog 103 #[.slice base 0 0,.int .i64 (0:Int),.slice (some ⟨vb,0,none⟩) m vc] w fun e w'=> ∃ g cp cur',e = .returned (.slice (some ⟨g,0,none⟩) m cp)∧w.heap.size<=g ∧
   w'.heap[g]? = some (.cells cur' 3 (0,0))∧cur'.size=cp∧m<=cp∧cp<=maxLen∧cur'.toList.take m=cur2.toList.take m∧Below w.heap.size w w':=by
 have hvl:(cur2.toList.take m).length=m:=by simp;omega
 have hG:=grownCap_ge w (0+m) 0 3
 have hGm:grownCap w (0+m) 0 3<=maxLen:=grownCap_le_maxLen w (0+m) 0 3 (by unfold maxLen;omega)
 refine(Any2.slices_Insert_int_end_grow Tryz.laysI21 base 0 0 vb 0 m vc [] (cur2.toList.take m) w hm (Nat.le_refl _) (by omega) (by omega) rfl hvl (fun _=>rfl) (by intro a ha j v hj;simp at hj) (TM hv m) h2).mono ?_
 rintro e w' ⟨rfl,rfl⟩
 simp only[b8c]
 refine⟨w.heap.size,_,_,by rw[Nat.zero_add],Nat.le_refl _,heap_alloc_new w.drew _,?_,by omega,hGm,?_,?_⟩
 ·simp only[Array.size_append,List.size_toArray,List.nil_append,hvl,size_zeroCells]
  show m+(grownCap w (0+m) 0 3 - (0+m))*1=_
  omega
 ·rw[Array.toList_append,List.toList_toArray,List.nil_append,List.take_append_of_le_length (by rw[hvl];exact Nat.le_refl _),List.take_of_length_le (by rw[hvl];exact Nat.le_refl _)]
 ·exact((Below.refl _ w).drew).alloc (Nat.le_refl _) _
theorem c0z:InsC Tryz.prog 103 3:=⟨a3g,a2q,a7d⟩
end Go.Proofs.YtjfgiaooglnomaaGreatDoor

namespace Go.Proofs.YtjfgiaooglnomaaGreatDoor
open Go.Pl
open Enc (enc dec is)
open EncL (encL decL isL)
set_option maxRecDepth 100000
theorem Ac:Zl Tryz.prog 213 (fun _:Int×Int×Unit=>true) (fun x:Int×Int×Unit=>Ug x.1 x.2.1):=Zl.of (T:=Jp) (ic:=Hf) (rs:=Q3) Zm ZX Tryz.func213 (by kernel_rfl) (by kernel_rfl) (by kernel_rfl) NQ
theorem a8f:Zl Tryz.prog 211 (fun _:Coef×Coef×Unit=>true) (fun x:Coef×Coef×Unit=>QP x.1 x.2.1):=Zl.of (T:=G8) (ic:=Ck) (rs:=JU) (Zb (Yn Tryz.func212 (by kernel_rfl) Rs) (Zb (Yn Tryz.func213 (by kernel_rfl) Ac) Zm)) ZX Tryz.func211 (by kernel_rfl) (by kernel_rfl) (by kernel_rfl) EJ
theorem a5b:Zl Tryz.prog 210 (fun x:List Coef×List Coef×FnV 211×Unit=>decide (x.1.length<=9223372036854775807)&&decide (x.2.1.length<=9223372036854775807)) (fun x:List Coef×List Coef×FnV 211×Unit=>Xy x.1 x.2.1):=Zl.of (T:=Qu) (ic:=VU) (rs:=V7) (Zb (Yn Tryz.func211 (by kernel_rfl) a8f) Zm) ZX Tryz.func210 (by kernel_rfl) (by kernel_rfl) (by kernel_rfl) a1f
theorem BJ:Zl Tryz.prog 145 (fun x:Lin×Lin×Unit=>Zy x.1&&Zy x.2.1) (fun x:Lin×Lin×Unit=>WV x.1 x.2.1):=Zl.of (T:=Tu) (ic:=Sw) (rs:=Da) (Zb (Yn Tryz.func210 (by kernel_rfl) a5b) (Zb (Yn Tryz.func213 (by kernel_rfl) Ac) Zm)) ZX Tryz.func145 (by kernel_rfl) (by kernel_rfl) (by kernel_rfl) a7k
theorem Rl:Zl Tryz.prog 74 (fun x:Lin×Lin×Unit=>Zy x.1&&Zy x.2.1) (fun x:Lin×Lin×Unit=>WV x.1 x.2.1==0):=Zl.of (T:=a8c) (ic:=Mt) (rs:=MG) (Zb (Yn Tryz.func145 (by kernel_rfl) BJ) Zm) ZX Tryz.func74 (by kernel_rfl) (by kernel_rfl) (by kernel_rfl) b0d
theorem BK:Zl Tryz.prog 74 (fun x:Lin×Lin×Unit=>Zy x.1&&Zy x.2.1) (fun x:Lin×Lin×Unit=>decide (x.1=x.2.1)):=by
 have h:(fun x:Lin×Lin×Unit=>WV x.1 x.2.1==0)=(fun x:Lin×Lin×Unit=>decide (x.1=x.2.1)):=funext fun x=>Cm.cmpLin_dec x.1 x.2.1
 rw[<- h]
 exact Rl
theorem BC:Zl Tryz.prog 21 (fun x:Lin×Lin×Unit=>Zy x.1) (fun x:Lin×Lin×Unit=>decide (x.1=x.2.1)):=by
 have h:(fun x:Lin×Lin×Unit=>BM x.1 x.2.1==0)=(fun x:Lin×Lin×Unit=>decide (x.1=x.2.1)):=funext fun x=>Cm.cmpL_dec x.1 x.2.1
 rw[<- h]
 exact Tf
theorem O4:Zl Tryz.prog 106 (fun x:List Int×List Int×Unit=>QT x.1) (fun x:List Int×List Int×Unit=>decide (x.1=x.2.1)):=Zl.of (T:=K6) (ic:=Qq) (rs:=U6) Zm ZX Tryz.func106 (by kernel_rfl) (by kernel_rfl) (by kernel_rfl) a3f
theorem GJ:Zl Tryz.prog 54 (fun x:List Int×List Int×Unit=>QT x.1) (fun x:List Int×List Int×Unit=>decide (x.1=x.2.1)):=Zl.of (T:=VF) (ic:=WX) (rs:=WS) Zm ZX Tryz.func54 (by kernel_rfl) (by kernel_rfl) (by kernel_rfl) NY
theorem Af:Ye Tryz.prog 104 (Y0 1) (UH 3 1):=Aq b5c (by decide)
theorem MH:Zl Tryz.prog 104 (fun x:List Int×Unit=>decide (x.1.length<=1048576)) (fun x:List Int×Unit=>x.1):=CG (α:=Int) (by decide) Af
theorem DD:Zl Tryz.prog 105 (fun x:List Coef×Unit=>decide (x.1.length<=1048576)) (fun x:List Coef×Unit=>x.1):=CG (α:=Coef) (by decide) (Aq b6n (by decide))
theorem a9y:Ye Tryz.prog 103 (XO 3) Jk:=b3n (N7 c0z)
theorem Bq:Zl Tryz.prog 32 (fun x:Cert×Int×Int×Unit=>cW x.1&&decide (x.2.1<=1000)) (fun x:Cert×Int×Int×Unit=>Zk x.2.1 x.2.2.1 x.1):=Zl.rec (fun a=>Zt a.1) fun N hN=>Zl.or (fun x=>Xq x.1.kind) (Zl.of (T:=Vh N) (ic:=Xn) (rs:=XD) (Zb (Yn Tryz.func104 (by kernel_rfl) Af) (Zb (Yn Tryz.func105 (by kernel_rfl) DD) (Zb (Yn Tryz.func103 (by kernel_rfl) a9y) (Zb (Yn Tryz.func32 (by kernel_rfl) hN) Zm)))) ZX Tryz.func32 (by kernel_rfl) (by kernel_rfl) (by kernel_rfl) (b2h N)) (Zl.of (T:=QS N) (ic:=VI) (rs:=VZ) (Zb (Yn Tryz.func104 (by kernel_rfl) MH) (Zb (Yn Tryz.func105 (by kernel_rfl) DD) (Zb (Yn Tryz.func32 (by kernel_rfl) hN) Zm))) ZX Tryz.func32 (by kernel_rfl) (by kernel_rfl) (by kernel_rfl) (b2t N))
theorem Bp:Zl Tryz.prog 33 (fun x:Cert×Int×Int×Unit=>cW x.1&&decide (x.2.1<=1000)) (fun x:Cert×Int×Int×Unit=>Zk x.2.1 x.2.2.1 x.1):=Zl.rec (fun a=>Zt a.1) fun N hN=>Zl.of (T:=XF N) (ic:=Yw) (rs:=Yy) (Zb (Yn Tryz.func33 (by kernel_rfl) hN) Zm) ZX Tryz.func33 (by kernel_rfl) (by kernel_rfl) (by kernel_rfl) (b1t N)
theorem Hl:Zl Tryz.prog 34 (fun x:Cert×Cert×Unit=>cW x.1&&cW x.2.1) (fun x:Cert×Cert×Unit=>GD x.1 x.2.1):=Zl.rec (fun a=>Zt a.1) fun N hN=>Zl.of (T:=Ot N) (ic:=Ti) (rs:=TL) (Zb (Yn Tryz.func106 (by kernel_rfl) O4) (Zb (Yn Tryz.func74 (by kernel_rfl) BK) (Zb (Yn Tryz.func107 (by kernel_rfl) (Zl.of (T:=Dc N) (ic:=KU) (rs:=Jc) (Zb (Yn Tryz.func34 (by kernel_rfl) hN) Zm) ZX Tryz.func107 (by kernel_rfl) (by kernel_rfl) (by kernel_rfl) (b1k N))) Zm))) ZX Tryz.func34 (by kernel_rfl) (by kernel_rfl) (by kernel_rfl) (b1q N)
theorem Hz:Zl Tryz.prog 30 (fun x:Cert×Cert×Unit=>cW x.1&&cW x.2.1) (fun x:Cert×Cert×Unit=>GD x.1 x.2.1):=Zl.rec (fun a=>Zt a.1) fun N hN=>Zl.of (T:=QU N) (ic:=Uj) (rs:=Ur) (Zb (Yn Tryz.func54 (by kernel_rfl) GJ) (Zb (Yn Tryz.func21 (by kernel_rfl) BC) (Zb (Yn Tryz.func30 (by kernel_rfl) hN) Zm))) ZX Tryz.func30 (by kernel_rfl) (by kernel_rfl) (by kernel_rfl) (a4x N)
theorem a2e:Zl Tryz.prog 5 (fun x:List Fact×List Fact×Cert×Unit=>YA x.1&&YA x.2.1&&UA x.2.2.1) (fun _:List Fact×List Fact×Cert×Unit=>true):=Zl.of (T:=Ww) (ic:=XA) (rs:=XB) (Zb (Yn Tryz.func23 (by kernel_rfl) LA) (Zb (Yn Tryz.func31 (by kernel_rfl) LC) (Zb (Yn Tryz.func24 (by kernel_rfl) Tc) (Zb (Yn Tryz.func32 (by kernel_rfl) Bq) (Zb (Yn Tryz.func33 (by kernel_rfl) Bp) (Zb (Yn Tryz.func30 (by kernel_rfl) Hz) (Zb (Yn Tryz.func34 (by kernel_rfl) Hl) (Zb (Yn Tryz.func35 (by kernel_rfl) Tt) (Zb (Yn Tryz.func36 (by kernel_rfl) BX) Zm))))))))) ZX Tryz.func5 (by kernel_rfl) (by kernel_rfl) (by kernel_rfl) OO
end Go.Proofs.YtjfgiaooglnomaaGreatDoor

namespace Go.Proofs.YtjfgiaooglnomaaGreatDoor
open Go.Pl
open Enc (enc dec is)
open EncL (encL decL isL)
set_option maxRecDepth 100000
theorem G6:Tryz.prog.underlying 3=some (.int .i64):=by kernel_rfl
theorem b3w:Tryz.prog.underlying 4=some .bool:=by kernel_rfl
theorem b2z:Tryz.prog.underlying 9=some .string:=by kernel_rfl
theorem a2z:Tryz.prog.underlying 34=some (.slice 3):=by kernel_rfl
theorem a3p:Tryz.prog.underlying 22=some (.slice 61):=by kernel_rfl
theorem a6l:Tryz.prog.underlying 52=some (.slice 100):=by kernel_rfl
theorem a3n:Tryz.prog.underlying 35=some (.slice 37):=by kernel_rfl
theorem G7:Tryz.prog.cellsOf 3=1:=by kernel_rfl
theorem b3l:Tryz.prog.cellsOf 4=1:=by kernel_rfl
theorem b3u:Tryz.prog.cellsOf 9=1:=by kernel_rfl
theorem a6x:Tryz.prog.cellsOf 34=1:=by kernel_rfl
theorem a5t:Tryz.prog.cellsOf 22=1:=by kernel_rfl
theorem a4o:Tryz.prog.cellsOf 35=1:=by kernel_rfl
theorem RQ:Tryz.prog.cellsOf 61=2:=by kernel_rfl
theorem C9:Tryz.prog.cellsOf 24=2:=by kernel_rfl
theorem Nf:Tryz.prog.cellsOf 100=3:=by kernel_rfl
theorem RI:Tryz.prog.cellsOf 37=5:=by kernel_rfl
theorem b7f:YJ Tryz.prog 61=true:=by kernel_rfl
theorem b6b:YJ Tryz.prog 100=true:=by kernel_rfl
theorem b7p:YJ Tryz.prog 37=true:=by kernel_rfl
theorem b6v:YJ Tryz.prog 52=false:=by kernel_rfl
theorem a2k:Kq Tryz.prog 61=some [(0,9),(1,3)]:=by kernel_rfl
theorem a4c:Kq Tryz.prog 24=some [(0,3),(1,22)]:=by kernel_rfl
theorem a4s:Kq Tryz.prog 100=some [(0,4),(1,24)]:=by kernel_rfl
theorem a8q:Kq Tryz.prog 37=some [(0,3),(1,34),(2,24),(4,35)]:=by kernel_rfl
theorem G9{α:Type}[Enc α]{P:α->Prop}{f:List PV->PV}: ∀ {qs:List (List PV)},(∀ q∈qs,∃ a:α,f q=enc a∧P a)-> ∃ l:List α,qs.map f=l.map enc∧ ∀ a∈l,P a
 | [],_=>⟨[],rfl,fun a h=>by cases h⟩
 | q::qs,h=>by
  obtain⟨a,h1,h2⟩:=h q (by simp)
  obtain⟨l,h3,h4⟩:=G9 (qs:=qs) fun r hr=>h r (by simp[hr])
  refine⟨a::l,by rw[List.map_cons,List.map_cons,h1,h3],fun b hb=> ?_⟩
  rcases List.mem_cons.1 hb with rfl|hb
  ·exact h2
  ·exact h4 b hb
theorem D7{α:Type}[Enc α]{f:List PV->PV}{qs:List (List PV)}{l:List α}(h:qs.map f=l.map enc):l.length=qs.length:=by
 have:=congrArg List.length h
 simpa using this.symm
theorem b2s{n:Nat}{q:List PV}(h:Y7 Tryz.prog n 61 q): ∃ t:Coef,K9 Tryz.prog 61 q=enc t∧True:=by
 obtain⟨m,_,hl,h0,h1,_⟩:=Ul a2k RQ h
 match q,hl with
 | [a,b],_=>
  rw[b3u]at h0
  rw[G7]at h1
  obtain⟨o,e0,w0⟩:=a6q b2z h0
  obtain⟨k,e1,w1⟩:=Ji G6 h1
  simp at e0 e1
  subst e0 e1
  exact⟨⟨⟨o⟩,k⟩,by rw[K9,b7f];rfl,trivial⟩
theorem a9p{n:Nat}{q:List PV}(h:Y7 Tryz.prog n 22 q): ∃ l:List Coef,q=[enc l]∧l.length<=9223372036854775807:=by
 obtain⟨m,_,qs,rfl,hl,hq⟩:=Qc a3p RQ h
 obtain⟨l,e,_⟩:=G9 (α:=Coef) (P:=fun _=>True) (f:=K9 Tryz.prog 61) fun x hx=>b2s (hq x hx).2
 have hl:qs.length<=9223372036854775807:=hl
 exact⟨l,by rw[e];rfl,by rw[D7 e];exact hl⟩
theorem b3a{n:Nat}{q:List PV}(h:Y7 Tryz.prog n 34 q): ∃ l:List Int,q=[enc l]∧l.length<=9223372036854775807:=by
 obtain⟨d,rfl,l1,_⟩:=a0f a2z G6 G7 h
 exact⟨d,rfl,l1⟩
theorem Fg{n:Nat}{a b:PV}(h:Y7 Tryz.prog n 24 [a,b]): ∃ l:Lin,a=enc l.k∧b=enc l.t∧Zy l=true:=by
 obtain⟨m,_,hl,h0,h1,_⟩:=Ul a4c C9 h
 rw[G7]at h0
 rw[a5t]at h1
 obtain⟨o,e0,w0⟩:=Ji G6 h0
 obtain⟨t,e1,l1⟩:=a9p h1
 simp at e0 e1
 subst e0 e1
 exact⟨⟨o,t⟩,rfl,rfl,by simp only[Zy];exact decide_eq_true l1⟩
theorem a0q{n:Nat}{q:List PV}(h:Y7 Tryz.prog n 100 q): ∃ f:Fact,K9 Tryz.prog 100 q=enc f∧Zy f.l=true:=by
 obtain⟨m,_,hl,h0,h1,_⟩:=Ul a4s Nf h
 match q,hl with
 | [a,b,c],_=>
  rw[b3l]at h0
  rw[C9]at h1
  obtain⟨o,e0⟩:=a0r b3w h0
  obtain⟨l,e1,e2,h2⟩:=Fg (a:=b) (b:=c) h1
  simp at e0
  subst e0 e1 e2
  exact⟨⟨o,l⟩,by rw[K9,b6b];rfl,h2⟩
theorem DW{n:Nat}{q:List PV}(h:Y7 Tryz.prog n 52 q): ∃ l:List Fact,K9 Tryz.prog 52 q=enc l∧l.length<=9223372036854775807∧ ∀ f∈l,Zy f.l=true:=by
 obtain⟨m,_,qs,rfl,hl,hq⟩:=Qc a6l Nf h
 obtain⟨l,e,hk⟩:=G9 (α:=Fact) (P:=fun f=>Zy f.l=true) (f:=K9 Tryz.prog 100) fun x hx=>a0q (hq x hx).2
 have hl:qs.length<=9223372036854775807:=hl
 exact⟨l,by rw[K9,b6v,e];rfl,by rw[D7 e];exact hl,hk⟩
theorem FR: ∀ {l:List Cert},(∀ c∈l,UA c=true)->Qy l=true
 | [],_=>rfl
 | c::l,h=>by simp only[Qy,h c (by simp),FR (l:=l) fun d hd=>h d (by simp[hd])];rfl
theorem a1a: ∀ (n:Nat) {q:List PV},Y7 Tryz.prog n 37 q-> ∃ c:Cert,K9 Tryz.prog 37 q=enc c∧UA c=true:=by
 intro n
 induction n using Nat.strongRecOn with
 | ind n ih=>
  intro q h
  obtain⟨m,hm,hl,h0,h1,h2,h3,_⟩:=Ul a8q RI h
  match q,hl with
  | [a,b,c,d,e],_=>
   rw[G7]at h0
   rw[a6x]at h1
   rw[C9]at h2
   rw[a4o]at h3
   obtain⟨o,e0,w0⟩:=Ji G6 h0
   obtain⟨ms,e1,l1⟩:=b3a h1
   obtain⟨l,e2,e3,l2⟩:=Fg (a:=c) (b:=d) h2
   obtain⟨m',hm',qs,e4,l4,hq⟩:=Qc a3n RI h3
   obtain⟨ks,e5,hk⟩:=G9 (α:=Cert) (P:=fun c=>UA c=true) (f:=K9 Tryz.prog 37) fun x hx=>ih m' (by omega) (hq x hx).2
   have l4:qs.length<=9223372036854775807:=l4
   simp at e0 e1 e4
   subst e0 e1 e2 e3 e4
   refine⟨.mk o ms l ks,?_,?_⟩
   ·rw[K9,b7p,Zp,e5];rfl
   ·simp only[UA,l2,FR hk,D7 e5]
    rw[decide_eq_true l1,decide_eq_true l4]
    rfl
end Go.Proofs.YtjfgiaooglnomaaGreatDoor

namespace Go.Proofs.YtjfgiaooglnomaaGreatDoor
open Go.Pl
open Enc (enc dec is)
open EncL (encL decL isL)
set_option maxRecDepth 100000
theorem Al{l:List Fact}(h1:l.length<=9223372036854775807)(h2 : ∀ f∈l,Zy f.l=true):YA l=true:=by
 simp only[YA,Bool.and_eq_true,decide_eq_true_eq,List.all_eq_true]
 exact⟨h1,h2⟩
end Go.Proofs.YtjfgiaooglnomaaGreatDoor

namespace Go.Proofs.YtjfgiaooglnomaaGreatDoor
open Go.Pl
open Enc (enc dec is)
open EncL (encL decL isL)
set_option maxRecDepth 100000
theorem MM{n0 n1 n2:Nat}{q0 q1 q2:List PV}(h0:Y7 Tryz.prog n0 52 q0)(h1:Y7 Tryz.prog n1 52 q1)(h2:Y7 Tryz.prog n2 37 q2):
  preT (fun x:List Fact×List Fact×Cert×Unit=>YA x.1&&YA x.2.1&&UA x.2.2.1) [K9 Tryz.prog 52 q0,K9 Tryz.prog 52 q1,K9 Tryz.prog 37 q2]=true:=by
 obtain⟨fs,e0,a1,a2⟩:=DW h0
 obtain⟨gs,e1,b1,b2⟩:=DW h1
 obtain⟨c,e2,c1⟩:=a1a n2 h2
 rw[e0,e1,e2]
 exact Zd (fs,gs,c,()) rfl (by show(YA fs&&YA gs&&UA c)=true;rw[Al a1 a2,Al b1 b2,c1];rfl)
end Go.Proofs.YtjfgiaooglnomaaGreatDoor

