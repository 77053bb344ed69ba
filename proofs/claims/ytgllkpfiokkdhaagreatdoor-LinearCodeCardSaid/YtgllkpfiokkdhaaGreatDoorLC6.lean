/-
  Texts of mine that belong together (packed by pack.py), for every input: Post, PlGl, LaidY, LaidZ, Sh, ShB, OkCe, OkN, OkR, ShC, ShD, Ok4, OkWi, OpY, OpWi.
-/
import Derived.Test.YtgllkpfiokkdhaaGreatDoorChecked
import Derived.Test.YtgllkpfiokkdhaaGreatDoorRows
import Derived.Test.YtgllkpfiokkdhaaGreatDoorLC2
import Derived.Test.YtgllkpfiokkdhaaGreatDoorLC3
import Derived.Test.YtgllkpfiokkdhaaGreatDoorLC4
import Derived.Test.YtgllkpfiokkdhaaGreatDoorLC5
import Derived.Below
import Derived.ChangeSame
import Derived.ChangeShapes
import Derived.ChangeSlices
import Derived.WideShapes
import Derived.RowKit
import Derived.Stop.LaidErr
import Derived.Lib.LaidTab
import Derived.Shelf.Strconv.AtoiAll
import Derived.Shelf.Strconv.Itoa3
import Derived.Shelf.Strings.Prefix
import Derived.Shelf.Sort.Plain
import Derived.Shelf.Small.Strs
import Derived.Shelf.Slices.In.SortNone
import Derived.KernelRfl
import Derived.Shelf.Strings.Trim
set_option linter.unusedVariables false
set_option linter.unusedSimpArgs false
namespace Go.Proofs.YtgllkpfiokkdhaaGreatDoor
open Go.RowKit Go.WideShapes Go.ChangeShapes
section
variable {H:Type} {enc:TypeId×Value->H} {P:Program}
theorem A8{f:Func}{s:ChangeSpec}{apart fresh handsOn again:Bool}{W W':World}{args:Array Value}{v:Value}{ds gs:List (DataW H)}{before pa pv:List MemPlace}
  (hW:DataW.Whole enc P f.params.toList s.vars apart W args.toList ds gs before)
  (hres : ∀ (b:Nat) (sp:Nat->Bool) (hd:Bool),DataW.TrodAll enc P W' b sp hd f.resultTypes.toList (v.resultList f.resultTypes.size) (s.fn H (ds++gs)).results [])
  (hargs : ∀ sp:Nat->Bool,(∀ p∈before,sp p.block=true)->DataW.TrodAll enc P W' 0 sp true f.params.toList args.toList (s.fn H (ds++gs)).args pa)
  (hvars : ∀ sp:Nat->Bool,(∀ p∈before,sp p.block=true)->DataW.TrodVars enc P W' sp s.vars (s.fn H (ds++gs)).vars pv)
  (hps:before=pa++pv) (hb:Below W.heap.size W W')
  (hok : ∀ (j:Nat) (t:TypeId) (r:Value),f.resultTypes[j]? = some t->(v.resultList f.resultTypes.size)[j]? = some r->Value.okWide P W' .any 0 t r) :
  s.post enc P f apart fresh handsOn again W args v W':=by
 have hlt : ∀ p∈before,p.block<W.heap.size:=fun p hp=>hW.lt p hp
 have hold : ∀ p∈before,(fun b=>decide (b<W.heap.size)) p.block=true:=fun p hp=>by simpa using hlt p hp
 refine⟨ds,gs,before,[],pa,pv,hW,hres _ _ _,hargs _ hold,hvars _ hold,World.keptBut_mono (fun p hp=>⟨hp,?_⟩) (hb.frame (· ∈ before)),fun _=> ?_⟩
 ·rw[hps,List.mem_append]at hp
  exact Or.inr hp
 ·obtain⟨_,_,_,_,_,hz,hn⟩:=hW
  refine⟨hok,_,_,([]++pa)++pv,⟨[]++pa,pv,trodAll_append (hargs _ (fun _ _=>rfl)) (hres _ _ _),hvars _ (fun _ _=>rfl),rfl,?_,?_⟩,?_⟩
  ·intro b off hp
   have hin:MemPlace.cell b off∈before:=by rw[hps];simpa using hp
   rw[hb.frozen (hlt _ hin)]
   exact hz b off hin
  ·intro ha
   have:=hn ha
   rw[hps]at this
   simpa using this
  ·intro p hp _
   rw[hps]
   simpa using hp
end
end Go.Proofs.YtgllkpfiokkdhaaGreatDoor

namespace Go.Pl
open Go.RowKit Go.WideShapes Go.ChangeShapes
def AU(w:World):ZZ:=fun b=>match w.heap[b]? with|some (.cells cs _ _)=>some cs|_=>none
theorem b8h(w:World):Wj (AU w) w:=fun b cs h=>by
 unfold AU at h
 split at h
 ·rename_i c T fz hb
  cases h
  exact⟨T,fz,hb⟩
 ·cases h
def H9(P:Program)(e:TypeId)(ps:List PV):PV:=match YZ P e with|true=>.agg ps|false=>ps.headD .nilp
def XX(P:Program):Nat->TypeId->List PV->Prop
 | 0,_,_=>False
 | n+1,t,ps=>match P.underlying t with
  | some .bool=> ∃ b,ps=[.bool b]
  | some (.int k)=> ∃ m,ps=[.int k m]∧(Lit.int k m).wf=true
  | some .string=> ∃ s:List UInt8,ps=[.str s]∧s.length<=maxLen
  | some (.slice e)=> ∃ qs:List (List PV),ps=[.sl (P.cellsOf e) false (qs.map (H9 P e))]∧qs.length<=maxLen∧ ∀ q∈qs,q.length=P.cellsOf e∧XX P n e q
  | some (.struct fs)=>ps.length=P.cellsOf t∧ ∀ f∈fs.toList,XX P n f.type ((ps.drop f.offset).take (P.cellsOf f.type))
  | some (.array m e)=>ps.length=P.cellsOf t∧ ∀ i<m,XX P n e ((ps.drop (i*P.cellsOf e)).take (P.cellsOf e))
  | _=>False
def Qf(P:Program):Nat->List Field->Nat->Bool
 | o,[],n=>o==n
 | o,f::fs,n=>f.offset==o&&Qf P (o+P.cellsOf f.type) fs n
def Pi(P:Program)(S:List TypeId):Bool:=S.all fun t=>match P.underlying t with
 | some .bool|some (.int _)|some .string=>P.cellsOf t==1
 | some (.slice e)=>P.cellsOf t==1&&S.contains e&&decide (0<P.cellsOf e)&&(YZ P e||P.cellsOf e==1)
 | some (.struct fs)=>Qf P 0 fs.toList (P.cellsOf t)&&fs.toList.all fun f=>S.contains f.type
 | some (.array m e)=>S.contains e&&m*P.cellsOf e==P.cellsOf t
 | _=>false
section
variable {H:Type} {enc:TypeId×Value->H} {P:Program} {w:World} {base:Nat} {sp:Nat->Bool} {held:Bool} {S:List TypeId}
theorem Bj{α β:Type}{f:α->Option β}: ∀ {l:List α} {r:List β},l.mapM f=some r->r.length=l.length∧ ∀ (j:Nat) x y,l[j]? = some x->r[j]? = some y->f x=some y:=by
 intro l
 induction l with
 | nil=>intro r h;simp at h;subst h;exact⟨rfl,fun j x y h=>by simp at h⟩
 | cons a l ih=>
  intro r h
  simp only[List.mapM_cons,Option.bind_eq_bind,Option.bind_eq_some_iff]at h
  obtain⟨b,hb,bs,hbs,h⟩:=h
  simp at h
  subst h
  obtain⟨h1,h2⟩:=ih hbs
  refine⟨by simp[h1],fun j x y hx hy=> ?_⟩
  cases j with
  | zero=>cases hx;cases hy;exact hb
  | succ j=>exact h2 j x y hx hy
def Cl(w:World)(cs:List Value)(ps:List PV):Prop:=Wh (AU w) cs ps∧Yy cs
theorem Cl.one{v:Value}{p:PV}(h:RP (AU w) v p)(h1:v.oneCell'=true):Cl w [v] [p]:=⟨⟨rfl,fun j x q hx hq=>match j with
 | 0=>by cases hx;cases hq;exact h
 | j+1=>by simp at hx⟩,fun v hv=>by simp at hv;subst hv;exact h1⟩
theorem Cl.append{cs ds:List Value}{ps qs:List PV}(h:Cl w cs ps)(k:Cl w ds qs):Cl w (cs++ds) (ps++qs):=by
 refine⟨⟨by simp[h.1.1,k.1.1],fun j v p hv hp=> ?_⟩,fun v hv=> ?_⟩
 ·by_cases hj:j<cs.length
  ·rw[List.getElem?_append_left hj]at hv
   rw[List.getElem?_append_left (by rw[<- h.1.1];exact hj)]at hp
   exact h.1.2 j v p hv hp
  ·rw[List.getElem?_append_right (by omega)]at hv
   rw[List.getElem?_append_right (by rw[<- h.1.1];omega),<- h.1.1]at hp
   exact k.1.2 _ v p hv hp
 ·rcases List.mem_append.1 hv with h'|h'
  ·exact h.2 v h'
  ·exact k.2 v h'
theorem Cl.nil:Cl w [] []:=⟨⟨rfl,fun j v p h=>by simp at h⟩,fun v h=>by simp at h⟩
theorem Tw(hS:Pi P S=true){t:TypeId}(ht:t∈S):(match P.underlying t with
 | some .bool|some (.int _)|some .string=>P.cellsOf t==1
 | some (.slice e)=>P.cellsOf t==1&&S.contains e&&decide (0<P.cellsOf e)&&(YZ P e||P.cellsOf e==1)
 | some (.struct fs)=>Qf P 0 fs.toList (P.cellsOf t)&&fs.toList.all fun f=>S.contains f.type
 | some (.array m e)=>S.contains e&&m*P.cellsOf e==P.cellsOf t
 | _=>false)=true:=List.all_eq_true.1 hS t ht
theorem NF{n:Nat}{cs:List Value}(ih : ∀ (t:TypeId) (cs:List Value) (x:DataW H×List MemPlace),t∈S->DataW.trod enc P w base sp held n t cs=some x-> ∃ ps,Cl w cs ps∧XX P n t ps):
  ∀ (fs:List Field) (o N:Nat) (xs:List (DataW H×List MemPlace)),Qf P o fs N=true->(∀ f∈fs,f.type∈S)->cs.length=N->o<=N ->
   fs.mapM (fun f=>DataW.trod enc P w base sp held n f.type ((cs.drop f.offset).take (P.cellsOf f.type)))=some xs ->
   ∃ ps,Cl w (cs.drop o) ps∧ ∀ qs:List PV,qs.length=o-> ∀ f∈fs,XX P n f.type (((qs++ps).drop f.offset).take (P.cellsOf f.type)):=by
 intro fs
 induction fs with
 | nil=>
  intro o N xs hc _ hl ho _
  simp[Qf]at hc
  refine⟨[],?_,fun qs _ f hf=>by simp at hf⟩
  rw[List.drop_of_length_le (by omega)]
  exact Cl.nil
 | cons f fs ihf=>
  intro o N xs hc hm hl ho h
  simp only[Qf,Bool.and_eq_true,beq_iff_eq]at hc
  obtain⟨hfo,hc⟩:=hc
  simp only[List.mapM_cons,Option.bind_eq_bind,Option.bind_eq_some_iff]at h
  obtain⟨x,hx,xs',hxs,_⟩:=h
  obtain⟨p1,k1,k2⟩:=ih _ _ x (hm f List.mem_cons_self) hx
  have hle:o+P.cellsOf f.type<=N:=by
   have : ∀ (fs:List Field) (a:Nat),Qf P a fs N=true->a<=N:=by
    intro fs
    induction fs with
    | nil=>intro a h;simp[Qf]at h;omega
    | cons g fs ih=>intro a h;simp only[Qf,Bool.and_eq_true]at h;have:=ih _ h.2;omega
   exact this _ _ hc
  obtain⟨p2,k3,k4⟩:=ihf (o+P.cellsOf f.type) N xs' hc (fun g hg=>hm g (List.mem_cons_of_mem _ hg)) hl hle hxs
  have hp1:p1.length=P.cellsOf f.type:=by
   rw[<- k1.1.1,List.length_take,List.length_drop,hfo]
   omega
  refine⟨p1++p2,?_,fun qs hq g hg=> ?_⟩
  ·have:=k1.append k3
   rw[hfo]at this
   have e:cs.drop o=(cs.drop o).take (P.cellsOf f.type)++cs.drop (o+P.cellsOf f.type):=by rw[<- List.drop_drop,List.take_append_drop]
   rw[e]
   exact this
  ·rcases List.mem_cons.1 hg with rfl|hg
   ·rw[hfo,<- hq,List.drop_left,<- hp1,List.take_left]
    exact k2
   ·have:=k4 (qs++p1) (by simp[hq,hp1]) g hg
    rwa [List.append_assoc]at this
theorem MU{n m sz:Nat}{e:TypeId}(he:P.cellsOf e=sz){cs:List Value}(ih : ∀ i,i<m-> ∃ ps,Cl w ((cs.drop (i*sz)).take sz) ps∧XX P n e ps)(hl:cs.length=m*sz):
  ∃ ps,Cl w cs ps∧ ∀ i<m,XX P n e ((ps.drop (i*sz)).take sz):=by
 induction m generalizing cs with
 | zero=>
  have:cs=[]:=List.length_eq_zero_iff.1 (by omega)
  subst this
  exact⟨[],Cl.nil,fun i h=>by omega⟩
 | succ m ihm=>
  obtain⟨p1,k1,k2⟩:=ih 0 (by omega)
  simp only[Nat.zero_mul,List.drop_zero]at k1
  have hl1:p1.length=sz:=by
   rw[<- k1.1.1,List.length_take,hl,Nat.succ_mul]
   omega
  obtain⟨p2,k3,k4⟩:=ihm (cs:=cs.drop sz) (fun i hi=>by
   have:=ih (i+1) (by omega)
   rwa [Nat.succ_mul,Nat.add_comm,<- List.drop_drop]at this) (by rw[List.length_drop,hl,Nat.succ_mul];omega)
  refine⟨p1++p2,by have:=k1.append k3;rwa [List.take_append_drop]at this,fun i hi=> ?_⟩
  cases i with
  | zero=>
   simp only[Nat.zero_mul,List.drop_zero]
   rw[<- hl1,List.take_left]
   exact k2
  | succ i=>
   have:=k4 i (by omega)
   have e2:(p1++p2).drop ((i+1)*sz)=p2.drop (i*sz):=by
    rw[Nat.succ_mul,Nat.add_comm,<- List.drop_drop]
    congr 1
    rw[<- hl1,List.drop_left]
   rwa [e2]
theorem a2x{e:TypeId}{q:List PV}(h:YZ P e=true∨P.cellsOf e=1)(hl:q.length=P.cellsOf e)(h1:YZ P e=false-> ∀ p∈q,p.cells=[p]):(H9 P e q).cells=q:=by
 unfold H9
 cases ha:YZ P e with
 | true=>rfl
 | false=>
  rcases h with h|h
  ·rw[h]at ha;cases ha
  ·rw[h]at hl
   match q,hl with
   | [p],_=>exact h1 ha p (by simp)
theorem a9j{n:Nat}{e:TypeId}{q:List PV}(h:XX P n e q)(ha:YZ P e=false): ∀ p∈q,p.cells=[p]:=by
 cases n with
 | zero=>exact h.elim
 | succ n=>
  unfold XX at h
  unfold YZ at ha
  split at h
  ·obtain⟨b,rfl⟩:=h;intro p hp;simp at hp;subst hp;rfl
  ·obtain⟨m,rfl,_⟩:=h;intro p hp;simp at hp;subst hp;rfl
  ·obtain⟨s,rfl,_⟩:=h;intro p hp;simp at hp;subst hp;rfl
  ·obtain⟨s,rfl,_⟩:=h;intro p hp;simp at hp;subst hp;rfl
  ·rename_i hu;rw[hu]at ha;cases ha
  ·rename_i hu;rw[hu]at ha;cases ha
  ·exact h.elim
theorem Ng{α:Type}{R:Nat->α->Prop}: ∀ (n:Nat),(∀ i,i<n-> ∃ q,R i q)-> ∃ qs:List α,qs.length=n∧ ∀ (i:Nat) q,qs[i]? = some q->R i q:=by
 intro n
 induction n with
 | zero=>intro _;exact⟨[],rfl,fun i q h=>by simp at h⟩
 | succ n ih=>
  intro h
  obtain⟨qs,h1,h2⟩:=ih fun i hi=>h i (by omega)
  obtain⟨q,hq⟩:=h n (by omega)
  refine⟨qs++[q],by simp[h1],fun i q' hi=> ?_⟩
  by_cases hlt:i<qs.length
  ·rw[List.getElem?_append_left hlt]at hi;exact h2 i q' hi
  ·rw[List.getElem?_append_right (by omega)]at hi
   have:i=n:=by
    have:=(List.getElem?_eq_some_iff.1 hi).1
    simp at this
    omega
   subst this
   rw[h1,Nat.sub_self]at hi
   cases hi
   exact hq
theorem a3h(a:Addr)(i j:Nat):(a.add i).add j=a.add (i+j):=by
 unfold Addr.add
 by_cases hi:i=0 <;> by_cases hj:j=0 <;> simp[hi,hj,Nat.add_assoc]
theorem a3d{base n:Nat}{a:Addr}{cs:List Value}(h:w.cells? base a n=some cs):cs.length=n∧ ∀ (r:Nat) v,cs[r]? = some v->w.cell? (a.add r)=some v:=by
 unfold World.cells? at h
 split at h
 ·obtain⟨h1,h2⟩:=Bj h
  refine⟨by simpa using h1,fun r v hv=> ?_⟩
  have hr:=(List.getElem?_eq_some_iff.1 hv).1
  have hr2:r<n:=by rw[h1]at hr;simpa using hr
  exact h2 r r v (by simp[hr2]) hv
 ·cases h
theorem Td{a:Addr}{v:Value}(h:w.cell? a=some v): ∃ b off cs,a=⟨b,off,none⟩∧AU w b=some cs∧cs[off]? = some v:=by
 obtain⟨b,off,spot⟩:=a
 unfold World.cell? at h
 split at h
 ·rename_i c T fz hb
  split at h
  ·cases h
  ·rename_i hs
   have:spot=none:=by cases spot with|none=>rfl|some=>simp at hs
   subst this
   exact⟨b,off,c,rfl,by simp only[AU];rw[hb],h⟩
 ·cases h
theorem F6{n:Nat}{e:TypeId}{a:Addr}{len cap:Nat}{xs:List (DataW H×List MemPlace)}(hsz:0<P.cellsOf e)(hag:YZ P e=true∨P.cellsOf e=1)(hcap:len<=cap)(hmax:cap<=maxLen)
  (ih : ∀ (cs:List Value) (x:DataW H×List MemPlace),DataW.trod enc P w base sp held n e cs=some x-> ∃ ps,Cl w cs ps∧XX P n e ps)
  (h:(List.range len).mapM (fun i=>(w.cells? base (a.add (i*P.cellsOf e)) (P.cellsOf e)).bind (DataW.trod enc P w base sp held n e))=some xs) :
  ∃ qs:List (List PV),RP (AU w) (.slice (some a) len cap) (.sl (P.cellsOf e) false (qs.map (H9 P e)))∧qs.length<=maxLen∧ ∀ q∈qs,q.length=P.cellsOf e∧XX P n e q:=by
 obtain⟨hl,hg⟩:=Bj h
 rw[List.length_range]at hl
 have key : ∀ i,i<len-> ∃ q:List PV,(q.length=P.cellsOf e∧XX P n e q)∧ ∀ (r:Nat) p,q[r]? = some p-> ∃ v,w.cell? (a.add (i*P.cellsOf e+r))=some v∧v.oneCell'=true∧RP (AU w) v p:=by
  intro i hi
  have hx:=List.getElem?_eq_getElem (show i<xs.length by omega)
  have:=hg i i _ (by simp[hi]) hx
  rw[Option.bind_eq_some_iff]at this
  obtain⟨cs,h1,h2⟩:=this
  obtain⟨q,k1,k2⟩:=ih cs _ h2
  obtain⟨c1,c2⟩:=a3d h1
  refine⟨q,⟨by rw[<- k1.1.1,c1],k2⟩,fun r p hp=> ?_⟩
  have hr:r<cs.length:=by rw[k1.1.1];exact(List.getElem?_eq_some_iff.1 hp).1
  have hv:=List.getElem?_eq_getElem hr
  refine⟨_,?_,k1.2 _ (List.getElem_mem hr),k1.1.2 r _ p hv hp⟩
  rw[<- a3h]
  exact c2 r _ hv
 obtain⟨qs,hq1,hq2⟩:=Ng len key
 have hcells : ∀ q∈qs,(H9 P e q).cells=q:=by
  intro q hq
  obtain⟨i,hi,rfl⟩:=List.getElem_of_mem hq
  have:=(hq2 i _ (List.getElem?_eq_getElem hi)).1
  exact a2x hag this.1 fun ha=>a9j this.2 ha
 refine⟨qs,?_,by omega,fun q hq=> ?_⟩
 ·by_cases h0:len=0
  ·subst h0
   have:qs=[]:=List.length_eq_zero_iff.1 hq1
   subst this
   exact .sl0 _ _ _ _ fun e=>by cases e
  ·-- the first cell tells the block
   obtain⟨b,off,cs,rfl,hb,-⟩ : ∃ b off cs,a=⟨b,off,none⟩∧AU w b=some cs∧True:=by
    have hq0:=List.getElem?_eq_getElem (show 0<qs.length by omega)
    obtain⟨⟨f1,f2⟩,f3⟩:=hq2 0 _ hq0
    have hp:=List.getElem?_eq_getElem (show 0<(qs[0]'(by omega)).length by omega)
    obtain⟨v,hv,_⟩:=f3 0 _ hp
    simp[Addr.add]at hv
    obtain⟨b,off,cs,e1,e2,_⟩:=Td hv
    exact⟨b,off,cs,e1,e2,trivial⟩
   have hs : ∀ x∈qs.map (H9 P e),x.cells.length=P.cellsOf e:=by
    intro x hx
    obtain⟨q,hq,rfl⟩:=List.mem_map.1 hx
    rw[hcells q hq]
    obtain⟨i,hi,rfl⟩:=List.getElem_of_mem hq
    exact(hq2 i _ (List.getElem?_eq_getElem hi)).1.1
   have hat : ∀ (j:Nat) p,(flat (qs.map (H9 P e)))[j]? = some p-> ∃ v,cs[off+j]? = some v∧v.oneCell'=true∧RP (AU w) v p:=by
    intro j p hp
    have hj:j<len*P.cellsOf e:=by
     have:=(List.getElem?_eq_some_iff.1 hp).1
     rw[WH hs]at this
     simpa [hq1]using this
    have hi:j / P.cellsOf e<qs.length:=by rw[hq1];exact(Nat.div_lt_iff_lt_mul hsz).2 hj
    have hr:j % P.cellsOf e<P.cellsOf e:=Nat.mod_lt _ hsz
    have hqi:=List.getElem?_eq_getElem hi
    have e0:j=j / P.cellsOf e*P.cellsOf e+j % P.cellsOf e:=by rw[Nat.mul_comm];exact(Nat.div_add_mod _ _).symm
    have hxi:(qs.map (H9 P e))[j / P.cellsOf e]? = some (H9 P e qs[j / P.cellsOf e]):=by rw[List.getElem?_map,hqi];rfl
    have hfg:=MS hs hxi hr
    rw[<- e0,hcells _ (List.getElem_mem hi)]at hfg
    rw[hfg]at hp
    obtain⟨v,hv,h1,h2⟩:=(hq2 _ _ hqi).2 _ p hp
    rw[<- e0,Y6]at hv
    obtain⟨b',off',cs',e1,e2,e3⟩:=Td hv
    cases e1
    rw[hb]at e2
    cases e2
    exact⟨v,e3,h1,h2⟩
   have hlen:len=(qs.map (H9 P e)).length:=by simp[hq1]
   rw[hlen]
   refine .sl b off cs cap _ false _ (fun j=>(cs[off+j]?).getD default) hb (by rw[<- hlen];exact hcap) (fun e=>by cases e) hs (fun j p hp=> ?_) (fun j p hp=> ?_)
   ·obtain⟨v,h1,h2,h3⟩:=hat j p hp
    rw[h1]
    exact⟨rfl,h2⟩
   ·obtain⟨v,h1,h2,h3⟩:=hat j p hp
    rw[h1]
    exact h3
 ·obtain⟨i,hi,rfl⟩:=List.getElem_of_mem hq
  exact(hq2 i _ (List.getElem?_eq_getElem hi)).1
theorem EN(hS:Pi P S=true): ∀ (n:Nat) (t:TypeId) (cs:List Value) (x:DataW H×List MemPlace),t∈S->DataW.trod enc P w base sp held n t cs=some x-> ∃ ps,Cl w cs ps∧XX P n t ps:=by
  intro n
  induction n with
  | zero=>intro t cs x _ h;simp[DataW.trod]at h
  | succ n ih=>
    intro t cs x ht h
    have hp:=Tw hS ht
    unfold DataW.trod at h
    unfold XX
    split at h <;> (try rename_i hu) <;> (try simp only[hu]at hp ⊢) <;> try (cases hp;done)
    all_goals first
      | (exact⟨_,Cl.one (.bool _) rfl,_,rfl⟩)
      | (split at h
         · rename_i hc
           obtain⟨rfl,hw⟩:=hc
           exact⟨_,Cl.one (.int _ _) rfl,_,rfl,hw⟩
         · cases h)
      | (split at h
         · rename_i hc
           exact⟨_,Cl.one (.str _) rfl,_,rfl,by simpa using hc⟩
         · cases h)
      | (cases h;done)
      | skip
    · exact⟨_,Cl.one (.sl0 _ _ _ false (fun e=>by cases e)) rfl,[],rfl,by simp,fun q hq=>by simp at hq⟩
    · rename_i e a len cap
      simp only[Bool.and_eq_true,Bool.or_eq_true,beq_iff_eq,decide_eq_true_eq]at hp
      simp only at h
      split at h
      · rename_i hc
        rw[Option.bind_eq_some_iff]at h
        obtain⟨xs,h1,_⟩:=h
        obtain⟨qs,k1,k2,k3⟩:=F6 hp.1.2 hp.2 hc.2.1 hc.2.2 (fun cs x hx=>ih e cs x (by simpa using hp.1.1.2) hx) h1
        exact⟨_,Cl.one k1 rfl,qs,rfl,k2,k3⟩
      · cases h
    · rename_i cs2 fs
      simp only[Bool.and_eq_true]at hp
      split at h
      · rename_i hc
        rw[Option.map_eq_some_iff]at h
        obtain⟨xs,h1,_⟩:=h
        obtain⟨ps,k1,k2⟩:=NF ih fs.toList 0 (P.cellsOf t) xs hp.1 (fun f hf=>by simpa using List.all_eq_true.1 hp.2 f hf) hc (Nat.zero_le _) h1
        rw[List.drop_zero]at k1
        exact⟨ps,k1,by rw[<- k1.1.1,hc],fun f hf=>by simpa using k2 [] rfl f hf⟩
      · cases h
    · rename_i cs1 _ cs2 m e
      simp only[Bool.and_eq_true,beq_iff_eq]at hp
      split at h
      · rename_i hc
        rw[Option.map_eq_some_iff]at h
        obtain⟨xs,h1,_⟩:=h
        obtain⟨hl,hg⟩:=Bj h1
        rw[List.length_range]at hl
        obtain⟨ps,k1,k2⟩:=MU (n:=n) (m:=m) (e:=e) rfl (cs:=cs1) (fun i hi=>by
          have hx:=List.getElem?_eq_getElem (show i<xs.length by omega)
          exact ih e _ _ (by simpa using hp.1) (hg i i _ (by simp[hi]) hx)) (by rw[hc,hp.2])
        exact⟨ps,k1,by rw[<- k1.1.1,hc],k2⟩
      · cases h
theorem MX(hS:Pi P S=true){t:TypeId}(ht:t∈S){r:Reach}{b0:Nat}{v:Value}{d:DataW H}{p:List MemPlace}(hval:Value.okWide P w r b0 t v)(h:DataW.Trod enc P w base sp held t v d p):
  ∃ n q,RP (AU w) v (H9 P t q)∧XX P n t q:=by
 obtain⟨n,h⟩:=h
 obtain⟨q,k1,k2⟩:=EN hS n t _ _ ht h
 refine⟨n,q,?_,k2⟩
 have hp:=Tw hS ht
 have scal:v.cells = #[v]->YZ P t=false->RP (AU w) v (H9 P t q):=by
  intro hc ha
  rw[hc]at k1
  have hl:=k1.1.1
  match q,hl with
  | [x],_=>simp only[H9,ha,List.headD_cons];exact k1.1.2 0 v x rfl rfl
 have agg : ∀ cs,v = .agg cs->YZ P t=true->RP (AU w) v (H9 P t q):=by
  rintro cs rfl ha
  simp only[H9,ha]
  exact .agg cs q (by have:=k1.1.1;simpa [Value.cells]using this) (fun x hx=>k1.2 x (by simpa [Value.cells]using hx)) fun j x y hx hy=>k1.1.2 j x y (by simpa [Value.cells]using hx) hy
 split at hp
 ·rename_i hu
  obtain⟨b,rfl⟩:=okWide_bool hu hval
  exact scal rfl (by simp[YZ,hu])
 ·rename_i hu
  obtain⟨b,rfl⟩:=okWide_int hu hval
  exact scal rfl (by simp[YZ,hu])
 ·rename_i hu
  obtain⟨b,rfl⟩:=okWide_string hu hval
  exact scal rfl (by simp[YZ,hu])
 ·rename_i hu
  obtain⟨a,l,c,rfl⟩:=okWide_slice hu hval
  exact scal rfl (by simp[YZ,hu])
 ·rename_i hu
  simp only[Value.okWide,hu]at hval
  obtain⟨cs,rfl,_⟩:=hval
  exact agg cs rfl (by simp[YZ,hu])
 ·rename_i hu
  simp only[Value.okWide,hu]at hval
  obtain⟨cs,rfl,_⟩:=hval
  exact agg cs rfl (by simp[YZ,hu])
 ·cases hp
def D8(P:Program)(t:TypeId):Option (List (Nat×TypeId)):=match P.underlying t with
 | some (.struct fs)=>some (fs.toList.map fun f=>(f.offset,f.type))
 | _=>none
def c0g(P:Program)(n:Nat)(q:List PV):List (Nat×TypeId)->Prop
 | []=>True
 | (o,t)::r=>XX P n t ((q.drop o).take (P.cellsOf t))∧c0g P n q r
theorem Ke{n c:Nat}{t:TypeId}{q:List PV}{l:List (Nat×TypeId)}(hs:D8 P t=some l)(hc:P.cellsOf t=c)(h:XX P n t q): ∃ m,n=m+1∧q.length=c∧c0g P m q l:=by
 cases n with
 | zero=>exact h.elim
 | succ m=>
  unfold D8 at hs
  split at hs
  ·rename_i fs hu
   cases hs
   simp only[XX,hu]at h
   refine⟨m,rfl,by rw[h.1,hc],?_⟩
   have key : ∀ l:List Field,(∀ f∈l,XX P m f.type ((q.drop f.offset).take (P.cellsOf f.type)))->c0g P m q (l.map fun f=>(f.offset,f.type)):=by
    intro l
    induction l with
    | nil=>intro _;trivial
    | cons f l ih=>intro h;exact⟨h f List.mem_cons_self,ih fun g hg=>h g (List.mem_cons_of_mem _ hg)⟩
   exact key _ h.2
  ·cases hs
theorem Af{n:Nat}{t:TypeId}{k:IntKind}{q:List PV}(hu:P.underlying t=some (.int k))(h:XX P n t q): ∃ m,q=[.int k m]∧(Lit.int k m).wf=true:=by
 cases n with
 | zero=>exact h.elim
 | succ m=>simpa only[XX,hu]using h
theorem a9g{n:Nat}{t:TypeId}{q:List PV}(hu:P.underlying t=some .string)(h:XX P n t q): ∃ s:List UInt8,q=[.str s]∧s.length<=maxLen:=by
 cases n with
 | zero=>exact h.elim
 | succ m=>simpa only[XX,hu]using h
theorem BC{n c:Nat}{t e:TypeId}{q:List PV}(hu:P.underlying t=some (.slice e))(hc:P.cellsOf e=c)(h:XX P n t q): ∃ m,n=m+1∧ ∃ qs:List (List PV),q=[.sl c false (qs.map (H9 P e))]∧qs.length<=maxLen∧ ∀ x∈qs,x.length=c∧XX P m e x:=by
 cases n with
 | zero=>exact h.elim
 | succ m=>
  subst hc
  simp only[XX,hu]at h
  exact⟨m,rfl,h⟩
theorem b3p{Φ:ZZ}:Wh Φ (#[]:Array Value).toList []:=⟨rfl,fun j v p h=>by simp at h⟩
theorem c2e{Φ:ZZ}{v:Value}{vs:List Value}{p:PV}{ps:List PV}(h:RP Φ v p)(k:Wh Φ vs ps):Wh Φ (v::vs) (p::ps):=
 ⟨by simp[k.1],fun j u q hu hq=>match j with
  | 0=>by cases hu;cases hq;exact h
  | j+1=>k.2 j u q (by simpa using hu) (by simpa using hq)⟩
theorem a3c{f:Nat}{pre:List PV->Bool}{val:List PV->PV}(h:XN P f pre val){ps:List PV}(hp:pre ps=true)(hv:val ps = .bool true){vs:Array Value}(hL:GlobOK (AU w))(hr:Wh (AU w) vs.toList ps):
  Calls P f vs w fun e w'=>e = .returned (.bool true)∧Below w.heap.size w w':=by
 refine(h ps hp (AU w) w vs hL (b8h w) hr).mono ?_
 rintro e w' ⟨v,Φ',rfl,_,_,h1,h2,_⟩
 rw[hv]at h1
 cases h1
 exact⟨rfl,h2⟩
end
end Go.Pl

namespace Go.Proofs.YtgllkpfiokkdhaaGreatDoor
open Go.Pl Go.RowKit Go.ChangeShapes
set_option maxRecDepth 100000
theorem Ej{P:Program}{W:World}{n:String}{g:Nat}{cs:Array Value}(hg:P.globalNamed n=some g)(h:W.var? P n=some cs):AU W g=some cs:=by
 unfold World.var? at h
 rw[hg]at h
 simp only[Option.bind_some]at h
 unfold AU
 exact h
theorem b7r:Tryz.prog.globalNamed "internal/strconv.uint64pow10" = some 1:=by kernel_rfl
theorem c2k:Tryz.prog.globalNamed "strconv.ErrRange" = some 3:=by kernel_rfl
theorem c1s:Tryz.prog.globalNamed "strconv.ErrSyntax" = some 2:=by kernel_rfl
theorem a0d:Tryz.prog.underlying 150=some (.interface ((match Tryz.prog.underlying 150 with|some (.interface ms)=>ms|_=>#[]))):=by kernel_rfl
theorem b9k{W:World}{r:List (String×DataW Unit)}(h:laidMet Tryz.prog (("internal/strconv.uint64pow10",Rows.laid_internal_strconv_uint64pow10)::r) W):AU W 1=some Bz:=by
 have h1:Lib.TabIs Tryz.prog W "internal/strconv.uint64pow10" .u64 ((List.range 20).map fun i=>((10 ^ i:Nat):Int)):=Lib.tabIs_of_head (e:=101) (t:=202) b7r (by kernel_rfl) (n:=20) (by kernel_rfl) (by kernel_rfl) (by kernel_rfl) (by kernel_rfl) h
 exact(Ej b7r h1).trans rfl
theorem a7p{W:World}{n:String}{g:Nat}{text:List UInt8}{r:List (String×DataW Unit)}(hg:Tryz.prog.globalNamed n=some g)(ht:(Tryz.prog.globals[g]?).map (·.type)=some 150)(h:laidMet Tryz.prog ((n,.iface "*errors.errorString" (.ptr (.agg [.lit (.string text)])))::r) W): ∃ cs,AU W g=some cs∧AP cs:=by
 obtain⟨ps,⟨g0,t0,cs0,f0,p0,q0,hg0,ht0,hv0,hd0,_,e0⟩,_,hrows⟩:=h
 obtain rfl:=Option.some.inj (hg.symm.trans hg0)
 obtain rfl:=Option.some.inj (ht.symm.trans ht0)
 subst e0
 refine⟨cs0,Ej hg hv0,?_⟩
 obtain⟨f1,u,v,e,_⟩:=iface_of_trod a0d hd0
 obtain⟨l0⟩:=cs0
 have e:l0=[.iface u v]:=e
 subst e
 exact⟨_,rfl,.inr ⟨u,v,rfl⟩⟩
noncomputable def b8v:DataW Unit->Value
 | .lit (.int k n)=>.int k n
 | _=>.int .i64 0
noncomputable def TE:DataW Unit->Array Value
 | .agg ds=>(ds.map b8v).toArray
 | _=>#[]
noncomputable def a9t:DataW Unit->ByteArray
 | .iface _ (.ptr (.agg [.lit (.string bs)]))=>⟨bs.toArray⟩
 | _=>⟨#[]⟩
noncomputable def low:Nat:=(World.holding Tryz.prog default ⟨#[],#[],[]⟩).heap.size
noncomputable def FB(cs:Array Value):Obj->Obj
 | .cells _ t frozen=>.cells cs t frozen
 | o=>o
end Go.Proofs.YtgllkpfiokkdhaaGreatDoor

namespace Go.Proofs.YtgllkpfiokkdhaaGreatDoor
open Go.Pl Go.RowKit Go.ChangeShapes
set_option maxRecDepth 100000
theorem a3z{W:World}{x y z:String×DataW Unit}{r:List (String×DataW Unit)}(h:laidMet Tryz.prog (x::y::("internal/strconv.uint64pow10",Rows.laid_internal_strconv_uint64pow10)::z::("strconv.ErrRange",Rows.laid_strconv_ErrRange)::("strconv.ErrSyntax",Rows.laid_strconv_ErrSyntax)::r) W):GlobOK (AU W):=
 ⟨a7p c1s (by kernel_rfl) h.tail.tail.tail.tail.tail,a7p c2k (by kernel_rfl) h.tail.tail.tail.tail,b9k h.tail.tail⟩
noncomputable def b3q:DataW Unit->Array Value
 | .agg ds=>(ds.flatMap fun d=>match d with | .agg es=>es.map b8v|d=>[b8v d]).toArray
 | _=>#[]
noncomputable def AO(os:Os):World:=
 let w0:=World.holding Tryz.prog os ⟨#[.cells #[.string (a9t Rows.laid_strconv_ErrRange)] 219,.cells #[.string (a9t Rows.laid_strconv_ErrSyntax)] 219],#[],[]⟩
 {w0 with heap:=((((((w0.heap.modify 3 (FB #[.iface 217 (.pointer (some ⟨low,0,none⟩))])).modify 2 (FB #[.iface 217 (.pointer (some ⟨low+1,0,none⟩))])).modify 1 (FB (TE Rows.laid_internal_strconv_uint64pow10))).modify 6 (FB (TE Rows.laid_math_bits_deBruijn32tab))).modify 7 (FB (TE Rows.laid_math_bits_deBruijn64tab))).modify 5 (FB (b3q Rows.laid_unicode_utf8_acceptRanges))).modify 4 (FB (TE Rows.laid_unicode_utf8_first))}
end Go.Proofs.YtgllkpfiokkdhaaGreatDoor

namespace Go.Proofs.YtgllkpfiokkdhaaGreatDoor
open Go.Shelf
def Tryz.lays172_ren:Go.Shelf.Ren:=⟨fun|172=>118|244=>148|245=>149|247=>164|279=>165|280=>166|281=>167|282=>168|287=>177|316=>178|171=>76|205=>179|321=>186|322=>187|243=>116|246=>146|283=>160|284=>161|285=>162|286=>163|129=>137|317=>173|318=>174|319=>175|320=>176|337=>184|338=>185|n=>n,fun|9=>9|3=>3|75=>150|76=>151|4=>4|5=>5|167=>192|37=>29|0=>0|85=>193|2=>2|168=>195|53=>101|175=>204|46=>132|210=>208|127=>216|145=>219|143=>217|21=>21|171=>188|173=>190|212=>202|51=>168|20=>20|213=>203|232=>220|233=>221|80=>222|n=>n,fun|15=>2|16=>3|17=>1|18=>6|19=>7|n=>n⟩
theorem Tryz.lays172:Go.Proofs.LaysC.n172 Tryz.prog Tryz.lays172_ren:={
 mixed:=by kernel_rfl
 f129:=Tryz.func137.trans (congrArg some (by kernel_rfl))
 f171:=Tryz.func76.trans (congrArg some (by kernel_rfl))
 f172:=Tryz.func118.trans (congrArg some (by kernel_rfl))
 f205:=Tryz.func179.trans (congrArg some (by kernel_rfl))
 f243:=Tryz.func116.trans (congrArg some (by kernel_rfl))
 f244:=Tryz.func148.trans (congrArg some (by kernel_rfl))
 f245:=Tryz.func149.trans (congrArg some (by kernel_rfl))
 f246:=Tryz.func146.trans (congrArg some (by kernel_rfl))
 f247:=Tryz.func164.trans (congrArg some (by kernel_rfl))
 f279:=Tryz.func165.trans (congrArg some (by kernel_rfl))
 f280:=Tryz.func166.trans (congrArg some (by kernel_rfl))
 f281:=Tryz.func167.trans (congrArg some (by kernel_rfl))
 f282:=Tryz.func168.trans (congrArg some (by kernel_rfl))
 f283:=Tryz.func160.trans (congrArg some (by kernel_rfl))
 f284:=Tryz.func161.trans (congrArg some (by kernel_rfl))
 f285:=Tryz.func162.trans (congrArg some (by kernel_rfl))
 f286:=Tryz.func163.trans (congrArg some (by kernel_rfl))
 f287:=Tryz.func177.trans (congrArg some (by kernel_rfl))
 f316:=Tryz.func178.trans (congrArg some (by kernel_rfl))
 f317:=Tryz.func173.trans (congrArg some (by kernel_rfl))
 f318:=Tryz.func174.trans (congrArg some (by kernel_rfl))
 f319:=Tryz.func175.trans (congrArg some (by kernel_rfl))
 f320:=Tryz.func176.trans (congrArg some (by kernel_rfl))
 f321:=Tryz.func186.trans (congrArg some (by kernel_rfl))
 f322:=Tryz.func187.trans (congrArg some (by kernel_rfl))
 f337:=Tryz.func184.trans (congrArg some (by kernel_rfl))
 f338:=Tryz.func185.trans (congrArg some (by kernel_rfl))
 t0:=Tryz.underlying0
 a0:=Tryz.isAgg0
 z0:=Tryz.sizeOf0
 v0:=Tryz.zeroValue0
 t2:=Tryz.underlying2
 a2:=Tryz.isAgg2
 z2:=Tryz.sizeOf2
 v2:=Tryz.zeroValue2
 t3:=Tryz.underlying3
 a3:=Tryz.isAgg3
 z3:=Tryz.sizeOf3
 v3:=Tryz.zeroValue3
 t4:=Tryz.underlying4
 a4:=Tryz.isAgg4
 z4:=Tryz.sizeOf4
 v4:=Tryz.zeroValue4
 t5:=Tryz.underlying5
 a5:=Tryz.isAgg5
 z5:=Tryz.sizeOf5
 v5:=Tryz.zeroValue5
 t9:=Tryz.underlying9
 a9:=Tryz.isAgg9
 z9:=Tryz.sizeOf9
 v9:=Tryz.zeroValue9
 t20:=Tryz.underlying20
 a20:=Tryz.isAgg20
 z20:=Tryz.sizeOf20
 v20:=Tryz.zeroValue20
 t21:=Tryz.underlying21
 a21:=Tryz.isAgg21
 z21:=Tryz.sizeOf21
 v21:=Tryz.zeroValue21
 t37:=Tryz.underlying29
 a37:=Tryz.isAgg29
 z37:=Tryz.sizeOf29
 v37:=Tryz.zeroValue29
 t46:=Tryz.underlying132
 a46:=Tryz.isAgg132
 z46:=Tryz.sizeOf132
 v46:=Tryz.zeroValue132
 t51:=Tryz.underlying168
 a51:=Tryz.isAgg168
 z51:=Tryz.sizeOf168
 v51:=Tryz.zeroValue168
 t53:=Tryz.underlying101
 a53:=Tryz.isAgg101
 z53:=Tryz.sizeOf101
 v53:=Tryz.zeroValue101
 t75:=Tryz.underlying150
 a75:=Tryz.isAgg150
 z75:=Tryz.sizeOf150
 v75:=Tryz.zeroValue150
 t76:=Tryz.underlying151
 a76:=Tryz.isAgg151
 z76:=Tryz.sizeOf151
 v76:=Tryz.zeroValue151
 t85:=Tryz.underlying193
 a85:=Tryz.isAgg193
 z85:=Tryz.sizeOf193
 v85:=Tryz.zeroValue193
 t127:=Tryz.underlying216
 a127:=Tryz.isAgg216
 z127:=Tryz.sizeOf216
 v127:=Tryz.zeroValue216
 t143:=Tryz.underlying217
 a143:=Tryz.isAgg217
 z143:=Tryz.sizeOf217
 v143:=Tryz.zeroValue217
 t145:=Tryz.underlying219
 a145:=Tryz.isAgg219
 z145:=Tryz.sizeOf219
 v145:=Tryz.zeroValue219
 t167:=Tryz.underlying192
 a167:=Tryz.isAgg192
 z167:=Tryz.sizeOf192
 v167:=Tryz.zeroValue192
 t168:=Tryz.underlying195
 a168:=Tryz.isAgg195
 z168:=Tryz.sizeOf195
 v168:=Tryz.zeroValue195
 t171:=Tryz.underlying188
 a171:=Tryz.isAgg188
 z171:=Tryz.sizeOf188
 v171:=Tryz.zeroValue188
 t173:=Tryz.underlying190
 a173:=Tryz.isAgg190
 z173:=Tryz.sizeOf190
 v173:=Tryz.zeroValue190
 t175:=Tryz.underlying204
 a175:=Tryz.isAgg204
 z175:=Tryz.sizeOf204
 v175:=Tryz.zeroValue204
 t210:=Tryz.underlying208
 a210:=Tryz.isAgg208
 z210:=Tryz.sizeOf208
 v210:=Tryz.zeroValue208
 t212:=Tryz.underlying202
 a212:=Tryz.isAgg202
 z212:=Tryz.sizeOf202
 v212:=Tryz.zeroValue202
 t213:=Tryz.underlying203
 a213:=Tryz.isAgg203
 z213:=Tryz.sizeOf203
 t232:=Tryz.underlying220
 a232:=Tryz.isAgg220
 z232:=Tryz.sizeOf220
 v232:=Tryz.zeroValue220
 t233:=Tryz.underlying221
 a233:=Tryz.isAgg221
 z233:=Tryz.sizeOf221
 v233:=Tryz.zeroValue221
 g15:=by kernel_rfl
 g16:=by kernel_rfl
 g17:=by kernel_rfl
 g18:=by kernel_rfl
 g19:=by kernel_rfl
 t80:=Tryz.underlying222
 a80:=Tryz.isAgg222
 z80:=Tryz.sizeOf222
 v80:=Tryz.zeroValue222
 i0:=by kernel_rfl
 i2:=by kernel_rfl
 i3:=by kernel_rfl
 i4:=by kernel_rfl
 i5:=by kernel_rfl
 i9:=by kernel_rfl
 i20:=by kernel_rfl
 i21:=by kernel_rfl
 i37:=by kernel_rfl
 i46:=by kernel_rfl
 i51:=by kernel_rfl
 i53:=by kernel_rfl
 i75:=by kernel_rfl
 i76:=by kernel_rfl
 i80:=by kernel_rfl
 i85:=by kernel_rfl
 i127:=by kernel_rfl
 i143:=by kernel_rfl
 i145:=by kernel_rfl
 i167:=by kernel_rfl
 i168:=by kernel_rfl
 i171:=by kernel_rfl
 i173:=by kernel_rfl
 i175:=by kernel_rfl
 i210:=by kernel_rfl
 i212:=by kernel_rfl
 i232:=by kernel_rfl
 i233:=by kernel_rfl
 m15:=by kernel_rfl
 m16:=by kernel_rfl
 m17:=by kernel_rfl
 m18:=by kernel_rfl
 m19:=by kernel_rfl
 c0:=by kernel_rfl
 c2:=by kernel_rfl
 c3:=by kernel_rfl
 c4:=by kernel_rfl
 c5:=by kernel_rfl
 c9:=by kernel_rfl
 c20:=by kernel_rfl
 c21:=by kernel_rfl
 c37:=by kernel_rfl
 c46:=by kernel_rfl
 c51:=by kernel_rfl
 c53:=by kernel_rfl
 c75:=by kernel_rfl
 c76:=by kernel_rfl
 c80:=by kernel_rfl
 c85:=by kernel_rfl
 c127:=by kernel_rfl
 c143:=by kernel_rfl
 c145:=by kernel_rfl
 c167:=by kernel_rfl
 c168:=by kernel_rfl
 c171:=by kernel_rfl
 c173:=by kernel_rfl
 c175:=by kernel_rfl
 c210:=by kernel_rfl
 c212:=by kernel_rfl
 c213:=by kernel_rfl
 c232:=by kernel_rfl
 c233:=by kernel_rfl}
def Tryz.lays171_ren:Go.Shelf.Ren:=⟨fun|171=>76|243=>116|246=>146|283=>160|284=>161|285=>162|286=>163|129=>137|317=>173|318=>174|319=>175|320=>176|337=>184|338=>185|n=>n,fun|3=>3|9=>9|2=>2|4=>4|171=>188|0=>0|53=>101|37=>29|5=>5|173=>190|212=>202|51=>168|20=>20|213=>203|46=>132|232=>220|233=>221|n=>n,fun|17=>1|18=>6|19=>7|n=>n⟩
theorem Tryz.lays171:Go.Proofs.LaysM.n171 Tryz.prog Tryz.lays171_ren:={
 mixed:=by kernel_rfl
 f129:=Tryz.func137.trans (congrArg some (by kernel_rfl))
 f171:=Tryz.func76.trans (congrArg some (by kernel_rfl))
 f243:=Tryz.func116.trans (congrArg some (by kernel_rfl))
 f246:=Tryz.func146.trans (congrArg some (by kernel_rfl))
 f283:=Tryz.func160.trans (congrArg some (by kernel_rfl))
 f284:=Tryz.func161.trans (congrArg some (by kernel_rfl))
 f285:=Tryz.func162.trans (congrArg some (by kernel_rfl))
 f286:=Tryz.func163.trans (congrArg some (by kernel_rfl))
 f317:=Tryz.func173.trans (congrArg some (by kernel_rfl))
 f318:=Tryz.func174.trans (congrArg some (by kernel_rfl))
 f319:=Tryz.func175.trans (congrArg some (by kernel_rfl))
 f320:=Tryz.func176.trans (congrArg some (by kernel_rfl))
 f337:=Tryz.func184.trans (congrArg some (by kernel_rfl))
 f338:=Tryz.func185.trans (congrArg some (by kernel_rfl))
 t0:=Tryz.underlying0
 a0:=Tryz.isAgg0
 z0:=Tryz.sizeOf0
 v0:=Tryz.zeroValue0
 t2:=Tryz.underlying2
 a2:=Tryz.isAgg2
 z2:=Tryz.sizeOf2
 v2:=Tryz.zeroValue2
 t3:=Tryz.underlying3
 a3:=Tryz.isAgg3
 z3:=Tryz.sizeOf3
 v3:=Tryz.zeroValue3
 t4:=Tryz.underlying4
 a4:=Tryz.isAgg4
 z4:=Tryz.sizeOf4
 v4:=Tryz.zeroValue4
 t5:=Tryz.underlying5
 a5:=Tryz.isAgg5
 z5:=Tryz.sizeOf5
 v5:=Tryz.zeroValue5
 t9:=Tryz.underlying9
 a9:=Tryz.isAgg9
 z9:=Tryz.sizeOf9
 v9:=Tryz.zeroValue9
 t20:=Tryz.underlying20
 a20:=Tryz.isAgg20
 z20:=Tryz.sizeOf20
 v20:=Tryz.zeroValue20
 t37:=Tryz.underlying29
 a37:=Tryz.isAgg29
 z37:=Tryz.sizeOf29
 v37:=Tryz.zeroValue29
 t46:=Tryz.underlying132
 a46:=Tryz.isAgg132
 z46:=Tryz.sizeOf132
 v46:=Tryz.zeroValue132
 t51:=Tryz.underlying168
 a51:=Tryz.isAgg168
 z51:=Tryz.sizeOf168
 v51:=Tryz.zeroValue168
 t53:=Tryz.underlying101
 a53:=Tryz.isAgg101
 z53:=Tryz.sizeOf101
 v53:=Tryz.zeroValue101
 t171:=Tryz.underlying188
 a171:=Tryz.isAgg188
 z171:=Tryz.sizeOf188
 v171:=Tryz.zeroValue188
 t173:=Tryz.underlying190
 a173:=Tryz.isAgg190
 z173:=Tryz.sizeOf190
 v173:=Tryz.zeroValue190
 t212:=Tryz.underlying202
 a212:=Tryz.isAgg202
 z212:=Tryz.sizeOf202
 v212:=Tryz.zeroValue202
 t213:=Tryz.underlying203
 a213:=Tryz.isAgg203
 z213:=Tryz.sizeOf203
 t232:=Tryz.underlying220
 a232:=Tryz.isAgg220
 z232:=Tryz.sizeOf220
 v232:=Tryz.zeroValue220
 t233:=Tryz.underlying221
 a233:=Tryz.isAgg221
 z233:=Tryz.sizeOf221
 v233:=Tryz.zeroValue221
 g17:=by kernel_rfl
 g18:=by kernel_rfl
 g19:=by kernel_rfl
 i0:=by kernel_rfl
 i2:=by kernel_rfl
 i3:=by kernel_rfl
 i4:=by kernel_rfl
 i5:=by kernel_rfl
 i9:=by kernel_rfl
 i20:=by kernel_rfl
 i37:=by kernel_rfl
 i46:=by kernel_rfl
 i51:=by kernel_rfl
 i53:=by kernel_rfl
 i171:=by kernel_rfl
 i173:=by kernel_rfl
 i212:=by kernel_rfl
 i232:=by kernel_rfl
 i233:=by kernel_rfl
 m17:=by kernel_rfl
 m18:=by kernel_rfl
 m19:=by kernel_rfl}
def Tryz.lays99_ren:Go.Shelf.Ren:=⟨fun|99=>114|206=>145|n=>n,fun|9=>9|4=>4|3=>3|n=>n,fun|n=>n⟩
theorem Tryz.lays99:Go.Proofs.Lays.n99 Tryz.prog Tryz.lays99_ren:={
 mixed:=by kernel_rfl
 f99:=Tryz.func114.trans (congrArg some (by kernel_rfl))
 f206:=Tryz.func145.trans (congrArg some (by kernel_rfl))
 t3:=Tryz.underlying3
 a3:=Tryz.isAgg3
 z3:=Tryz.sizeOf3
 v3:=Tryz.zeroValue3
 t4:=Tryz.underlying4
 a4:=Tryz.isAgg4
 z4:=Tryz.sizeOf4
 v4:=Tryz.zeroValue4
 t9:=Tryz.underlying9
 a9:=Tryz.isAgg9
 z9:=Tryz.sizeOf9
 v9:=Tryz.zeroValue9}
def Tryz.lays190_ren:Go.Shelf.Ren:=⟨fun|190=>56|125=>97|258=>96|128=>136|129=>137|302=>127|303=>128|304=>129|305=>130|306=>131|307=>132|308=>133|309=>134|310=>135|333=>151|329=>152|330=>153|334=>154|335=>155|336=>156|344=>170|n=>n,fun|31=>91|9=>9|3=>3|46=>132|0=>0|51=>168|53=>101|4=>4|183=>162|182=>161|131=>110|5=>5|218=>180|222=>67|228=>198|229=>128|n=>n,fun|n=>n⟩
theorem Tryz.lays190:Go.Proofs.Lays.n190 Tryz.prog Tryz.lays190_ren:={
 mixed:=by kernel_rfl
 f125:=Tryz.func97.trans (congrArg some (by kernel_rfl))
 f128:=Tryz.func136.trans (congrArg some (by kernel_rfl))
 f129:=Tryz.func137.trans (congrArg some (by kernel_rfl))
 f190:=Tryz.func56.trans (congrArg some (by kernel_rfl))
 f258:=Tryz.func96.trans (congrArg some (by kernel_rfl))
 f302:=Tryz.func127.trans (congrArg some (by kernel_rfl))
 f303:=Tryz.func128.trans (congrArg some (by kernel_rfl))
 f304:=Tryz.func129.trans (congrArg some (by kernel_rfl))
 f305:=Tryz.func130.trans (congrArg some (by kernel_rfl))
 f306:=Tryz.func131.trans (congrArg some (by kernel_rfl))
 f307:=Tryz.func132.trans (congrArg some (by kernel_rfl))
 f308:=Tryz.func133.trans (congrArg some (by kernel_rfl))
 f309:=Tryz.func134.trans (congrArg some (by kernel_rfl))
 f310:=Tryz.func135.trans (congrArg some (by kernel_rfl))
 f329:=Tryz.func152.trans (congrArg some (by kernel_rfl))
 f330:=Tryz.func153.trans (congrArg some (by kernel_rfl))
 f333:=Tryz.func151.trans (congrArg some (by kernel_rfl))
 f334:=Tryz.func154.trans (congrArg some (by kernel_rfl))
 f335:=Tryz.func155.trans (congrArg some (by kernel_rfl))
 f336:=Tryz.func156.trans (congrArg some (by kernel_rfl))
 f344:=Tryz.func170.trans (congrArg some (by kernel_rfl))
 t0:=Tryz.underlying0
 a0:=Tryz.isAgg0
 z0:=Tryz.sizeOf0
 v0:=Tryz.zeroValue0
 t3:=Tryz.underlying3
 a3:=Tryz.isAgg3
 z3:=Tryz.sizeOf3
 v3:=Tryz.zeroValue3
 t4:=Tryz.underlying4
 a4:=Tryz.isAgg4
 z4:=Tryz.sizeOf4
 v4:=Tryz.zeroValue4
 t5:=Tryz.underlying5
 a5:=Tryz.isAgg5
 z5:=Tryz.sizeOf5
 v5:=Tryz.zeroValue5
 t9:=Tryz.underlying9
 a9:=Tryz.isAgg9
 z9:=Tryz.sizeOf9
 v9:=Tryz.zeroValue9
 t31:=Tryz.underlying91
 a31:=Tryz.isAgg91
 z31:=Tryz.sizeOf91
 v31:=Tryz.zeroValue91
 t46:=Tryz.underlying132
 a46:=Tryz.isAgg132
 z46:=Tryz.sizeOf132
 v46:=Tryz.zeroValue132
 t51:=Tryz.underlying168
 a51:=Tryz.isAgg168
 z51:=Tryz.sizeOf168
 v51:=Tryz.zeroValue168
 t53:=Tryz.underlying101
 a53:=Tryz.isAgg101
 z53:=Tryz.sizeOf101
 v53:=Tryz.zeroValue101
 t131:=Tryz.underlying110
 a131:=Tryz.isAgg110
 z131:=Tryz.sizeOf110
 v131:=Tryz.zeroValue110
 t182:=Tryz.underlying161
 a182:=Tryz.isAgg161
 z182:=Tryz.sizeOf161
 v182:=Tryz.zeroValue161
 t183:=Tryz.underlying162
 a183:=Tryz.isAgg162
 z183:=Tryz.sizeOf162
 v183:=Tryz.zeroValue162
 t218:=Tryz.underlying180
 a218:=Tryz.isAgg180
 z218:=Tryz.sizeOf180
 v218:=Tryz.zeroValue180
 t222:=Tryz.underlying67
 a222:=Tryz.isAgg67
 z222:=Tryz.sizeOf67
 v222:=Tryz.zeroValue67
 t228:=Tryz.underlying198
 a228:=Tryz.isAgg198
 z228:=Tryz.sizeOf198
 v228:=Tryz.zeroValue198
 t229:=Tryz.underlying128
 a229:=Tryz.isAgg128
 z229:=Tryz.sizeOf128
 v229:=Tryz.zeroValue128}
end Go.Proofs.YtgllkpfiokkdhaaGreatDoor

namespace Go.Proofs.YtgllkpfiokkdhaaGreatDoor
open Go.Pl Go.RowKit
open Enc (enc dec is)
open EncL (encL decL isL)
set_option maxRecDepth 100000
theorem UH:ZC Tryz.prog 114 (fun _:Str×Str×Unit=>true) (fun x:Str×Str×Unit=>x.2.1.s.isPrefixOf x.1.s):=XF (by
  rintro⟨⟨s⟩,⟨p⟩,⟨⟩⟩ hps Φ w vs hL hΦ hv
  obtain⟨u,v,rfl,h1,h2⟩:=b5r hv
  rw[Qs h1,Qs h2]
  refine(Any.strings_HasPrefix Tryz.lays99 ⟨s.toArray⟩ ⟨p.toArray⟩ w).mono ?_
  rintro e w' ⟨rfl,rfl⟩
  exact⟨_,rfl,.bool _,.refl _ _⟩)
theorem Ns:ZC Tryz.prog 118 (fun x:Str×Unit=>decide (x.1.s.length<=1000000)) (fun x:Str×Unit=>Z6 x.1):=XF (by
  rintro⟨⟨s⟩,⟨⟩⟩ hps Φ w vs hL hΦ hv
  have hs:s.length<=1000000:=by simpa using hps
  obtain⟨v,rfl,h1⟩:=c2i hv
  rw[Qs h1]
  have hsz:(⟨s.toArray⟩:ByteArray).size=s.length:=rfl
  cases h:Lib.atoiAll s
  ·rename_i n
   have e1:Z6 ⟨s⟩=(n,⟨false⟩):=by simp only[Z6,h]
   rw[e1]
   refine(Any.strconv_Atoi_ok Tryz.lays172 ⟨s.toArray⟩ (by rw[hsz];omega) n h w).mono ?_
   rintro e w' ⟨rfl,hw⟩
   refine⟨_,rfl,.tup _ _ rfl ?_,?_⟩
   ·intro j v x hv hx
    match j with
    | 0=>cases hv;cases hx;exact .int _ _
    | 1=>cases hv;cases hx;exact .nili
    | j+2=>simp at hv
   ·rcases hw with rfl|⟨t,rfl⟩
    ·exact .refl _ _
    ·exact NZ _ _ 0 _
  ·skip
   have e1:Z6 ⟨s⟩=(0,⟨true⟩):=by simp only[Z6,h]
   rw[e1]
   obtain⟨cs,hc,ev,he,hev⟩:=hL.syn
   refine(Any.strconv_Atoi_syntax Tryz.lays172 ⟨s.toArray⟩ (by rw[hsz];omega) h ev w (Sw hΦ hc he) hev).mono ?_
   rintro e w' ⟨N,rfl,_,_,hb⟩
   refine⟨_,rfl,.tup _ _ rfl ?_,hb⟩
   intro j v x hv hx
   match j with
   | 0=>cases hv;cases hx;exact .int _ _
   | 1=>cases hv;cases hx;exact .ifc _ _
   | j+2=>simp at hv
  ·skip
   have e1:Z6 ⟨s⟩=(Lib.atoiSat s,⟨true⟩):=by simp only[Z6,h]
   rw[e1]
   obtain⟨cs,hc,ev,he,hev⟩:=hL.rng
   refine(Any.strconv_Atoi_range Tryz.lays172 ⟨s.toArray⟩ (by rw[hsz];omega) h ev w (Sw hΦ hc he) hev).mono ?_
   rintro e w' ⟨N,rfl,_,_,hb⟩
   refine⟨_,rfl,.tup _ _ rfl ?_,hb⟩
   intro j v x hv hx
   match j with
   | 0=>cases hv;cases hx;exact .int _ _
   | 1=>cases hv;cases hx;exact .ifc _ _
   | j+2=>simp at hv)
theorem PY:ZC Tryz.prog 76 (fun x:Int×Unit=>decide (-9223372036854775808<=x.1)&&decide (x.1<=9223372036854775807)) (fun x:Int×Unit=>Xr x.1):=XF (by
  rintro⟨n,⟨⟩⟩ hps Φ w vs hL hΦ hv
  obtain⟨v,rfl,h1⟩:=c2i hv
  have h1:RP Φ v (.int .i64 n):=h1
  rw[c1b h1]
  have hn : -9223372036854775808<=n∧n<=9223372036854775807:=by simpa using hps
  have hg:=hL.pow
  obtain⟨T,fz,hh⟩:=hΦ _ _ hg
  refine(Any.strconv_Itoa Tryz.lays171 n hn.1 hn.2 w ?_).mono ?_
  ·unfold Lib.TabIs World.var?
   rw[show Program.globalNamed Tryz.prog "internal/strconv.uint64pow10" = some 1 by kernel_rfl]
   simp only[Option.bind_some,hh]
   rfl
  ·rintro e w' ⟨rfl,k,os,rfl⟩
   refine⟨_,rfl,.str _,?_⟩
   exact⟨rfl,rfl,rfl,by show w.heap.size<=(w.heap++os).size;simp,fun j hj=>by show(w.heap++os)[j]? = _;rw[Array.getElem?_append_left hj]⟩)
end Go.Proofs.YtgllkpfiokkdhaaGreatDoor

namespace Go.Proofs.YtgllkpfiokkdhaaGreatDoor
open Go.Pl
open Enc (enc dec is)
open EncL (encL decL isL)
set_option maxRecDepth 100000
theorem ZT:Tryz.prog.follows .mixedOrders=true:=by kernel_rfl
theorem PW:Zu Tryz.prog 56 Y8 WB:=a1i (Any.slices_Sort_string Tryz.lays190) (Any.slices_Sort_string_none Tryz.lays190)
theorem TZ:ZC Tryz.prog 88 (fun _:UInt8×Unit=>true) (fun x:UInt8×Unit=>digB x.1):=ZC.of (T:=FW) (ic:=D9) (rs:=Ro) Zp ZT Tryz.func88 (by kernel_rfl) (by kernel_rfl) (by kernel_rfl) a6d
theorem Sl:ZC Tryz.prog 89 (fun _:UInt8×Unit=>true) (fun x:UInt8×Unit=>Wm x.1):=ZC.of (T:=LX) (ic:=Rm) (rs:=Rq) Zp ZT Tryz.func89 (by kernel_rfl) (by kernel_rfl) (by kernel_rfl) b1m
theorem Pn:ZC Tryz.prog 47 (fun _:Int×Unit=>true) (fun x:Int×Unit=>Z8 x.1):=ZC.of (T:=CU) (ic:=KE) (rs:=Gs) Zp ZT Tryz.func47 (by kernel_rfl) (by kernel_rfl) (by kernel_rfl) FX
theorem NI:ZC Tryz.prog 48 (fun _:Str×Unit=>true) (fun x:Str×Unit=>Yc x.1):=ZC.of (T:=Wp) (ic:=Xy) (rs:=Xp) (Zc (Yn Tryz.func88 (by kernel_rfl) TZ) (Zc (Yn Tryz.func89 (by kernel_rfl) Sl) Zp)) ZT Tryz.func48 (by kernel_rfl) (by kernel_rfl) (by kernel_rfl) a1k
theorem JF:ZC Tryz.prog 18 (fun x:Lin×Unit=>ZL x.1) (fun x:Lin×Unit=>Zm x.1):=ZC.of (T:=WZ) (ic:=X4) (rs:=X3) (Zc (Yn Tryz.func47 (by kernel_rfl) Pn) (Zc (Yn Tryz.func48 (by kernel_rfl) NI) Zp)) ZT Tryz.func18 (by kernel_rfl) (by kernel_rfl) (by kernel_rfl) Fp
theorem M3:ZC Tryz.prog 14 (fun x:Lin×Int×Unit=>ZL x.1) (fun x:Lin×Int×Unit=>C8 x.1 x.2.1):=ZC.of (T:=Jo) (ic:=Qg) (rs:=QB) Zp ZT Tryz.func14 (by kernel_rfl) (by kernel_rfl) (by kernel_rfl) b0n
theorem a1c:ZC Tryz.prog 79 (fun _:Int×Unit=>true) (fun x:Int×Unit=>Z8 x.1):=ZC.of (T:=a4y) (ic:=Fb) (rs:=FE) Zp ZT Tryz.func79 (by kernel_rfl) (by kernel_rfl) (by kernel_rfl) b3x
theorem Dh:ZC Tryz.prog 78 (fun x:Str×Unit=>decide (x.1.s.length<=1000000)) (fun x:Str×Unit=>Yc x.1):=ZC.of (T:=Wo) (ic:=Xq) (rs:=Xu) (Zc (Yn Tryz.func114 (by kernel_rfl) UH) (Zc (Yn Tryz.func118 (by kernel_rfl) Ns) (Zc (Yn Tryz.func76 (by kernel_rfl) PY) Zp))) ZT Tryz.func78 (by kernel_rfl) (by kernel_rfl) (by kernel_rfl) a1r
theorem Xg:ZC Tryz.prog 41 (fun x:Lin×Unit=>ZJ x.1) (fun x:Lin×Unit=>Zm x.1):=ZC.of (T:=WT) (ic:=XZ) (rs:=XW) (Zc (Yn Tryz.func79 (by kernel_rfl) a1c) (Zc (Yn Tryz.func78 (by kernel_rfl) Dh) Zp)) ZT Tryz.func41 (by kernel_rfl) (by kernel_rfl) (by kernel_rfl) FV
theorem Bu:Yf Tryz.prog Xa:=(Zc (Yn Tryz.func56 (by kernel_rfl) PW) (Zc (Yn Tryz.func41 (by kernel_rfl) Xg) Zp))
theorem Ty{cd:Code}(h:Dn Tryz.prog EC Tryz.f70 0=some cd):JB Tryz.prog cd=some NL:=by
 have:(Dn Tryz.prog EC Tryz.f70 0).bind (JB Tryz.prog)=some NL:=by kernel_rfl
 rw[h]at this
 exact this
theorem b6k(args:List AV)(os:List AObj)(h:Y1 args os=true)(c:Ctx)(hk : ∀ i m,os.length<=i->c.μ0 i m=none):a9o (Qx Bu ZT) (fun n cd=>Dn Tryz.prog EC Tryz.f70 n=some cd) Pb c:=by
 rintro n cd hcd st a w q hr ⟨rfl,hE⟩
 have h2:os.length=2:=by
  unfold Y1 at h
  split at h
  ·rfl
  ·cases h
 rw[h2]at hk
 exact OM Bu ZT (Ty hcd) hk hr hE
theorem b6u:Zu Tryz.prog 70 Y1 U4:=b7v (T:=Xa) (ic:=YV) (rs:=Y0) (E:=Pb) (sel:=EC) Bu ZT Tryz.func70 (by kernel_rfl) (by kernel_rfl) (by kernel_rfl) b6k a9a a7b
theorem a7k:Zu Tryz.prog 70 Y1 JO:=b2x b6u
theorem a7c:Zu Tryz.prog 74 Vs H6:=Yv (T:=QZ) (ic:=Us) (rs:=Uu) Zp ZT Tryz.func74 (by kernel_rfl) (by kernel_rfl) (by kernel_rfl) b3c
theorem PT:ZC Tryz.prog 71 (fun x:Lin×Lin×Int×Unit=>ZJ x.1&&ZJ x.2.1) (fun x:Lin×Lin×Int×Unit=>YP x.1 x.2.1 x.2.2.1):=ZC.of (T:=GZ) (ic:=K7) (rs:=Jb) (Zc (Yn Tryz.func41 (by kernel_rfl) Xg) (Zc (Yn Tryz.func74 (by kernel_rfl) a7c) (Zc (Yn Tryz.func70 (by kernel_rfl) a7k) Zp))) ZT Tryz.func71 (by kernel_rfl) (by kernel_rfl) (by kernel_rfl) PZ
theorem a0r:ZC Tryz.prog 38 (fun x:Lin×Lin×Unit=>ZJ x.1&&ZJ x.2.1) (fun x:Lin×Lin×Unit=>YP x.1 x.2.1 1):=ZC.of (T:=RU) (ic:=Be) (rs:=Bi) (Zc (Yn Tryz.func71 (by kernel_rfl) PT) Zp) ZT Tryz.func38 (by kernel_rfl) (by kernel_rfl) (by kernel_rfl) a2r
end Go.Proofs.YtgllkpfiokkdhaaGreatDoor

namespace Go.Proofs.YtgllkpfiokkdhaaGreatDoor
open Go.Pl
open Enc (enc dec is)
open EncL (encL decL isL)
set_option maxRecDepth 100000
end Go.Proofs.YtgllkpfiokkdhaaGreatDoor

namespace Go.Proofs.YtgllkpfiokkdhaaGreatDoor
open Go.Pl
open Enc (enc dec is)
open EncL (encL decL isL)
set_option maxRecDepth 100000
theorem Bc:ZC Tryz.prog 49 (fun x:Lin×Lin×Unit=>ZL x.1) (fun x:Lin×Lin×Unit=>Qe x.1 x.2.1):=ZC.of (T:=Q8) (ic:=UA) (rs:=UB) Zp ZT Tryz.func49 (by kernel_rfl) (by kernel_rfl) (by kernel_rfl) a9m
theorem RQ:ZC Tryz.prog 19 (fun x:Lin×Lin×Unit=>ZL x.1) (fun x:Lin×Lin×Unit=>Qe x.1 x.2.1==0):=ZC.of (T:=a9c) (ic:=Lv) (rs:=LA) (Zc (Yn Tryz.func49 (by kernel_rfl) Bc) Zp) ZT Tryz.func19 (by kernel_rfl) (by kernel_rfl) (by kernel_rfl) b5s
end Go.Proofs.YtgllkpfiokkdhaaGreatDoor

namespace Go.Proofs.YtgllkpfiokkdhaaGreatDoor
open Go.Shelf
def Tryz.lays102_ren:Go.Shelf.Ren:=⟨fun|102=>77|209=>117|207=>147|n=>n,fun|9=>9|4=>4|3=>3|n=>n,fun|n=>n⟩
theorem Tryz.lays102:Go.Proofs.Lays.n102 Tryz.prog Tryz.lays102_ren:={
 mixed:=by kernel_rfl
 f102:=Tryz.func77.trans (congrArg some (by kernel_rfl))
 f207:=Tryz.func147.trans (congrArg some (by kernel_rfl))
 f209:=Tryz.func117.trans (congrArg some (by kernel_rfl))
 t3:=Tryz.underlying3
 a3:=Tryz.isAgg3
 z3:=Tryz.sizeOf3
 v3:=Tryz.zeroValue3
 t4:=Tryz.underlying4
 a4:=Tryz.isAgg4
 z4:=Tryz.sizeOf4
 v4:=Tryz.zeroValue4
 t9:=Tryz.underlying9
 a9:=Tryz.isAgg9
 z9:=Tryz.sizeOf9
 v9:=Tryz.zeroValue9}
def Tryz.lays161_ren:Go.Shelf.Ren:=⟨fun|161=>113|231=>141|227=>142|233=>143|235=>144|228=>157|197=>158|151=>159|260=>171|152=>172|137=>180|119=>181|224=>182|225=>183|217=>188|266=>189|n=>n,fun|9=>9|4=>4|3=>3|5=>5|117=>174|116=>173|0=>0|124=>177|105=>185|21=>21|119=>210|46=>132|139=>213|138=>212|n=>n,fun|3=>4|4=>5|n=>n⟩
theorem Tryz.lays161:Go.Proofs.Lays.n161 Tryz.prog Tryz.lays161_ren:={
 mixed:=by kernel_rfl
 f119:=Tryz.func181.trans (congrArg some (by kernel_rfl))
 f137:=Tryz.func180.trans (congrArg some (by kernel_rfl))
 f151:=Tryz.func159.trans (congrArg some (by kernel_rfl))
 f152:=Tryz.func172.trans (congrArg some (by kernel_rfl))
 f161:=Tryz.func113.trans (congrArg some (by kernel_rfl))
 f197:=Tryz.func158.trans (congrArg some (by kernel_rfl))
 f217:=Tryz.func188.trans (congrArg some (by kernel_rfl))
 f224:=Tryz.func182.trans (congrArg some (by kernel_rfl))
 f225:=Tryz.func183.trans (congrArg some (by kernel_rfl))
 f227:=Tryz.func142.trans (congrArg some (by kernel_rfl))
 f228:=Tryz.func157.trans (congrArg some (by kernel_rfl))
 f231:=Tryz.func141.trans (congrArg some (by kernel_rfl))
 f233:=Tryz.func143.trans (congrArg some (by kernel_rfl))
 f235:=Tryz.func144.trans (congrArg some (by kernel_rfl))
 f260:=Tryz.func171.trans (congrArg some (by kernel_rfl))
 f266:=Tryz.func189.trans (congrArg some (by kernel_rfl))
 t0:=Tryz.underlying0
 a0:=Tryz.isAgg0
 z0:=Tryz.sizeOf0
 v0:=Tryz.zeroValue0
 t3:=Tryz.underlying3
 a3:=Tryz.isAgg3
 z3:=Tryz.sizeOf3
 v3:=Tryz.zeroValue3
 t4:=Tryz.underlying4
 a4:=Tryz.isAgg4
 z4:=Tryz.sizeOf4
 v4:=Tryz.zeroValue4
 t5:=Tryz.underlying5
 a5:=Tryz.isAgg5
 z5:=Tryz.sizeOf5
 v5:=Tryz.zeroValue5
 t9:=Tryz.underlying9
 a9:=Tryz.isAgg9
 z9:=Tryz.sizeOf9
 v9:=Tryz.zeroValue9
 t21:=Tryz.underlying21
 a21:=Tryz.isAgg21
 z21:=Tryz.sizeOf21
 v21:=Tryz.zeroValue21
 t46:=Tryz.underlying132
 a46:=Tryz.isAgg132
 z46:=Tryz.sizeOf132
 v46:=Tryz.zeroValue132
 t105:=Tryz.underlying185
 a105:=Tryz.isAgg185
 z105:=Tryz.sizeOf185
 v105:=Tryz.zeroValue185
 t116:=Tryz.underlying173
 a116:=Tryz.isAgg173
 z116:=Tryz.sizeOf173
 t117:=Tryz.underlying174
 a117:=Tryz.isAgg174
 z117:=Tryz.sizeOf174
 v117:=Tryz.zeroValue174
 t119:=Tryz.underlying210
 a119:=Tryz.isAgg210
 z119:=Tryz.sizeOf210
 t124:=Tryz.underlying177
 a124:=Tryz.isAgg177
 z124:=Tryz.sizeOf177
 v124:=Tryz.zeroValue177
 t138:=Tryz.underlying212
 a138:=Tryz.isAgg212
 z138:=Tryz.sizeOf212
 v138:=Tryz.zeroValue212
 t139:=Tryz.underlying213
 a139:=Tryz.isAgg213
 z139:=Tryz.sizeOf213
 v139:=Tryz.zeroValue213
 g3:=by kernel_rfl
 g4:=by kernel_rfl}
def Tryz.lays106_ren:Go.Shelf.Ren:=⟨fun|106=>121|213=>150|265=>169|n=>n,fun|9=>9|3=>3|n=>n,fun|n=>n⟩
theorem Tryz.lays106:Go.Proofs.Lays.n106 Tryz.prog Tryz.lays106_ren:={
 mixed:=by kernel_rfl
 f106:=Tryz.func121.trans (congrArg some (by kernel_rfl))
 f213:=Tryz.func150.trans (congrArg some (by kernel_rfl))
 f265:=Tryz.func169.trans (congrArg some (by kernel_rfl))
 t3:=Tryz.underlying3
 a3:=Tryz.isAgg3
 z3:=Tryz.sizeOf3
 v3:=Tryz.zeroValue3
 t9:=Tryz.underlying9
 a9:=Tryz.isAgg9
 z9:=Tryz.sizeOf9
 v9:=Tryz.zeroValue9}
end Go.Proofs.YtgllkpfiokkdhaaGreatDoor

namespace Go.Proofs.YtgllkpfiokkdhaaGreatDoor
open Go.Pl Go.RowKit
open Enc (enc dec is)
open EncL (encL decL isL)
set_option maxRecDepth 100000
theorem Ma(s:List UInt8):Lib.trimLeftB s 32=Zh s:=rfl
theorem Jw:ZC Tryz.prog 113 (fun x:Str×Str×Unit=>decide (x.2.1=⟨[32]⟩)) (fun x:Str×Str×Unit=>(⟨Zh x.1.s⟩:Str)):=XF (by
  rintro⟨⟨s⟩,⟨p⟩,⟨⟩⟩ hps Φ w vs hL hΦ hv
  obtain⟨u,v,rfl,h1,h2⟩:=b5r hv
  have hp:p=[32]:=by
   have:(⟨p⟩:Str)=⟨[32]⟩:=of_decide_eq_true hps
   cases this;rfl
  subst hp
  rw[Qs h1,Qs h2]
  refine(Any.strings_TrimLeft_one Tryz.lays161 ⟨s.toArray⟩ 32 (by decide) w).mono ?_
  rintro e w' ⟨rfl,rfl⟩
  rw[show(⟨s.toArray⟩:ByteArray).data.toList=s from rfl,Ma]
  exact⟨_,rfl,.str _,.refl _ _⟩)
theorem Ay:ZC Tryz.prog 77 (fun x:Str×Str×Unit=>decide (x.1.s.length<=1000000)) (fun x:Str×Str×Unit=>(⟨Lib.trimSuffix x.1.s x.2.1.s⟩:Str)):=XF (by
  rintro⟨⟨s⟩,⟨p⟩,⟨⟩⟩ hps Φ w vs hL hΦ hv
  have hs:s.length<=1000000:=by simpa using hps
  obtain⟨u,v,rfl,h1,h2⟩:=b5r hv
  rw[Qs h1,Qs h2]
  have hsz:(⟨s.toArray⟩:ByteArray).size=s.length:=rfl
  refine(Any.strings_TrimSuffix Tryz.lays102 ⟨s.toArray⟩ ⟨p.toArray⟩ w (by rw[hsz];omega)).mono ?_
  rintro e w' ⟨rfl,rfl⟩
  exact⟨_,rfl,.str _,.refl _ _⟩)
theorem MG:ZC Tryz.prog 121 (fun _:Str×Str×Unit=>true) (fun x:Str×Str×Unit=>Lib.compareBytes x.1.s x.2.1.s):=XF (by
  rintro⟨⟨s⟩,⟨p⟩,⟨⟩⟩ hps Φ w vs hL hΦ hv
  obtain⟨u,v,rfl,h1,h2⟩:=b5r hv
  rw[Qs h1,Qs h2]
  refine(Any.strings_Compare Tryz.lays106 ⟨s.toArray⟩ ⟨p.toArray⟩ w).mono ?_
  rintro e w' ⟨rfl,rfl⟩
  exact⟨_,rfl,.int _ _,.refl _ _⟩)
end Go.Proofs.YtgllkpfiokkdhaaGreatDoor

namespace Go.Proofs.YtgllkpfiokkdhaaGreatDoor
open Go.Pl
open Enc (enc dec is)
open EncL (encL decL isL)
set_option maxRecDepth 100000
theorem Qv:ZC Tryz.prog 110 (fun _:UInt8×Unit=>true) (fun x:UInt8×Unit=>digB x.1):=ZC.of (T:=Fz) (ic:=T9) (rs:=R9) Zp ZT Tryz.func110 (by kernel_rfl) (by kernel_rfl) (by kernel_rfl) a9n
theorem KT:ZC Tryz.prog 115 (fun _:UInt8×Unit=>true) (fun x:UInt8×Unit=>ZW x.1):=ZC.of (T:=CB) (ic:=GK) (rs:=Gr) (Zc (Yn Tryz.func110 (by kernel_rfl) Qv) Zp) ZT Tryz.func115 (by kernel_rfl) (by kernel_rfl) (by kernel_rfl) LW
theorem Ti:Zu Tryz.prog 68 ZU Qy:=Yv (T:=Ae) (ic:=GX) (rs:=GA) (Zc (Yn Tryz.func113 (by kernel_rfl) Jw) Zp) ZT Tryz.func68 (by kernel_rfl) (by kernel_rfl) (by kernel_rfl) Ll
theorem b1s:Zu Tryz.prog 140 (XB 110) (Tp digB):=Yv (T:=QF) (ic:=VB) (rs:=V6) (Zc (Yn Tryz.func110 (by kernel_rfl) Qv) Zp) ZT Tryz.func140 (by kernel_rfl) (by kernel_rfl) (by kernel_rfl) a2p
theorem a9q:Zu Tryz.prog 140 (XB 115) (Tp ZW):=Yv (T:=Qi) (ic:=Ug) (rs:=V9) (Zc (Yn Tryz.func115 (by kernel_rfl) KT) Zp) ZT Tryz.func140 (by kernel_rfl) (by kernel_rfl) (by kernel_rfl) Ev
theorem a2u:Zu Tryz.prog 112 ZU Qu:=Yv (T:=CP) (ic:=G8) (rs:=Gx) (Zc (Yn Tryz.func140 (by kernel_rfl) b1s) (Zc (Yn Tryz.func118 (by kernel_rfl) Ns) Zp)) ZT Tryz.func112 (by kernel_rfl) (by kernel_rfl) (by kernel_rfl) Lc
theorem Nv:Zu Tryz.prog 111 ZU Qw:=Yv (T:=K6) (ic:=QP) (rs:=QT) (Zc (Yn Tryz.func140 (by kernel_rfl) a9q) (Zc (Yn Tryz.func78 (by kernel_rfl) Dh) Zp)) ZT Tryz.func111 (by kernel_rfl) (by kernel_rfl) (by kernel_rfl) Pv
theorem b5z:Zu Tryz.prog 69 ZU JV:=Yv (T:=QK) (ic:=VT) (rs:=VL) (Zc (Yn Tryz.func114 (by kernel_rfl) UH) Zp) ZT Tryz.func69 (by kernel_rfl) (by kernel_rfl) (by kernel_rfl) a5o
theorem b6n:Zu Tryz.prog 67 Ki Ho:=Yv (T:=BN) (ic:=DZ) (rs:=Hl) (Zc (Yn Tryz.func110 (by kernel_rfl) Qv) (Zc (Yn Tryz.func111 (by kernel_rfl) Nv) (Zc (Yn Tryz.func112 (by kernel_rfl) a2u) (Zc (Yn Tryz.func113 (by kernel_rfl) Jw) (Zc (Yn Tryz.func114 (by kernel_rfl) UH) (Zc (Yn Tryz.func68 (by kernel_rfl) Ti) (Zc (Yn Tryz.func115 (by kernel_rfl) KT) Zp))))))) ZT Tryz.func67 (by kernel_rfl) (by kernel_rfl) (by kernel_rfl) a6o
theorem BQ:Yf Tryz.prog Xb:=(Zc (Yn Tryz.func56 (by kernel_rfl) PW) (Zc (Yn Tryz.func41 (by kernel_rfl) Xg) Zp))
theorem a4q(args:List AV)(os:List AObj)(h:Xd args os=true)(c:Ctx)(hk : ∀ i m,os.length<=i->c.μ0 i m=none):a9o (Qx BQ ZT) (fun n cd=>Dn Tryz.prog EC Tryz.f70 n=some cd) JN c:=by
 rintro n cd hcd st a w q hr ⟨rfl,hE⟩
 have h2:os.length=2:=by
  unfold Xd at h
  split at h
  ·rfl
  ·cases h
 rw[h2]at hk
 exact OM BQ ZT (Ty hcd) hk hr hE
theorem b5v:Zu Tryz.prog 70 Xd U0:=b7v (T:=Xb) (ic:=Y4) (rs:=Y5) (E:=JN) (sel:=EC) BQ ZT Tryz.func70 (by kernel_rfl) (by kernel_rfl) (by kernel_rfl) a4q a9x a6h
theorem b6t:Zu Tryz.prog 70 Xd JE:=a9h b5v
theorem Np:ZC Tryz.prog 37 (fun x:Str×Unit=>decide (x.1.s.length<=400000)) (fun x:Str×Unit=>XH x.1.s):=ZC.of (T:=Qm) (ic:=VX) (rs:=Uc) (Zc (Yn Tryz.func68 (by kernel_rfl) Ti) (Zc (Yn Tryz.func69 (by kernel_rfl) b5z) (Zc (Yn Tryz.func67 (by kernel_rfl) b6n) (Zc (Yn Tryz.func70 (by kernel_rfl) b6t) Zp)))) ZT Tryz.func37 (by kernel_rfl) (by kernel_rfl) (by kernel_rfl) Et
theorem SF:ZC Tryz.prog 122 (fun _:Int×Int×Unit=>true) (fun x:Int×Int×Unit=>QY x.1 x.2.1):=ZC.of (T:=Jz) (ic:=GD) (rs:=Kl) Zp ZT Tryz.func122 (by kernel_rfl) (by kernel_rfl) (by kernel_rfl) Fx
theorem a4i:ZC Tryz.prog 120 (fun _:Coef×Coef×Unit=>true) (fun x:Coef×Coef×Unit=>Sc x.1 x.2.1):=ZC.of (T:=Cm) (ic:=AB) (rs:=JG) (Zc (Yn Tryz.func121 (by kernel_rfl) MG) (Zc (Yn Tryz.func122 (by kernel_rfl) SF) Zp)) ZT Tryz.func120 (by kernel_rfl) (by kernel_rfl) (by kernel_rfl) EL
theorem a6i:ZC Tryz.prog 119 (fun x:List Coef×List Coef×FnV 120×Unit=>decide (x.1.length<=9223372036854775807)&&decide (x.2.1.length<=9223372036854775807)) (fun x:List Coef×List Coef×FnV 120×Unit=>VC x.1 x.2.1):=ZC.of (T:=QH) (ic:=Ud) (rs:=Ua) (Zc (Yn Tryz.func120 (by kernel_rfl) a4i) Zp) ZT Tryz.func119 (by kernel_rfl) (by kernel_rfl) (by kernel_rfl) a2j
theorem Si:ZC Tryz.prog 80 (fun x:Lin×Lin×Unit=>ZL x.1&&ZL x.2.1) (fun x:Lin×Lin×Unit=>V8 x.1 x.2.1):=ZC.of (T:=Rc) (ic:=Ry) (rs:=Cg) (Zc (Yn Tryz.func119 (by kernel_rfl) a6i) (Zc (Yn Tryz.func122 (by kernel_rfl) SF) Zp)) ZT Tryz.func80 (by kernel_rfl) (by kernel_rfl) (by kernel_rfl) a3w
theorem Mc:ZC Tryz.prog 42 (fun x:Lin×Lin×Unit=>ZL x.1&&ZL x.2.1) (fun x:Lin×Lin×Unit=>V8 x.1 x.2.1==0):=ZC.of (T:=a8a) (ic:=F4) (rs:=Fg) (Zc (Yn Tryz.func80 (by kernel_rfl) Si) Zp) ZT Tryz.func42 (by kernel_rfl) (by kernel_rfl) (by kernel_rfl) b5y
theorem b2r:Zu Tryz.prog 75 XR Hd:=Yv (T:=Fe) (ic:=TJ) (rs:=Ra) (Zc (Yn Tryz.func76 (by kernel_rfl) PY) (Zc (Yn Tryz.func77 (by kernel_rfl) Ay) Zp)) ZT Tryz.func75 (by kernel_rfl) (by kernel_rfl) (by kernel_rfl) a3l
theorem P5:ZC Tryz.prog 40 (fun x:Lin×Unit=>ZJ x.1) (fun x:Lin×Unit=>(⟨Wt x.1⟩:Str)):=ZC.of (T:=VD) (ic:=Vi) (rs:=WE) (Zc (Yn Tryz.func41 (by kernel_rfl) Xg) (Zc (Yn Tryz.func75 (by kernel_rfl) b2r) Zp)) ZT Tryz.func40 (by kernel_rfl) (by kernel_rfl) (by kernel_rfl) F5
theorem c1n:Zu Tryz.prog 73 Cq TF:=Yv (T:=FC) (ic:=RA) (rs:=TM) Zp ZT Tryz.func73 (by kernel_rfl) (by kernel_rfl) (by kernel_rfl) a8p
theorem b8d:Zu Tryz.prog 72 (Kz 73) DU:=Yv (T:=Ai) (ic:=Je) (rs:=Jm) (Zc (Yn Tryz.func73 (by kernel_rfl) c1n) Zp) ZT Tryz.func72 (by kernel_rfl) (by kernel_rfl) (by kernel_rfl) b4d
theorem NS:ZC Tryz.prog 39 (fun x:Lin×List Bnd×Unit=>ZJ x.1&&Gz x.2.1) (fun x:Lin×List Bnd×Unit=>Qj x.1 x.2.1):=ZC.of (T:=VU) (ic:=VA) (rs:=WU) (Zc (Yn Tryz.func41 (by kernel_rfl) Xg) (Zc (Yn Tryz.func72 (by kernel_rfl) b8d) (Zc (Yn Tryz.func74 (by kernel_rfl) a7c) (Zc (Yn Tryz.func70 (by kernel_rfl) a7k) Zp)))) ZT Tryz.func39 (by kernel_rfl) (by kernel_rfl) (by kernel_rfl) E5
theorem FQ:ZC Tryz.prog 13 (fun _:Unit=>true) (fun _:Unit=>true):=ZC.of (T:=CK) (ic:=GI) (rs:=Gn) (Zc (Yn Tryz.func37 (by kernel_rfl) Np) (Zc (Yn Tryz.func38 (by kernel_rfl) a0r) (Zc (Yn Tryz.func39 (by kernel_rfl) NS) (Zc (Yn Tryz.func40 (by kernel_rfl) P5) (Zc (Yn Tryz.func41 (by kernel_rfl) Xg) (Zc (Yn Tryz.func42 (by kernel_rfl) Mc) Zp)))))) ZT Tryz.func13 (by kernel_rfl) (by kernel_rfl) (by kernel_rfl) FI
end Go.Proofs.YtgllkpfiokkdhaaGreatDoor

namespace Go.Proofs.YtgllkpfiokkdhaaGreatDoor
open Go.Pl
open Enc (enc dec is)
open EncL (encL decL isL)
set_option maxRecDepth 100000
theorem Dx:ZC Tryz.prog 104 (fun _:UInt8×Unit=>true) (fun x:UInt8×Unit=>x.1):=ZC.of (T:=Rn) (ic:=CS) (rs:=Ao) Zp ZT Tryz.func104 (by kernel_rfl) (by kernel_rfl) (by kernel_rfl) Es
theorem KS:ZC Tryz.prog 105 (fun _:UInt8×Unit=>true) (fun x:UInt8×Unit=>(255 - x.1:UInt8)):=ZC.of (T:=RH) (ic:=Ct) (rs:=Bp) Zp ZT Tryz.func105 (by kernel_rfl) (by kernel_rfl) (by kernel_rfl) a3g
theorem Pj:ZC Tryz.prog 102 (fun x:U64×Unit=>decide (0<=x.1.n)&&decide (x.1.n<18446744073709551616)) (fun x:U64×Unit=>(ZI x.1.n.toNat:Int)):=ZC.of (T:=Jf) (ic:=Qp) (rs:=Ql) Zp ZT Tryz.func102 (by kernel_rfl) (by kernel_rfl) (by kernel_rfl) a4f
theorem b9d:Zu Tryz.prog 103 (Qz 5 104 105) (Rl 105):=Yv (T:=Uk) (ic:=WP) (rs:=Vb) (Zc (Yn Tryz.func104 (by kernel_rfl) Dx) (Zc (Yn Tryz.func105 (by kernel_rfl) KS) Zp)) ZT Tryz.func103 (by kernel_rfl) (by kernel_rfl) (by kernel_rfl) a9d
theorem a5e:Zu Tryz.prog 61 (UE 5) Ha:=Yv (T:=FL) (ic:=RJ) (rs:=Px) (Zc (Yn Tryz.func102 (by kernel_rfl) Pj) (Zc (Yn Tryz.func103 (by kernel_rfl) b9d) Zp)) ZT Tryz.func61 (by kernel_rfl) (by kernel_rfl) (by kernel_rfl) a3o
theorem b1l:Zu Tryz.prog 62 UC (D5 5):=Yv (T:=Lr) (ic:=RF) (rs:=Pw) Zp ZT Tryz.func62 (by kernel_rfl) (by kernel_rfl) (by kernel_rfl) a5m
theorem b9p:Zu Tryz.prog 81 (JD 5) Pk:=Yv (T:=LG) (ic:=Pf) (rs:=Rb) (Zc (Yn Tryz.func61 (by kernel_rfl) a5e) Zp) ZT Tryz.func81 (by kernel_rfl) (by kernel_rfl) (by kernel_rfl) a6x
theorem NQ:ZC Tryz.prog 43 (fun x:List UInt8×Str×Unit=>decide (x.1.length<=1000000)&&decide (x.2.1.s.length<=1000000)) (fun x:List UInt8×Str×Unit=>x.1++Go.Pl.encS x.2.1.s):=ZC.of (T:=PE) (ic:=BZ) (rs:=CV) (Zc (Yn Tryz.func62 (by kernel_rfl) b1l) (Zc (Yn Tryz.func81 (by kernel_rfl) b9p) Zp)) ZT Tryz.func43 (by kernel_rfl) (by kernel_rfl) (by kernel_rfl) a0g
theorem a6r:Zu Tryz.prog 30 XQ (XL 5):=Yv (T:=M5) (ic:=R7) (rs:=RS) (Zc (Yn Tryz.func62 (by kernel_rfl) b1l) (Zc (Yn Tryz.func61 (by kernel_rfl) a5e) Zp)) ZT Tryz.func30 (by kernel_rfl) (by kernel_rfl) (by kernel_rfl) a0e
theorem a3t:Zu Tryz.prog 30 (WK 5) (Q6 5):=a4s a6r
theorem b0l:Zu Tryz.prog 15 JQ (QX 5):=Yv (T:=Qc) (ic:=V4) (rs:=VZ) (Zc (Yn Tryz.func30 (by kernel_rfl) a3t) (Zc (Yn Tryz.func43 (by kernel_rfl) NQ) Zp)) ZT Tryz.func15 (by kernel_rfl) (by kernel_rfl) (by kernel_rfl) a1w
theorem a7o:Zu Tryz.prog 15 WV (Jy 5):=a8y b0l
theorem Pd:ZC Tryz.prog 64 (fun x:Int×Unit=>true) (fun x:Int×Unit=>XI x.1):=ZC.of (T:=Xx) (ic:=XD) (rs:=YK) Zp ZT Tryz.func64 (by kernel_rfl) (by kernel_rfl) (by kernel_rfl) LC
theorem OV:Zu Tryz.prog 33 XQ (XL 5):=Yv (T:=Qd) (ic:=VR) (rs:=VQ) (Zc (Yn Tryz.func64 (by kernel_rfl) Pd) Zp) ZT Tryz.func33 (by kernel_rfl) (by kernel_rfl) (by kernel_rfl) a8s
theorem Cz:ZC Tryz.prog 33 (fun x:List UInt8×Int×Unit=>decide (x.1.length<=1000000)) (fun x:List UInt8×Int×Unit=>x.1++Go.Pl.encI x.2.1):=EP OV
theorem NP:ZC Tryz.prog 44 (fun x:List UInt8×Str×Unit=>decide (x.1.length<=1000000)&&decide (x.2.1.s.length<=1000000)) (fun x:List UInt8×Str×Unit=>x.1++Go.Pl.encS x.2.1.s):=ZC.of (T:=Bn) (ic:=Gp) (rs:=Gv) (Zc (Yn Tryz.func33 (by kernel_rfl) OV) Zp) ZT Tryz.func44 (by kernel_rfl) (by kernel_rfl) (by kernel_rfl) Lf
theorem NV:ZC Tryz.prog 8 (fun x:List UInt8×List UInt8×Unit=>true) (fun x:List UInt8×List UInt8×Unit=>decide (x.1=x.2.1)):=ZC.of (T:=TR) (ic:=Bb) (rs:=Ah) Zp ZT Tryz.func8 (by kernel_rfl) (by kernel_rfl) (by kernel_rfl) a3f
theorem A9:ZC Tryz.prog 16 (fun x:List UInt8×Lin×Unit=>decide ((x.1++Zd x.2.1).length<=1000000)) (fun x:List UInt8×Lin×Unit=>x.1++Zd x.2.1):=ZC.of (T:=UF) (ic:=Vw) (rs:=VE) (Zc (Yn Tryz.func33 (by kernel_rfl) Cz) (Zc (Yn Tryz.func44 (by kernel_rfl) NP) Zp)) ZT Tryz.func16 (by kernel_rfl) (by kernel_rfl) (by kernel_rfl) a0f
theorem Po:ZC Tryz.prog 123 (fun x:List UInt8×Unit=>decide (x.1.length<=9000000)) (fun x:List UInt8×Unit=>w3 (ZX x.1)):=ZC.ofS (T:=YE) (ic:=Yl) (rs:=Yh) (Zc (Yn Tryz.func104 (by kernel_rfl) Dx) (Zc (Yn Tryz.func105 (by kernel_rfl) KS) Zp)) ZT Tryz.func123 (by kernel_rfl) (by kernel_rfl) (by kernel_rfl) a1q
theorem Nh:Zu Tryz.prog 124 Wl Q7:=Yv (T:=TG) (ic:=Bg) (rs:=Co) Zp ZT Tryz.func124 (by kernel_rfl) (by kernel_rfl) (by kernel_rfl) EQ
theorem Eh:Zu Tryz.prog 84 XJ Vv:=Yv (T:=LZ) (ic:=Pp) (rs:=Rx) (Zc (Yn Tryz.func123 (by kernel_rfl) Po) (Zc (Yn Tryz.func124 (by kernel_rfl) Nh) Zp)) ZT Tryz.func84 (by kernel_rfl) (by kernel_rfl) (by kernel_rfl) a6t
theorem a3x:Zu Tryz.prog 83 Ka Uo:=Yv (T:=TQ) (ic:=Au) (rs:=AL) (Zc (Yn Tryz.func84 (by kernel_rfl) Eh) Zp) ZT Tryz.func83 (by kernel_rfl) (by kernel_rfl) (by kernel_rfl) a0l
theorem a3p:Zu Tryz.prog 82 (QU 83) Uo:=Yv (T:=TC) (ic:=Bq) (rs:=Bt) (Zc (Yn Tryz.func83 (by kernel_rfl) a3x) Zp) ZT Tryz.func82 (by kernel_rfl) (by kernel_rfl) (by kernel_rfl) a2c
theorem a3y:Zu Tryz.prog 45 Yj Uh:=Yv (T:=R4) (ic:=BL) (rs:=Ba) (Zc (Yn Tryz.func82 (by kernel_rfl) a3p) Zp) ZT Tryz.func45 (by kernel_rfl) (by kernel_rfl) (by kernel_rfl) a1o
theorem a9b:Zu Tryz.prog 87 Yi JY:=Yv (T:=TH) (ic:=Ab) (rs:=BD) (Zc (Yn Tryz.func84 (by kernel_rfl) Eh) (Zc (Yn Tryz.func124 (by kernel_rfl) Nh) Zp)) ZT Tryz.func87 (by kernel_rfl) (by kernel_rfl) (by kernel_rfl) a0x
theorem a3q:Zu Tryz.prog 86 Q4 Cy:=Yv (T:=TL) (ic:=CO) (rs:=Br) (Zc (Yn Tryz.func87 (by kernel_rfl) a9b) Zp) ZT Tryz.func86 (by kernel_rfl) (by kernel_rfl) (by kernel_rfl) EU
theorem b1b:Zu Tryz.prog 85 (Q5 86) Ju:=Yv (T:=RY) (ic:=BX) (rs:=Bd) (Zc (Yn Tryz.func86 (by kernel_rfl) a3q) Zp) ZT Tryz.func85 (by kernel_rfl) (by kernel_rfl) (by kernel_rfl) ED
theorem a1j:Zu Tryz.prog 46 Yi Vm:=Yv (T:=BV) (ic:=GJ) (rs:=G5) (Zc (Yn Tryz.func85 (by kernel_rfl) b1b) Zp) ZT Tryz.func46 (by kernel_rfl) (by kernel_rfl) (by kernel_rfl) LF
theorem BA:ZC Tryz.prog 125 (fun x:List UInt8×Unit=>decide (x.1.length<=9000000)) (fun x:List UInt8×Unit=>w3 (ZX x.1)):=ZC.of (T:=Y9) (ic:=Yx) (rs:=Yw) (Zc (Yn Tryz.func33 (by kernel_rfl) Cz) Zp) ZT Tryz.func125 (by kernel_rfl) (by kernel_rfl) (by kernel_rfl) Fu
theorem Ew:Zu Tryz.prog 91 Qb KI:=Yv (T:=BK) (ic:=Gc) (rs:=GQ) Zp ZT Tryz.func91 (by kernel_rfl) (by kernel_rfl) (by kernel_rfl) M9
theorem Oh:Zu Tryz.prog 90 XJ Vv:=Yv (T:=FR) (ic:=Rv) (rs:=Rk) (Zc (Yn Tryz.func125 (by kernel_rfl) BA) Zp) ZT Tryz.func90 (by kernel_rfl) (by kernel_rfl) (by kernel_rfl) a7m
theorem PO:Zu Tryz.prog 50 Yj Uh:=Yv (T:=TT) (ic:=AR) (rs:=CY) (Zc (Yn Tryz.func90 (by kernel_rfl) Oh) Zp) ZT Tryz.func50 (by kernel_rfl) (by kernel_rfl) (by kernel_rfl) EG
theorem a1y:Zu Tryz.prog 52 Yi Vm:=Yv (T:=AQ) (ic:=GH) (rs:=GL) (Zc (Yn Tryz.func90 (by kernel_rfl) Oh) (Zc (Yn Tryz.func91 (by kernel_rfl) Ew) Zp)) ZT Tryz.func52 (by kernel_rfl) (by kernel_rfl) (by kernel_rfl) Fq
theorem E8:Zu Tryz.prog 51 VV KM:=Yv (T:=AA) (ic:=Ga) (rs:=Da) (Zc (Yn Tryz.func50 (by kernel_rfl) PO) Zp) ZT Tryz.func51 (by kernel_rfl) (by kernel_rfl) (by kernel_rfl) Fy
theorem b3e:Zu Tryz.prog 17 Yq Yg:=a8j (T:=Wy) (ic:=Xh) (rs:=Xl) (Zc (Yn Tryz.func45 (by kernel_rfl) a3y) (Zc (Yn Tryz.func46 (by kernel_rfl) a1j) (Zc (Yn Tryz.func41 (by kernel_rfl) Xg) Zp))) ZT Tryz.func17 (by kernel_rfl) (by kernel_rfl) (by kernel_rfl) a6p
theorem a5k:Zu Tryz.prog 20 Yq Yg:=a8j (T:=Wn) (ic:=Xz) (rs:=Xw) (Zc (Yn Tryz.func50 (by kernel_rfl) PO) (Zc (Yn Tryz.func52 (by kernel_rfl) a1y) (Zc (Yn Tryz.func51 (by kernel_rfl) E8) (Zc (Yn Tryz.func18 (by kernel_rfl) JF) Zp)))) ZT Tryz.func20 (by kernel_rfl) (by kernel_rfl) (by kernel_rfl) a2i
theorem Tm: ∀ (xs:List PV) (e:PV),Yq [.ptr 0 0] [.box [.pv (.sl 1 false xs),.pv e]]=true-> ∃ p a b,Yg [.ptr 0 0] [.box [.pv (.sl 1 false xs),.pv e]]=(.pv p,[.box [.pv a,.pv b]],[]):=by
 intro xs e h
 unfold Yq at h
 split at h
 ·rename_i p err h1 h2
  cases h2
  exact⟨_,_,_,rfl⟩
 ·rename_i h1 h2;cases h2
 ·cases h
theorem b0e:Zu Tryz.prog 17 (Hm Yq Yg) (Rt Yg):=Zu.frzBox b3e Tm
theorem a1f:Zu Tryz.prog 20 (Hm Yq Yg) (Rt Yg):=Zu.frzBox a5k Tm
theorem a5x:ZC Tryz.prog 4 (fun x:Lin×List UInt8×Unit=>ZL x.1) (fun _:Lin×List UInt8×Unit=>true):=ZC.of (T:=Pg) (ic:=Ap) (rs:=CL) (Zc (Yn Tryz.func13 (by kernel_rfl) FQ) (Zc (Yn Tryz.func14 (by kernel_rfl) M3) (Zc (Yn Tryz.func15 (by kernel_rfl) a7o) (Zc (Yn Tryz.func16 (by kernel_rfl) A9) (Zc (Yn Tryz.func8 (by kernel_rfl) NV) (Zc (Yn Tryz.func17 (by kernel_rfl) b0e) (Zc (Yn Tryz.func20 (by kernel_rfl) a1f) (Zc (Yn Tryz.func18 (by kernel_rfl) JF) (Zc (Yn Tryz.func19 (by kernel_rfl) RQ) Zp))))))))) ZT Tryz.func4 (by kernel_rfl) (by kernel_rfl) (by kernel_rfl) Eu
end Go.Proofs.YtgllkpfiokkdhaaGreatDoor

namespace Go.Proofs.YtgllkpfiokkdhaaGreatDoor
open Go.Pl
open Enc (enc dec is)
open EncL (encL decL isL)
set_option maxRecDepth 100000
theorem OU:Tryz.prog.underlying 3=some (.int .i64):=by kernel_rfl
theorem b3s:Tryz.prog.underlying 9=some .string:=by kernel_rfl
theorem a8m:Tryz.prog.underlying 23=some (.slice 80):=by kernel_rfl
theorem O8:Tryz.prog.cellsOf 3=1:=by kernel_rfl
theorem b4n:Tryz.prog.cellsOf 9=1:=by kernel_rfl
theorem a9v:Tryz.prog.cellsOf 23=1:=by kernel_rfl
theorem MJ:Tryz.prog.cellsOf 80=2:=by kernel_rfl
theorem ME:Tryz.prog.cellsOf 25=2:=by kernel_rfl
theorem c0x:YZ Tryz.prog 80=true:=by kernel_rfl
theorem b8c:YZ Tryz.prog 25=true:=by kernel_rfl
theorem a8o:D8 Tryz.prog 80=some [(0,9),(1,3)]:=by kernel_rfl
theorem N9:D8 Tryz.prog 25=some [(0,3),(1,23)]:=by kernel_rfl
theorem TP{α:Type}[Enc α]{P:α->Prop}{f:List PV->PV}: ∀ {qs:List (List PV)},(∀ q∈qs,∃ a:α,f q=enc a∧P a)-> ∃ l:List α,qs.map f=l.map enc∧ ∀ a∈l,P a
 | [],_=>⟨[],rfl,fun a h=>by cases h⟩
 | q::qs,h=>by
  obtain⟨a,h1,h2⟩:=h q (by simp)
  obtain⟨l,h3,h4⟩:=TP (qs:=qs) fun r hr=>h r (by simp[hr])
  refine⟨a::l,by rw[List.map_cons,List.map_cons,h1,h3],fun b hb=> ?_⟩
  rcases List.mem_cons.1 hb with rfl|hb
  ·exact h2
  ·exact h4 b hb
theorem a4t{α:Type}[Enc α]{f:List PV->PV}{qs:List (List PV)}{l:List α}(h:qs.map f=l.map enc):l.length=qs.length:=by
 have:=congrArg List.length h
 simpa using this.symm
theorem b4u{n:Nat}{q:List PV}(h:XX Tryz.prog n 80 q): ∃ t:Coef,H9 Tryz.prog 80 q=enc t∧True:=by
 obtain⟨m,_,hl,h0,h1,_⟩:=Ke a8o MJ h
 match q,hl with
 | [a,b],_=>
  rw[b4n]at h0
  rw[O8]at h1
  obtain⟨o,e0,w0⟩:=a9g b3s h0
  obtain⟨k,e1,w1⟩:=Af OU h1
  simp at e0 e1
  subst e0 e1
  exact⟨⟨⟨o⟩,k⟩,by rw[H9,c0x];rfl,trivial⟩
theorem b5e{n:Nat}{q:List PV}(h:XX Tryz.prog n 23 q): ∃ l:List Coef,q=[enc l]∧l.length<=9223372036854775807:=by
 obtain⟨m,_,qs,rfl,hl,hq⟩:=BC a8m MJ h
 obtain⟨l,e,_⟩:=TP (α:=Coef) (P:=fun _=>True) (f:=H9 Tryz.prog 80) fun x hx=>b4u (hq x hx).2
 have hl:qs.length<=9223372036854775807:=hl
 exact⟨l,by rw[e];rfl,by rw[a4t e];exact hl⟩
theorem b4t{n:Nat}{a b:PV}(h:XX Tryz.prog n 25 [a,b]): ∃ l:Lin,a=enc l.k∧b=enc l.t∧ZL l=true:=by
 obtain⟨m,_,hl,h0,h1,_⟩:=Ke N9 ME h
 rw[O8]at h0
 rw[a9v]at h1
 obtain⟨o,e0,w0⟩:=Af OU h0
 obtain⟨t,e1,l1⟩:=b5e h1
 simp at e0 e1
 subst e0 e1
 exact⟨⟨o,t⟩,rfl,rfl,by simp only[ZL];exact decide_eq_true l1⟩
theorem a8v{n:Nat}{q:List PV}(h:XX Tryz.prog n 25 q): ∃ l:Lin,H9 Tryz.prog 25 q=enc l∧ZL l=true:=by
 obtain⟨m,_,hl,_⟩:=Ke N9 ME h
 match q,hl with
 | [a,b],_=>
  obtain⟨l,rfl,rfl,h2⟩:=b4t h
  exact⟨l,by rw[H9,b8c];rfl,h2⟩
end Go.Proofs.YtgllkpfiokkdhaaGreatDoor

namespace Go.Proofs.YtgllkpfiokkdhaaGreatDoor
open Go.Pl
open Enc (enc dec is)
open EncL (encL decL isL)
set_option maxRecDepth 100000
theorem a5u:Tryz.prog.underlying 5=some (.int .u8):=by kernel_rfl
theorem a1z:Tryz.prog.underlying 29=some (.slice 5):=by kernel_rfl
theorem a8t:Tryz.prog.cellsOf 5=1:=by kernel_rfl
theorem b8u:YZ Tryz.prog 5=false:=by kernel_rfl
theorem b6x:YZ Tryz.prog 29=false:=by kernel_rfl
theorem b3u{n:Nat}{q:List PV}(h:XX Tryz.prog n 5 q): ∃ c:UInt8,H9 Tryz.prog 5 q=enc c∧True:=by
 obtain⟨m,rfl,hm⟩:=Af a5u h
 have h1:0<=m∧m<256:=by
  have:=hm
  simp only[Lit.wf,Bool.and_eq_true,decide_eq_true_eq,show IntKind.u8.min=0 by decide,show IntKind.u8.max=255 by decide]at this
  omega
 refine⟨UInt8.ofNat m.toNat,?_,trivial⟩
 rw[H9,b8u]
 show PV.int .u8 m=PV.int .u8 ((UInt8.ofNat m.toNat).toNat:Int)
 rw[UInt8.toNat_ofNat']
 congr 1
 omega
theorem FT{n:Nat}{q:List PV}(h:XX Tryz.prog n 29 q): ∃ l:List UInt8,H9 Tryz.prog 29 q=enc l:=by
 obtain⟨m,_,qs,rfl,hl,hq⟩:=BC a1z a8t h
 obtain⟨l,e,_⟩:=TP (α:=UInt8) (P:=fun _=>True) (f:=H9 Tryz.prog 5) fun x hx=>b3u (hq x hx).2
 exact⟨l,by rw[H9,b6x,e];rfl⟩
theorem Lm{n0 n1:Nat}{q0 q1:List PV}(h0:XX Tryz.prog n0 25 q0)(h1:XX Tryz.prog n1 29 q1):
  preT (fun x:Lin×List UInt8×Unit=>ZL x.1) [H9 Tryz.prog 25 q0,H9 Tryz.prog 29 q1]=true:=by
 obtain⟨a,e0,a1⟩:=a8v h0
 obtain⟨b,e1⟩:=FT h1
 rw[e0,e1]
 exact Zt (a,b,()) rfl a1
end Go.Proofs.YtgllkpfiokkdhaaGreatDoor

