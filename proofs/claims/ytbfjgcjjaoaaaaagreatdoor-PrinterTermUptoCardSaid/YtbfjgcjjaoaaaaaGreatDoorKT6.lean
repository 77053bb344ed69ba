/-
  Texts of mine that belong together (packed by pack.py), for every input: Post, LaidY, PlGb, OpPr, ShP, Sh, ShB, ShR, ShS, Sk, Cl, OkPt.
-/
import Derived.Test.YtbfjgcjjaoaaaaaGreatDoorChecked
import Derived.Test.YtbfjgcjjaoaaaaaGreatDoorRows
import Derived.Test.YtbfjgcjjaoaaaaaGreatDoorKT2
import Derived.Test.YtbfjgcjjaoaaaaaGreatDoorKT3
import Derived.Test.YtbfjgcjjaoaaaaaGreatDoorKT4
import Derived.Test.YtbfjgcjjaoaaaaaGreatDoorKT5
import Derived.Below
import Derived.ChangeSame
import Derived.Stop.LaidErr
import Derived.Lib.LaidTab
import Derived.Shelf.Vars
import Derived.KernelRfl
import Derived.Shelf.Strings.Cut
import Derived.Shelf.Strings.OnBuilder
import Derived.Shelf.Strings.Trim
import Derived.Shelf.Small.Wraps
import Derived.Shelf.LaysM
import Derived.Shelf.Strconv.Itoa3
import Derived.Shelf.Strconv.AtoiAll
import Derived.Shelf.Strings.Prefix
import Derived.Shelf.Sort.Plain
import Derived.Shelf.Small.Strs
import Derived.Shelf.Slices.In.SortNone
import Derived.Shelf.SlIter.Sorted
import Derived.Shelf.SlIter.Keys
import Derived.Ground.GgzProg
import Derived.WalkKit
import Derived.Deep.LoopGhost
import Derived.Lib.Walk
import Derived.Lib.SliceRun
set_option linter.unusedVariables false
set_option linter.unusedSimpArgs false
namespace Go.Proofs.YtbfjgcjjaoaaaaaGreatDoor
open Go.RowKit Go.WideShapes Go.ChangeShapes
section
variable {H:Type} {enc:TypeId×Value->H} {P:Program}
theorem RU{f:Func}{s:ChangeSpec}{apart fresh handsOn again:Bool}{W W':World}{args:Array Value}{v:Value}{ds gs:List (DataW H)}{before pa pv:List MemPlace}
  (hW:DataW.Whole enc P f.params.toList s.vars apart W args.toList ds gs before)
  (hres : ∀ (b:Nat) (sp:Nat->Bool) (hd:Bool),DataW.TrodAll enc P W' b sp hd f.resultTypes.toList (v.resultList f.resultTypes.size) (s.fn H (ds++gs)).results [])
  (hargs : ∀ sp:Nat->Bool,(∀ p∈before,sp p.block=true)->DataW.TrodAll enc P W' 0 sp true f.params.toList args.toList (s.fn H (ds++gs)).args pa)
  (hvars : ∀ sp:Nat->Bool,(∀ p∈before,sp p.block=true)->DataW.TrodVars enc P W' sp s.vars (s.fn H (ds++gs)).vars pv)
  (hps:before=pa++pv) (hb:Below W.heap.size W W')
  (hok : ∀ (j:Nat) (t:TypeId) (r:Value),f.resultTypes[j]? = some t->(v.resultList f.resultTypes.size)[j]? = some r->Value.okWide P W' .any 0 t r) :
  s.post enc P f apart fresh handsOn again W args v W':=by
 have hlt : ∀ p∈before,p.block<W.heap.size:=fun p hp=>hW.lt p hp
 have hold : ∀ p∈before,(fun b=>decide (b<W.heap.size)) p.block=true:=fun p hp=>by simpa using hlt p hp
 refine⟨ds,gs,before,[],pa,pv,hW,hres _ _ _,hargs _ hold,hvars _ hold,World.keptBut_mono (fun p hp=>⟨hp,?_⟩) (hb.frame (· ∈ before)),fun _=> ?_⟩
 ·rw[hps,List.mem_append]at hp
  exact Or.inr hp
 ·obtain⟨_,_,_,_,_,hz,hn⟩:=hW
  refine⟨hok,_,_,([]++pa)++pv,⟨[]++pa,pv,trodAll_append (hargs _ (fun _ _=>rfl)) (hres _ _ _),hvars _ (fun _ _=>rfl),rfl,?_,?_⟩,?_⟩
  ·intro b off hp
   have hin:MemPlace.cell b off∈before:=by rw[hps];simpa using hp
   rw[hb.frozen (hlt _ hin)]
   exact hz b off hin
  ·intro ha
   have:=hn ha
   rw[hps]at this
   simpa using this
  ·intro p hp _
   rw[hps]
   simpa using hp
end
end Go.Proofs.YtbfjgcjjaoaaaaaGreatDoor
namespace Go.Proofs.YtbfjgcjjaoaaaaaGreatDoor
open Go.Pl Go.RowKit Go.ChangeShapes
set_option maxRecDepth 100000
theorem a5l{P:Program}{W:World}{n:String}{g:Nat}{cs:Array Value}(hg:P.globalNamed n=some g)(h:W.var? P n=some cs):Ai W g=some cs:=by
 unfold World.var? at h
 rw[hg]at h
 simp only[Option.bind_some]at h
 unfold Ai
 exact h
theorem d2j:Tryz.prog.globalNamed "internal/strconv.uint64pow10" = some 0:=by kernel_rfl
theorem e0j:Tryz.prog.globalNamed "strconv.ErrRange" = some 3:=by kernel_rfl
theorem e1b:Tryz.prog.globalNamed "strconv.ErrSyntax" = some 2:=by kernel_rfl
theorem b2x:Tryz.prog.underlying 102=some (.interface ((match Tryz.prog.underlying 102 with|some (.interface ms)=>ms|_=>#[]))):=by kernel_rfl
theorem d7v{W:World}{r:List (String×DataW Unit)}(h:laidMet Tryz.prog (("internal/strconv.uint64pow10",Rows.laid_internal_strconv_uint64pow10)::r) W):Ai W 0=some Ta:=by
 have h1:Lib.TabIs Tryz.prog W "internal/strconv.uint64pow10" .u64 ((List.range 20).map fun i=>((10 ^ i:Nat):Int)):=Lib.tabIs_of_head (e:=122) (t:=159) d2j (by kernel_rfl) (n:=20) (by kernel_rfl) (by kernel_rfl) (by kernel_rfl) (by kernel_rfl) h
 exact(a5l d2j h1).trans rfl
theorem b4i{W:World}{n:String}{g:Nat}{text:List UInt8}{r:List (String×DataW Unit)}(hg:Tryz.prog.globalNamed n=some g)(ht:(Tryz.prog.globals[g]?).map (·.type)=some 102)(h:laidMet Tryz.prog ((n,.iface "*errors.errorString" (.ptr (.agg [.lit (.string text)])))::r) W): ∃ cs,Ai W g=some cs∧Rb cs:=by
 obtain⟨ps,⟨g0,t0,cs0,f0,p0,q0,hg0,ht0,hv0,hd0,_,e0⟩,_,hrows⟩:=h
 obtain rfl:=Option.some.inj (hg.symm.trans hg0)
 obtain rfl:=Option.some.inj (ht.symm.trans ht0)
 subst e0
 refine⟨cs0,a5l hg hv0,?_⟩
 obtain⟨f1,u,v,e,_⟩:=iface_of_trod b2x hd0
 obtain⟨l0⟩:=cs0
 have e:l0=[.iface u v]:=e
 subst e
 exact⟨_,rfl,.inr ⟨u,v,rfl⟩⟩
theorem e0s{W:World}(h:W.ShapedOpen Tryz.prog): ∃ cs m,Ai W 1=some cs∧cs[0]? = some (Value.int .i64 m):=by
 obtain⟨m,hm⟩:=cell_of_shapedOpen_int (g:=1) (t:=3) (zero:=#[.int .i64 0]) (k:=.i64) h (of_decide_eq_true (by kernel_rfl)) (by kernel_rfl) rfl (by kernel_rfl) (by kernel_rfl) (by kernel_rfl)
 unfold World.cell? at hm
 unfold Ai
 split at hm
 ·rename_i cs T fz hh
  exact⟨cs,m,by simp only[hh],by simpa using hm⟩
 ·cases hm
theorem d1m{W:World}{x y:String×DataW Unit}{r:List (String×DataW Unit)}(h:laidMet Tryz.prog (x::y::("internal/strconv.uint64pow10",Rows.laid_internal_strconv_uint64pow10)::("strconv.ErrRange",Rows.laid_strconv_ErrRange)::("strconv.ErrSyntax",Rows.laid_strconv_ErrSyntax)::r) W)(hs:W.ShapedOpen Tryz.prog):GlobOK (Ai W):=
 ⟨b4i e1b (by kernel_rfl) h.tail.tail.tail.tail,b4i e0j (by kernel_rfl) h.tail.tail.tail,d7v h.tail.tail,e0s hs⟩
noncomputable def e1u:DataW Unit->Value
 | .lit (.int k n)=>.int k n
 | _=>.int .i64 0
noncomputable def a2c:DataW Unit->Array Value
 | .agg ds=>(ds.map e1u).toArray
 | _=>#[]
noncomputable def b9v:DataW Unit->ByteArray
 | .iface _ (.ptr (.agg [.lit (.string bs)]))=>⟨bs.toArray⟩
 | _=>⟨#[]⟩
noncomputable def low:Nat:=(World.holding Tryz.prog default ⟨#[],#[],[]⟩).heap.size
noncomputable def b9d(cs:Array Value):Obj->Obj
 | .cells _ t frozen=>.cells cs t frozen
 | o=>o
noncomputable def Cn(os:Os):World:=
 let w0:=World.holding Tryz.prog os ⟨#[.cells #[.string (b9v Rows.laid_strconv_ErrRange)] 184,.cells #[.string (b9v Rows.laid_strconv_ErrSyntax)] 184],#[],[]⟩
 {w0 with heap:=((((w0.heap.modify 3 (b9d #[.iface 182 (.pointer (some ⟨low,0,none⟩))])).modify 2 (b9d #[.iface 182 (.pointer (some ⟨low+1,0,none⟩))])).modify 0 (b9d (a2c Rows.laid_internal_strconv_uint64pow10))).modify 4 (b9d (a2c Rows.laid_math_bits_deBruijn32tab))).modify 5 (b9d (a2c Rows.laid_math_bits_deBruijn64tab))}
end Go.Proofs.YtbfjgcjjaoaaaaaGreatDoor
namespace Go.Pl
open Go.RowKit Go.WideShapes Go.ChangeShapes
abbrev uB{H:Type}(d:DataW H):Nat:=Go.Proofs.YtbfjgcjjaoaaaaaGreatDoor.Rows.uptoBulk d
abbrev uBs{H:Type}(l:List (DataW H)):Nat:=Go.Proofs.YtbfjgcjjaoaaaaaGreatDoor.Rows.uptoBulkAll l
theorem Ro{H:Type}(d:DataW H)(l:List (DataW H)):uBs (d::l)=uB d+uBs l:=by unfold uBs uB;rw[Go.Proofs.YtbfjgcjjaoaaaaaGreatDoor.Rows.uptoBulkAll]
theorem a3y{H:Type}(d:DataW H):1<=uB d:=by
 cases d with
 | lit l=>cases l <;> simp[uB,Go.Proofs.YtbfjgcjjaoaaaaaGreatDoor.Rows.uptoBulk]
 | _=>simp[uB,Go.Proofs.YtbfjgcjjaoaaaaaGreatDoor.Rows.uptoBulk]
mutual
def pvW:PV->Nat
 | .str s=>s.length+1
 | .sl _ _ xs=>Xr xs+1
 | .agg xs=>Xr xs
 | _=>1
def Xr:List PV->Nat
 | []=>0
 | p::ps=>pvW p+Xr ps
end
theorem c0p(a b:List PV):Xr (a++b)=Xr a+Xr b:=by
 induction a with
 | nil=>simp[Xr]
 | cons x a ih=>rw[List.cons_append,Xr,ih,Xr];omega
theorem e0k{P:Program}{e:TypeId}{q:List PV}(hag:Xy P e=true∨P.cellsOf e=1)(hl:q.length=P.cellsOf e):pvW (Jq P e q)<=Xr q:=by
 cases ha:Xy P e with
 | true=>simp only[Jq,ha];rw[pvW];exact Nat.le_refl _
 | false=>
  have h1:P.cellsOf e=1:=by simpa [ha]using hag
  rw[h1]at hl
  match q,hl with
  | [x],_=>simp only[Jq,ha,List.headD_cons];rw[Xr,Xr];exact Nat.le_refl _
theorem a7o{H:Type}{f:List PV->PV}: ∀ {qs:List (List PV)} {xs:List (DataW H×List MemPlace)},qs.length=xs.length->(∀ (i:Nat) (q:List PV) (x:DataW H×List MemPlace),qs[i]? = some q->xs[i]? = some x->pvW (f q)<=uB x.1)->Xr (qs.map f)<=uBs (xs.map (·.1))
 | [],[],_,_=>by simp[Xr]
 | q::qs,x::xs,hl,h=>by
  have h0:=h 0 q x rfl rfl
  have h1:=a7o (qs:=qs) (xs:=xs) (by simpa using hl) fun i q x hq hx=>h (i+1) q x (by simpa using hq) (by simpa using hx)
  rw[List.map_cons,Xr,List.map_cons,Ro]
  omega
 | [],_::_,hl,_=>by cases hl
 | _::_,[],hl,_=>by cases hl
def c0j(P:Program)(S:List TypeId):Bool:=S.all fun t=>match P.underlying t with|some (.array _ _)=>false|_=>true
section
variable {H:Type} {enc:TypeId×Value->H} {P:Program} {w:World} {base:Nat} {sp:Nat->Bool} {held:Bool} {S:List TypeId}
theorem L8{n:Nat}{cs:List Value}(ih : ∀ (t:TypeId) (cs:List Value) (x:DataW H×List MemPlace),t∈S->DataW.trod enc P w base sp held n t cs=some x-> ∃ ps,Cl w cs ps∧Vy P n t ps∧Xr ps<=uB x.1):
  ∀ (fs:List Field) (o N:Nat) (xs:List (DataW H×List MemPlace)),Km P o fs N=true->(∀ f∈fs,f.type∈S)->cs.length=N->o<=N ->
   fs.mapM (fun f=>DataW.trod enc P w base sp held n f.type ((cs.drop f.offset).take (P.cellsOf f.type)))=some xs ->
   ∃ ps,Cl w (cs.drop o) ps∧Xr ps<=uBs (xs.map (·.1))∧ ∀ qs:List PV,qs.length=o->(∀ f∈fs,Vy P n f.type (((qs++ps).drop f.offset).take (P.cellsOf f.type))):=by
 intro fs
 induction fs with
 | nil=>
  intro o N xs hc _ hl ho _
  simp[Km]at hc
  refine⟨[],?_,by simp[Xr],fun qs _ f hf=>by simp at hf⟩
  rw[List.drop_of_length_le (by omega)]
  exact Cl.nil
 | cons f fs ihf=>
  intro o N xs hc hm hl ho h
  simp only[Km,Bool.and_eq_true,beq_iff_eq]at hc
  obtain⟨hfo,hc⟩:=hc
  simp only[List.mapM_cons,Option.bind_eq_bind,Option.bind_eq_some_iff]at h
  obtain⟨x,hx,xs',hxs,e⟩:=h
  cases e
  obtain⟨p1,k1,k2,w1⟩:=ih _ _ x (hm f List.mem_cons_self) hx
  have hle:o+P.cellsOf f.type<=N:=by
   have : ∀ (fs:List Field) (a:Nat),Km P a fs N=true->a<=N:=by
    intro fs
    induction fs with
    | nil=>intro a h;simp[Km]at h;omega
    | cons g fs ih=>intro a h;simp only[Km,Bool.and_eq_true]at h;have:=ih _ h.2;omega
   exact this _ _ hc
  obtain⟨p2,k3,w2,k4⟩:=ihf (o+P.cellsOf f.type) N xs' hc (fun g hg=>hm g (List.mem_cons_of_mem _ hg)) hl hle hxs
  have hp1:p1.length=P.cellsOf f.type:=by
   rw[<- k1.1.1,List.length_take,List.length_drop,hfo]
   omega
  refine⟨p1++p2,?_,by rw[c0p,List.map_cons,Ro];omega,fun qs hq g hg=> ?_⟩
  ·have:=k1.append k3
   rw[hfo]at this
   have e:cs.drop o=(cs.drop o).take (P.cellsOf f.type)++cs.drop (o+P.cellsOf f.type):=by rw[<- List.drop_drop,List.take_append_drop]
   rw[e]
   exact this
  ·rcases List.mem_cons.1 hg with rfl|hg
   ·rw[hfo,<- hq,List.drop_left,<- hp1,List.take_left]
    exact k2
   ·have:=k4 (qs++p1) (by simp[hq,hp1]) g hg
    rwa [List.append_assoc]at this
theorem EF{n:Nat}{e:TypeId}{a:Addr}{len cap:Nat}{xs:List (DataW H×List MemPlace)}(hsz:0<P.cellsOf e)(hag:Xy P e=true∨P.cellsOf e=1)(hcap:len<=cap)(hmax:cap<=maxLen)
  (ih : ∀ (cs:List Value) (x:DataW H×List MemPlace),DataW.trod enc P w base sp held n e cs=some x-> ∃ ps,Cl w cs ps∧Vy P n e ps∧Xr ps<=uB x.1)
  (h:(List.range len).mapM (fun i=>(w.cells? base (a.add (i*P.cellsOf e)) (P.cellsOf e)).bind (DataW.trod enc P w base sp held n e))=some xs) :
  ∃ qs:List (List PV),RP (Ai w) (.slice (some a) len cap) (.sl (P.cellsOf e) false (qs.map (Jq P e)))∧qs.length<=maxLen∧(∀ q∈qs,q.length=P.cellsOf e∧Vy P n e q)∧Xr (qs.map (Jq P e))<=uBs (xs.map (·.1)):=by
 obtain⟨hl,hg⟩:=O4 h
 rw[List.length_range]at hl
 have key : ∀ i,i<len-> ∃ q:List PV,(q.length=P.cellsOf e∧Vy P n e q∧ ∃ x,xs[i]? = some x∧Xr q<=uB x.1)∧ ∀ (r:Nat) p,q[r]? = some p-> ∃ v,w.cell? (a.add (i*P.cellsOf e+r))=some v∧v.oneCell'=true∧RP (Ai w) v p:=by
  intro i hi
  have hx:=List.getElem?_eq_getElem (show i<xs.length by omega)
  have:=hg i i _ (by simp[hi]) hx
  rw[Option.bind_eq_some_iff]at this
  obtain⟨cs,h1,h2⟩:=this
  obtain⟨q,k1,k2,k3⟩:=ih cs _ h2
  obtain⟨c1,c2⟩:=a8s h1
  refine⟨q,⟨by rw[<- k1.1.1,c1],k2,_,hx,k3⟩,fun r p hp=> ?_⟩
  have hr:r<cs.length:=by rw[k1.1.1];exact(List.getElem?_eq_some_iff.1 hp).1
  have hv:=List.getElem?_eq_getElem hr
  refine⟨_,?_,k1.2 _ (List.getElem_mem hr),k1.1.2 r _ p hv hp⟩
  rw[<- a8k]
  exact c2 r _ hv
 obtain⟨qs,hq1,hq2⟩:=O7 len key
 have hcells : ∀ q∈qs,(Jq P e q).cells=q:=by
  intro q hq
  obtain⟨i,hi,rfl⟩:=List.getElem_of_mem hq
  have:=(hq2 i _ (List.getElem?_eq_getElem hi)).1
  exact a9x hag this.1 fun ha=>c5e this.2.1 ha
 refine⟨qs,?_,by omega,fun q hq=> ?_,?_⟩
 ·by_cases h0:len=0
  ·subst h0
   have:qs=[]:=List.length_eq_zero_iff.1 hq1
   subst this
   exact .sl0 _ _ _ _ fun e=>by cases e
  ·-- the first cell tells the block
   obtain⟨b,off,cs,rfl,hb,-⟩ : ∃ b off cs,a=⟨b,off,none⟩∧Ai w b=some cs∧True:=by
    have hq0:=List.getElem?_eq_getElem (show 0<qs.length by omega)
    obtain⟨⟨f1,f2,-⟩,f3⟩:=hq2 0 _ hq0
    have hp:=List.getElem?_eq_getElem (show 0<(qs[0]'(by omega)).length by omega)
    obtain⟨v,hv,_⟩:=f3 0 _ hp
    simp[Addr.add]at hv
    obtain⟨b,off,cs,e1,e2,_⟩:=Nc hv
    exact⟨b,off,cs,e1,e2,trivial⟩
   have hs : ∀ x∈qs.map (Jq P e),x.cells.length=P.cellsOf e:=by
    intro x hx
    obtain⟨q,hq,rfl⟩:=List.mem_map.1 hx
    rw[hcells q hq]
    obtain⟨i,hi,rfl⟩:=List.getElem_of_mem hq
    exact(hq2 i _ (List.getElem?_eq_getElem hi)).1.1
   have hat : ∀ (j:Nat) p,(flat (qs.map (Jq P e)))[j]? = some p-> ∃ v,cs[off+j]? = some v∧v.oneCell'=true∧RP (Ai w) v p:=by
    intro j p hp
    have hj:j<len*P.cellsOf e:=by
     have:=(List.getElem?_eq_some_iff.1 hp).1
     rw[WG hs]at this
     simpa [hq1]using this
    have hi:j / P.cellsOf e<qs.length:=by rw[hq1];exact(Nat.div_lt_iff_lt_mul hsz).2 hj
    have hr:j % P.cellsOf e<P.cellsOf e:=Nat.mod_lt _ hsz
    have hqi:=List.getElem?_eq_getElem hi
    have e0:j=j / P.cellsOf e*P.cellsOf e+j % P.cellsOf e:=by rw[Nat.mul_comm];exact(Nat.div_add_mod _ _).symm
    have hxi:(qs.map (Jq P e))[j / P.cellsOf e]? = some (Jq P e qs[j / P.cellsOf e]):=by rw[List.getElem?_map,hqi];rfl
    have hfg:=OV hs hxi hr
    rw[<- e0,hcells _ (List.getElem_mem hi)]at hfg
    rw[hfg]at hp
    obtain⟨v,hv,h1,h2⟩:=(hq2 _ _ hqi).2 _ p hp
    rw[<- e0,XD]at hv
    obtain⟨b',off',cs',e1,e2,e3⟩:=Nc hv
    cases e1
    rw[hb]at e2
    cases e2
    exact⟨v,e3,h1,h2⟩
   have hlen:len=(qs.map (Jq P e)).length:=by simp[hq1]
   rw[hlen]
   refine .sl b off cs cap _ false _ (fun j=>(cs[off+j]?).getD default) hb (by rw[<- hlen];exact hcap) (fun e=>by cases e) hs (fun j p hp=> ?_) (fun j p hp=> ?_)
   ·obtain⟨v,h1,h2,h3⟩:=hat j p hp
    rw[h1]
    exact⟨rfl,h2⟩
   ·obtain⟨v,h1,h2,h3⟩:=hat j p hp
    rw[h1]
    exact h3
 ·obtain⟨i,hi,rfl⟩:=List.getElem_of_mem hq
  have:=(hq2 i _ (List.getElem?_eq_getElem hi)).1
  exact⟨this.1,this.2.1⟩
 ·refine a7o (by rw[hq1,hl]) fun i q x hq hx=> ?_
  have:=(hq2 i q hq).1
  obtain⟨y,hy,hw⟩:=this.2.2
  rw[hx]at hy
  cases hy
  have hm:=e0k (P:=P) (e:=e) (q:=q) hag this.1
  omega
theorem a1c(hS:Lb P S=true)(hA:c0j P S=true): ∀ (n:Nat) (t:TypeId) (cs:List Value) (x:DataW H×List MemPlace),t∈S->DataW.trod enc P w base sp held n t cs=some x-> ∃ ps,Cl w cs ps∧Vy P n t ps∧Xr ps<=uB x.1:=by
  intro n
  induction n with
  | zero=>intro t cs x _ h;simp[DataW.trod]at h
  | succ n ih=>
    intro t cs x ht h
    have hp:=PM hS ht
    have hna:=List.all_eq_true.1 hA t ht
    unfold DataW.trod at h
    unfold Vy
    split at h <;> (try rename_i hu) <;> (try simp only[hu]at hp hna ⊢) <;> try (cases hp;done)
    all_goals first
      | (exact⟨_,Cl.one (.bool _) rfl,⟨_,rfl⟩,a3y _⟩)
      | (split at h
         · rename_i hc
           obtain⟨rfl,hw⟩:=hc
           exact⟨_,Cl.one (.int _ _) rfl,⟨_,rfl,hw⟩,a3y _⟩
         · cases h)
      | (split at h
         · rename_i hc
           cases h
           refine⟨_,Cl.one (.str _) rfl,⟨_,rfl,hc⟩,?_⟩
           show Xr [PV.str _]<=Go.Proofs.YtbfjgcjjaoaaaaaGreatDoor.Rows.uptoBulk (DataW.lit (.string _))
           rw[Go.Proofs.YtbfjgcjjaoaaaaaGreatDoor.Rows.uptoBulk,Xr,Xr,pvW]
           omega
         · cases h)
      | (cases h;done)
      | (cases hna;done)
      | skip
    · exact⟨_,Cl.one (.sl0 _ _ _ false (fun e=>by cases e)) rfl,⟨[],rfl,by simp,fun q hq=>by simp at hq⟩,a3y _⟩
    · rename_i e a len cap
      simp only[Bool.and_eq_true,Bool.or_eq_true,beq_iff_eq,decide_eq_true_eq]at hp
      simp only at h
      split at h
      · rename_i hc
        obtain⟨xs,h1,h3⟩:=Option.bind_eq_some_iff.1 h
        obtain⟨ys,h4,rfl⟩:=Option.map_eq_some_iff.1 h3
        obtain⟨qs,k1,k2,k3,k4⟩:=EF hp.1.2 hp.2 hc.2.1 hc.2.2 (fun cs x hx=>ih e cs x (by simpa using hp.1.1.2) hx) h1
        refine⟨_,Cl.one k1 rfl,⟨qs,rfl,k2,k3⟩,?_⟩
        show Xr [PV.sl _ false (qs.map (Jq P e))]<=Go.Proofs.YtbfjgcjjaoaaaaaGreatDoor.Rows.uptoBulk (DataW.slice (xs.map (·.1)) (ys.map (·.1)))
        rw[Go.Proofs.YtbfjgcjjaoaaaaaGreatDoor.Rows.uptoBulk,Xr,Xr,pvW]
        have:Xr (qs.map (Jq P e))<=Go.Proofs.YtbfjgcjjaoaaaaaGreatDoor.Rows.uptoBulkAll (xs.map (·.1)):=k4
        omega
      · cases h
    · rename_i cs2 fs
      simp only[Bool.and_eq_true]at hp
      split at h
      · rename_i hc
        rw[Option.map_eq_some_iff]at h
        obtain⟨xs,h1,rfl⟩:=h
        obtain⟨ps,k1,k3,k2⟩:=L8 ih fs.toList 0 (P.cellsOf t) xs hp.1 (fun f hf=>by simpa using List.all_eq_true.1 hp.2 f hf) hc (Nat.zero_le _) h1
        rw[List.drop_zero]at k1
        refine⟨ps,k1,⟨by rw[<- k1.1.1,hc],fun f hf=>by simpa using k2 [] rfl f hf⟩,?_⟩
        show Xr ps<=Go.Proofs.YtbfjgcjjaoaaaaaGreatDoor.Rows.uptoBulk (DataW.agg (xs.map (·.1)))
        rw[Go.Proofs.YtbfjgcjjaoaaaaaGreatDoor.Rows.uptoBulk]
        have:Xr ps<=Go.Proofs.YtbfjgcjjaoaaaaaGreatDoor.Rows.uptoBulkAll (xs.map (·.1)):=k3
        omega
      · cases h
theorem b0m(hS:Lb P S=true)(hA:c0j P S=true){t:TypeId}(ht:t∈S){r:Reach}{b0:Nat}{v:Value}{d:DataW H}{p:List MemPlace}(hval:Value.okWide P w r b0 t v)(h:DataW.Trod enc P w base sp held t v d p):
  ∃ n q,RP (Ai w) v (Jq P t q)∧Vy P n t q∧Xr q<=uB d:=by
 obtain⟨n,h⟩:=h
 obtain⟨q,k1,k2,k3⟩:=a1c hS hA n t _ _ ht h
 refine⟨n,q,?_,k2,k3⟩
 have hp:=PM hS ht
 have scal:v.cells = #[v]->Xy P t=false->RP (Ai w) v (Jq P t q):=by
  intro hc ha
  rw[hc]at k1
  have hl:=k1.1.1
  match q,hl with
  | [x],_=>simp only[Jq,ha,List.headD_cons];exact k1.1.2 0 v x rfl rfl
 have agg : ∀ cs,v = .agg cs->Xy P t=true->RP (Ai w) v (Jq P t q):=by
  rintro cs rfl ha
  simp only[Jq,ha]
  exact .agg cs q (by have:=k1.1.1;simpa [Value.cells]using this) (fun x hx=>k1.2 x (by simpa [Value.cells]using hx)) fun j x y hx hy=>k1.1.2 j x y (by simpa [Value.cells]using hx) hy
 split at hp
 ·rename_i hu
  obtain⟨b,rfl⟩:=okWide_bool hu hval
  exact scal rfl (by simp[Xy,hu])
 ·rename_i hu
  obtain⟨b,rfl⟩:=okWide_int hu hval
  exact scal rfl (by simp[Xy,hu])
 ·rename_i hu
  obtain⟨b,rfl⟩:=okWide_string hu hval
  exact scal rfl (by simp[Xy,hu])
 ·rename_i hu
  obtain⟨a,l,c,rfl⟩:=okWide_slice hu hval
  exact scal rfl (by simp[Xy,hu])
 ·rename_i hu
  simp only[Value.okWide,hu]at hval
  obtain⟨cs,rfl,_⟩:=hval
  exact agg cs rfl (by simp[Xy,hu])
 ·rename_i hu
  simp only[Value.okWide,hu]at hval
  obtain⟨cs,rfl,_⟩:=hval
  exact agg cs rfl (by simp[Xy,hu])
 ·cases hp
end
end Go.Pl
namespace Go.Pl
open Enc (enc dec is)
open EncL (encL decL isL)
theorem a0l(l:List Int):Xr (l.map enc)=l.length:=by
 induction l with
 | nil=>rfl
 | cons a l ih=>rw[List.map_cons,Xr,ih,List.length_cons];show 1+_=_;omega
theorem c9l(l:List Coef):Xr (l.map enc)=(l.map wCf).sum:=by
 induction l with
 | nil=>rfl
 | cons a l ih=>
  rw[List.map_cons,Xr,ih,List.map_cons,List.sum_cons]
  rfl
theorem d4h(l:List Lin):Xr (l.map enc)=(l.map EP).sum:=by
 induction l with
 | nil=>rfl
 | cons a l ih=>
  rw[List.map_cons,Xr,ih,List.map_cons,List.sum_cons]
  congr 1
  show pvW (.agg [.int .i64 a.k,.sl 2 false (a.t.map enc)])=_
  simp only[pvW,Xr,c9l]
  unfold EP
  omega
mutual
theorem d2l: ∀ t:Tm,K7 t<=pvW (tmP t)
 | .mk n ks=>by
  have h:=b3y ks
  have h1:=a0l n.dims
  have h2:=a0l n.data
  have h3:=a0l n.ranks
  have h4:=d4h n.sizes
  rw[tmP,K7]
  show wNd n+Us ks<=pvW (.agg [.int .i64 n.kind,.int .i64 n.line,.str n.name.s,.int .i64 n.num,.str n.elem.s,.sl 1 false (n.dims.map enc),.sl 1 false (n.data.map enc),.sl 2 false (n.sizes.map enc),.sl 1 false (n.ranks.map enc),.sl 10 false (HZ ks)])
  simp only[pvW,Xr,h1,h2,h3,h4]
  unfold wNd
  omega
theorem b3y: ∀ ks:List Tm,Us ks<=Xr (HZ ks)
 | []=>by simp[Us,HZ,Xr]
 | k::ks=>by
  have h1:=d2l k
  have h2:=b3y ks
  rw[Us,HZ,Xr];omega
end
end Go.Pl
namespace Go.Proofs.YtbfjgcjjaoaaaaaGreatDoor
open Go.Pl
set_option maxRecDepth 100000
open Enc (enc dec is)
open EncL (encL decL isL)
theorem JM:Tryz.prog.underlying 3=some (.int .i64):=by kernel_rfl
theorem LF:Tryz.prog.underlying 9=some .string:=by kernel_rfl
theorem c2k:Tryz.prog.underlying 22=some (.slice 3):=by kernel_rfl
theorem c1t:Tryz.prog.underlying 39=some (.slice 66):=by kernel_rfl
theorem c1w:Tryz.prog.underlying 25=some (.slice 41):=by kernel_rfl
theorem b9x:Tryz.prog.underlying 26=some (.slice 28):=by kernel_rfl
theorem AU:Tryz.prog.cellsOf 3=1:=by kernel_rfl
theorem Mg:Tryz.prog.cellsOf 9=1:=by kernel_rfl
theorem Ev:Tryz.prog.cellsOf 22=1:=by kernel_rfl
theorem c0i:Tryz.prog.cellsOf 39=1:=by kernel_rfl
theorem b8p:Tryz.prog.cellsOf 25=1:=by kernel_rfl
theorem b9o:Tryz.prog.cellsOf 26=1:=by kernel_rfl
theorem O3:Tryz.prog.cellsOf 66=2:=by kernel_rfl
theorem Eh:Tryz.prog.cellsOf 41=2:=by kernel_rfl
theorem OH:Tryz.prog.cellsOf 24=3:=by kernel_rfl
theorem Oy:Tryz.prog.cellsOf 28=10:=by kernel_rfl
theorem d8s:Xy Tryz.prog 66=true:=by kernel_rfl
theorem d4t:Xy Tryz.prog 41=true:=by kernel_rfl
theorem b4c:Xy Tryz.prog 28=true:=by kernel_rfl
theorem b6c:JL Tryz.prog 66=some [(0,9),(1,3)]:=by kernel_rfl
theorem b6o:JL Tryz.prog 41=some [(0,3),(1,39)]:=by kernel_rfl
theorem b9e:JL Tryz.prog 24=some [(0,9),(1,22),(2,22)]:=by kernel_rfl
theorem b3p:JL Tryz.prog 28=some [(0,3),(1,3),(2,9),(3,3),(4,24),(7,25),(8,22),(9,26)]:=by kernel_rfl
theorem Ao{α:Type}[Enc α]{f:List PV->PV}: ∀ {qs:List (List PV)},(∀ q∈qs,∃ a:α,f q=enc a)-> ∃ l:List α,qs.map f=l.map enc
 | [],_=>⟨[],rfl⟩
 | q::qs,h=>by
  obtain⟨a,e⟩:=h q (by simp)
  obtain⟨l,e2⟩:=Ao (qs:=qs) fun x hx=>h x (by simp[hx])
  exact⟨a::l,by rw[List.map_cons,List.map_cons,e,e2]⟩
theorem c8h{n:Nat}{q:List PV}(h:Vy Tryz.prog n 66 q): ∃ t:Coef,Jq Tryz.prog 66 q=enc t:=by
 obtain⟨m,_,hl,h0,h1,_⟩:=Qr b6c O3 h
 match q,hl with
 | [a,b],_=>
  rw[Mg]at h0
  rw[AU]at h1
  obtain⟨s,e0,_⟩:=Rx LF h0
  obtain⟨k,e1,_⟩:=QJ JM h1
  simp at e0 e1
  subst e0 e1
  exact⟨⟨⟨s⟩,k⟩,by rw[Jq,d8s];rfl⟩
theorem Ns{n:Nat}{q:List PV}(h:Vy Tryz.prog n 22 q): ∃ l:List Int,q=[enc l]:=by
 obtain⟨zs,e,_⟩:=b3g c2k JM AU h
 exact⟨zs,e⟩
theorem d0b{n:Nat}{q:List PV}(h:Vy Tryz.prog n 41 q): ∃ l:Lin,Jq Tryz.prog 41 q=enc l:=by
 obtain⟨m,_,hl,h0,h1,_⟩:=Qr b6o Eh h
 match q,hl with
 | [a,b],_=>
  rw[AU]at h0
  rw[c0i]at h1
  obtain⟨k,e0,_⟩:=QJ JM h0
  obtain⟨m',_,qs,e1,_,hq⟩:=Kb c1t O3 h1
  obtain⟨l,e2⟩:=Ao (α:=Coef) (f:=Jq Tryz.prog 66) fun x hx=>c8h (hq x hx).2
  simp at e0 e1
  subst e0 e1
  exact⟨⟨k,l⟩,by rw[Jq,d4t,e2];rfl⟩
theorem c5p: ∀ (n:Nat) {q:List PV},Vy Tryz.prog n 28 q-> ∃ t:Tm,Jq Tryz.prog 28 q=enc t:=by
 intro n
 induction n using Nat.strongRecOn with
 | ind n ih=>
  intro q h
  obtain⟨m,hm,hl,h0,h1,h2,h3,h4,h5,h6,h7,_⟩:=Qr b3p Oy h
  match q,hl with
  | [a,b,c,d,e,f,g,i,j,k],_=>
   rw[AU]at h0 h1 h3
   rw[Mg]at h2
   rw[OH]at h4
   rw[b8p]at h5
   rw[Ev]at h6
   rw[b9o]at h7
   obtain⟨v0,e0,_⟩:=QJ JM h0
   obtain⟨v1,e1,_⟩:=QJ JM h1
   obtain⟨v2,e2,_⟩:=Rx LF h2
   obtain⟨v3,e3,_⟩:=QJ JM h3
   obtain⟨m4,_,_,k0,k1,k2,_⟩:=Qr b9e OH h4
   rw[Mg]at k0
   rw[Ev]at k1 k2
   obtain⟨v4,e4,_⟩:=Rx LF k0
   obtain⟨v5,e5⟩:=Ns k1
   obtain⟨v6,e6⟩:=Ns k2
   obtain⟨m7,_,qs,e7,_,hq⟩:=Kb c1w Eh h5
   obtain⟨v7,e7'⟩:=Ao (α:=Lin) (f:=Jq Tryz.prog 41) fun x hx=>d0b (hq x hx).2
   obtain⟨v8,e8⟩:=Ns h6
   obtain⟨m9,hm9,ts,e9,_,ht⟩:=Kb b9x Oy h7
   obtain⟨v9,e9'⟩:=Ao (α:=Tm) (f:=Jq Tryz.prog 28) fun x hx=>ih m9 (by omega) (ht x hx).2
   simp at e0 e1 e2 e3 e4 e5 e6 e7 e8 e9
   subst e0 e1 e2 e3 e4 e5 e6 e7 e8 e9
   exact⟨.mk ⟨v0,v1,⟨v2⟩,v3,⟨v4⟩,v5,v6,v7,v8⟩ v9,by rw[Jq,b4c,Yy,e7',e9'];rfl⟩
theorem a8r{n:Nat}{q:List PV}(h:Vy Tryz.prog n 28 q)(hw:Xr q<=1048576):preT (fun x:Tm×Unit=>tW x.1) [Jq Tryz.prog 28 q]=true:=by
 obtain⟨t,e⟩:=c5p n h
 rw[e]
 refine Zf (t,()) rfl (decide_eq_true ?_)
 have h1:=d2l t
 have h2:pvW (Jq Tryz.prog 28 q)<=Xr q:=by simp only[Jq,b4c];rw[pvW];exact Nat.le_refl _
 rw[e]at h2
 have h3:pvW (tmP t)<=Xr q:=h2
 show K7 t<=1048576
 omega
end Go.Proofs.YtbfjgcjjaoaaaaaGreatDoor
namespace Go.Proofs.YtbfjgcjjaoaaaaaGreatDoor
open Go.Shelf
def Tryz.lays145_ren:Go.Shelf.Ren:=⟨fun|145=>131|220=>156|219=>173|217=>180|225=>181|224=>182|267=>183|266=>186|314=>187|n=>n,fun|9=>9|4=>4|59=>129|3=>3|5=>5|46=>114|146=>185|51=>140|n=>n,fun|1=>1|n=>n⟩
theorem Tryz.lays145:Go.Proofs.Lays.n145 Tryz.prog Tryz.lays145_ren:={
 mixed:=by kernel_rfl
 f145:=Tryz.func131.trans (congrArg some (by kernel_rfl))
 f217:=Tryz.func180.trans (congrArg some (by kernel_rfl))
 f219:=Tryz.func173.trans (congrArg some (by kernel_rfl))
 f220:=Tryz.func156.trans (congrArg some (by kernel_rfl))
 f224:=Tryz.func182.trans (congrArg some (by kernel_rfl))
 f225:=Tryz.func181.trans (congrArg some (by kernel_rfl))
 f266:=Tryz.func186.trans (congrArg some (by kernel_rfl))
 f267:=Tryz.func183.trans (congrArg some (by kernel_rfl))
 f314:=Tryz.func187.trans (congrArg some (by kernel_rfl))
 t3:=Tryz.underlying3
 a3:=Tryz.isAgg3
 z3:=Tryz.sizeOf3
 v3:=Tryz.zeroValue3
 t4:=Tryz.underlying4
 a4:=Tryz.isAgg4
 z4:=Tryz.sizeOf4
 v4:=Tryz.zeroValue4
 t5:=Tryz.underlying5
 a5:=Tryz.isAgg5
 z5:=Tryz.sizeOf5
 v5:=Tryz.zeroValue5
 t9:=Tryz.underlying9
 a9:=Tryz.isAgg9
 z9:=Tryz.sizeOf9
 v9:=Tryz.zeroValue9
 t46:=Tryz.underlying114
 a46:=Tryz.isAgg114
 z46:=Tryz.sizeOf114
 v46:=Tryz.zeroValue114
 t51:=Tryz.underlying140
 a51:=Tryz.isAgg140
 z51:=Tryz.sizeOf140
 v51:=Tryz.zeroValue140
 t59:=Tryz.underlying129
 a59:=Tryz.isAgg129
 z59:=Tryz.sizeOf129
 v59:=Tryz.zeroValue129
 t146:=Tryz.underlying185
 a146:=Tryz.isAgg185
 z146:=Tryz.sizeOf185
 v146:=Tryz.zeroValue185
 g1:=by kernel_rfl}
def Tryz.lays156_ren:Go.Shelf.Ren:=⟨fun|156=>55|165=>90|166=>91|169=>92|240=>112|241=>113|276=>147|277=>148|n=>n,fun|31=>45|9=>9|3=>3|4=>4|0=>0|20=>20|72=>99|76=>103|70=>97|37=>82|75=>102|127=>116|164=>146|5=>5|80=>105|n=>n,fun|n=>n⟩
theorem Tryz.lays156:Go.Proofs.Lays.n156 Tryz.prog Tryz.lays156_ren:={
 mixed:=by kernel_rfl
 f156:=Tryz.func55.trans (congrArg some (by kernel_rfl))
 f165:=Tryz.func90.trans (congrArg some (by kernel_rfl))
 f166:=Tryz.func91.trans (congrArg some (by kernel_rfl))
 f169:=Tryz.func92.trans (congrArg some (by kernel_rfl))
 f240:=Tryz.func112.trans (congrArg some (by kernel_rfl))
 f241:=Tryz.func113.trans (congrArg some (by kernel_rfl))
 f276:=Tryz.func147.trans (congrArg some (by kernel_rfl))
 f277:=Tryz.func148.trans (congrArg some (by kernel_rfl))
 t0:=Tryz.underlying0
 a0:=Tryz.isAgg0
 z0:=Tryz.sizeOf0
 v0:=Tryz.zeroValue0
 t3:=Tryz.underlying3
 a3:=Tryz.isAgg3
 z3:=Tryz.sizeOf3
 v3:=Tryz.zeroValue3
 t4:=Tryz.underlying4
 a4:=Tryz.isAgg4
 z4:=Tryz.sizeOf4
 v4:=Tryz.zeroValue4
 t9:=Tryz.underlying9
 a9:=Tryz.isAgg9
 z9:=Tryz.sizeOf9
 v9:=Tryz.zeroValue9
 t20:=Tryz.underlying20
 a20:=Tryz.isAgg20
 z20:=Tryz.sizeOf20
 v20:=Tryz.zeroValue20
 t31:=Tryz.underlying45
 a31:=Tryz.isAgg45
 z31:=Tryz.sizeOf45
 v31:=Tryz.zeroValue45
 t37:=Tryz.underlying82
 a37:=Tryz.isAgg82
 z37:=Tryz.sizeOf82
 v37:=Tryz.zeroValue82
 t70:=Tryz.underlying97
 a70:=Tryz.isAgg97
 z70:=Tryz.sizeOf97
 v70:=Tryz.zeroValue97
 t72:=Tryz.underlying99
 a72:=Tryz.isAgg99
 z72:=Tryz.sizeOf99
 v72:=Tryz.zeroValue99
 t75:=Tryz.underlying102
 a75:=Tryz.isAgg102
 z75:=Tryz.sizeOf102
 v75:=Tryz.zeroValue102
 t76:=Tryz.underlying103
 a76:=Tryz.isAgg103
 z76:=Tryz.sizeOf103
 v76:=Tryz.zeroValue103
 t127:=Tryz.underlying116
 a127:=Tryz.isAgg116
 z127:=Tryz.sizeOf116
 v127:=Tryz.zeroValue116
 t164:=Tryz.underlying146
 a164:=Tryz.isAgg146
 z164:=Tryz.sizeOf146
 v164:=Tryz.zeroValue146}
def Tryz.lays121_ren:Go.Shelf.Ren:=⟨fun|121=>52|214=>89|n=>n,fun|4=>4|9=>9|n=>n,fun|n=>n⟩
theorem Tryz.lays121:Go.Proofs.Lays.n121 Tryz.prog Tryz.lays121_ren:={
 mixed:=by kernel_rfl
 f121:=Tryz.func52.trans (congrArg some (by kernel_rfl))
 f214:=Tryz.func89.trans (congrArg some (by kernel_rfl))
 t4:=Tryz.underlying4
 a4:=Tryz.isAgg4
 z4:=Tryz.sizeOf4
 v4:=Tryz.zeroValue4
 t9:=Tryz.underlying9
 a9:=Tryz.isAgg9
 z9:=Tryz.sizeOf9
 v9:=Tryz.zeroValue9}
def Tryz.lays102_ren:Go.Shelf.Ren:=⟨fun|102=>58|209=>95|207=>116|n=>n,fun|9=>9|4=>4|3=>3|n=>n,fun|n=>n⟩
theorem Tryz.lays102:Go.Proofs.Lays.n102 Tryz.prog Tryz.lays102_ren:={
 mixed:=by kernel_rfl
 f102:=Tryz.func58.trans (congrArg some (by kernel_rfl))
 f207:=Tryz.func116.trans (congrArg some (by kernel_rfl))
 f209:=Tryz.func95.trans (congrArg some (by kernel_rfl))
 t3:=Tryz.underlying3
 a3:=Tryz.isAgg3
 z3:=Tryz.sizeOf3
 v3:=Tryz.zeroValue3
 t4:=Tryz.underlying4
 a4:=Tryz.isAgg4
 z4:=Tryz.sizeOf4
 v4:=Tryz.zeroValue4
 t9:=Tryz.underlying9
 a9:=Tryz.isAgg9
 z9:=Tryz.sizeOf9
 v9:=Tryz.zeroValue9}
def Tryz.lays288_ren:Go.Shelf.Ren:=⟨fun|288=>120|283=>143|284=>144|285=>145|286=>146|129=>142|317=>163|318=>164|319=>165|320=>166|337=>175|338=>176|n=>n,fun|37=>82|53=>122|3=>3|4=>4|9=>9|171=>142|0=>0|173=>144|212=>159|51=>140|5=>5|20=>20|213=>160|46=>114|232=>179|233=>180|n=>n,fun|17=>0|18=>4|19=>5|n=>n⟩
theorem Tryz.lays288:Go.Proofs.LaysM.n288 Tryz.prog Tryz.lays288_ren:={
 mixed:=by kernel_rfl
 f129:=Tryz.func142.trans (congrArg some (by kernel_rfl))
 f283:=Tryz.func143.trans (congrArg some (by kernel_rfl))
 f284:=Tryz.func144.trans (congrArg some (by kernel_rfl))
 f285:=Tryz.func145.trans (congrArg some (by kernel_rfl))
 f286:=Tryz.func146.trans (congrArg some (by kernel_rfl))
 f288:=Tryz.func120.trans (congrArg some (by kernel_rfl))
 f317:=Tryz.func163.trans (congrArg some (by kernel_rfl))
 f318:=Tryz.func164.trans (congrArg some (by kernel_rfl))
 f319:=Tryz.func165.trans (congrArg some (by kernel_rfl))
 f320:=Tryz.func166.trans (congrArg some (by kernel_rfl))
 f337:=Tryz.func175.trans (congrArg some (by kernel_rfl))
 f338:=Tryz.func176.trans (congrArg some (by kernel_rfl))
 t0:=Tryz.underlying0
 a0:=Tryz.isAgg0
 z0:=Tryz.sizeOf0
 v0:=Tryz.zeroValue0
 t3:=Tryz.underlying3
 a3:=Tryz.isAgg3
 z3:=Tryz.sizeOf3
 v3:=Tryz.zeroValue3
 t4:=Tryz.underlying4
 a4:=Tryz.isAgg4
 z4:=Tryz.sizeOf4
 v4:=Tryz.zeroValue4
 t5:=Tryz.underlying5
 a5:=Tryz.isAgg5
 z5:=Tryz.sizeOf5
 v5:=Tryz.zeroValue5
 t9:=Tryz.underlying9
 a9:=Tryz.isAgg9
 z9:=Tryz.sizeOf9
 v9:=Tryz.zeroValue9
 t20:=Tryz.underlying20
 a20:=Tryz.isAgg20
 z20:=Tryz.sizeOf20
 v20:=Tryz.zeroValue20
 t37:=Tryz.underlying82
 a37:=Tryz.isAgg82
 z37:=Tryz.sizeOf82
 v37:=Tryz.zeroValue82
 t46:=Tryz.underlying114
 a46:=Tryz.isAgg114
 z46:=Tryz.sizeOf114
 v46:=Tryz.zeroValue114
 t51:=Tryz.underlying140
 a51:=Tryz.isAgg140
 z51:=Tryz.sizeOf140
 v51:=Tryz.zeroValue140
 t53:=Tryz.underlying122
 a53:=Tryz.isAgg122
 z53:=Tryz.sizeOf122
 v53:=Tryz.zeroValue122
 t171:=Tryz.underlying142
 a171:=Tryz.isAgg142
 z171:=Tryz.sizeOf142
 v171:=Tryz.zeroValue142
 t173:=Tryz.underlying144
 a173:=Tryz.isAgg144
 z173:=Tryz.sizeOf144
 v173:=Tryz.zeroValue144
 t212:=Tryz.underlying159
 a212:=Tryz.isAgg159
 z212:=Tryz.sizeOf159
 v212:=Tryz.zeroValue159
 t213:=Tryz.underlying160
 a213:=Tryz.isAgg160
 z213:=Tryz.sizeOf160
 t232:=Tryz.underlying179
 a232:=Tryz.isAgg179
 z232:=Tryz.sizeOf179
 v232:=Tryz.zeroValue179
 t233:=Tryz.underlying180
 a233:=Tryz.isAgg180
 z233:=Tryz.sizeOf180
 v233:=Tryz.zeroValue180
 g17:=by kernel_rfl
 g18:=by kernel_rfl
 g19:=by kernel_rfl
 i0:=by kernel_rfl
 i3:=by kernel_rfl
 i4:=by kernel_rfl
 i5:=by kernel_rfl
 i9:=by kernel_rfl
 i20:=by kernel_rfl
 i37:=by kernel_rfl
 i46:=by kernel_rfl
 i51:=by kernel_rfl
 i53:=by kernel_rfl
 i171:=by kernel_rfl
 i173:=by kernel_rfl
 i212:=by kernel_rfl
 i232:=by kernel_rfl
 i233:=by kernel_rfl
 m17:=by kernel_rfl
 m18:=by kernel_rfl
 m19:=by kernel_rfl}
def Tryz.lays172_ren:Go.Shelf.Ren:=⟨fun|172=>115|244=>150|245=>151|247=>167|279=>168|280=>169|281=>170|282=>171|287=>177|316=>178|171=>51|205=>179|321=>184|322=>185|243=>88|246=>111|283=>143|284=>144|285=>145|286=>146|129=>142|317=>163|318=>164|319=>165|320=>166|337=>175|338=>176|n=>n,fun|9=>9|3=>3|75=>102|76=>103|4=>4|5=>5|167=>161|37=>82|0=>0|85=>162|2=>2|168=>164|53=>122|175=>172|46=>114|210=>176|127=>116|145=>184|143=>182|21=>21|171=>142|173=>144|212=>159|51=>140|20=>20|213=>160|232=>179|233=>180|80=>105|n=>n,fun|15=>2|16=>3|17=>0|18=>4|19=>5|n=>n⟩
theorem Tryz.lays172:Go.Proofs.LaysC.n172 Tryz.prog Tryz.lays172_ren:={
 mixed:=by kernel_rfl
 f129:=Tryz.func142.trans (congrArg some (by kernel_rfl))
 f171:=Tryz.func51.trans (congrArg some (by kernel_rfl))
 f172:=Tryz.func115.trans (congrArg some (by kernel_rfl))
 f205:=Tryz.func179.trans (congrArg some (by kernel_rfl))
 f243:=Tryz.func88.trans (congrArg some (by kernel_rfl))
 f244:=Tryz.func150.trans (congrArg some (by kernel_rfl))
 f245:=Tryz.func151.trans (congrArg some (by kernel_rfl))
 f246:=Tryz.func111.trans (congrArg some (by kernel_rfl))
 f247:=Tryz.func167.trans (congrArg some (by kernel_rfl))
 f279:=Tryz.func168.trans (congrArg some (by kernel_rfl))
 f280:=Tryz.func169.trans (congrArg some (by kernel_rfl))
 f281:=Tryz.func170.trans (congrArg some (by kernel_rfl))
 f282:=Tryz.func171.trans (congrArg some (by kernel_rfl))
 f283:=Tryz.func143.trans (congrArg some (by kernel_rfl))
 f284:=Tryz.func144.trans (congrArg some (by kernel_rfl))
 f285:=Tryz.func145.trans (congrArg some (by kernel_rfl))
 f286:=Tryz.func146.trans (congrArg some (by kernel_rfl))
 f287:=Tryz.func177.trans (congrArg some (by kernel_rfl))
 f316:=Tryz.func178.trans (congrArg some (by kernel_rfl))
 f317:=Tryz.func163.trans (congrArg some (by kernel_rfl))
 f318:=Tryz.func164.trans (congrArg some (by kernel_rfl))
 f319:=Tryz.func165.trans (congrArg some (by kernel_rfl))
 f320:=Tryz.func166.trans (congrArg some (by kernel_rfl))
 f321:=Tryz.func184.trans (congrArg some (by kernel_rfl))
 f322:=Tryz.func185.trans (congrArg some (by kernel_rfl))
 f337:=Tryz.func175.trans (congrArg some (by kernel_rfl))
 f338:=Tryz.func176.trans (congrArg some (by kernel_rfl))
 t0:=Tryz.underlying0
 a0:=Tryz.isAgg0
 z0:=Tryz.sizeOf0
 v0:=Tryz.zeroValue0
 t2:=Tryz.underlying2
 a2:=Tryz.isAgg2
 z2:=Tryz.sizeOf2
 v2:=Tryz.zeroValue2
 t3:=Tryz.underlying3
 a3:=Tryz.isAgg3
 z3:=Tryz.sizeOf3
 v3:=Tryz.zeroValue3
 t4:=Tryz.underlying4
 a4:=Tryz.isAgg4
 z4:=Tryz.sizeOf4
 v4:=Tryz.zeroValue4
 t5:=Tryz.underlying5
 a5:=Tryz.isAgg5
 z5:=Tryz.sizeOf5
 v5:=Tryz.zeroValue5
 t9:=Tryz.underlying9
 a9:=Tryz.isAgg9
 z9:=Tryz.sizeOf9
 v9:=Tryz.zeroValue9
 t20:=Tryz.underlying20
 a20:=Tryz.isAgg20
 z20:=Tryz.sizeOf20
 v20:=Tryz.zeroValue20
 t21:=Tryz.underlying21
 a21:=Tryz.isAgg21
 z21:=Tryz.sizeOf21
 v21:=Tryz.zeroValue21
 t37:=Tryz.underlying82
 a37:=Tryz.isAgg82
 z37:=Tryz.sizeOf82
 v37:=Tryz.zeroValue82
 t46:=Tryz.underlying114
 a46:=Tryz.isAgg114
 z46:=Tryz.sizeOf114
 v46:=Tryz.zeroValue114
 t51:=Tryz.underlying140
 a51:=Tryz.isAgg140
 z51:=Tryz.sizeOf140
 v51:=Tryz.zeroValue140
 t53:=Tryz.underlying122
 a53:=Tryz.isAgg122
 z53:=Tryz.sizeOf122
 v53:=Tryz.zeroValue122
 t75:=Tryz.underlying102
 a75:=Tryz.isAgg102
 z75:=Tryz.sizeOf102
 v75:=Tryz.zeroValue102
 t76:=Tryz.underlying103
 a76:=Tryz.isAgg103
 z76:=Tryz.sizeOf103
 v76:=Tryz.zeroValue103
 t85:=Tryz.underlying162
 a85:=Tryz.isAgg162
 z85:=Tryz.sizeOf162
 v85:=Tryz.zeroValue162
 t127:=Tryz.underlying116
 a127:=Tryz.isAgg116
 z127:=Tryz.sizeOf116
 v127:=Tryz.zeroValue116
 t143:=Tryz.underlying182
 a143:=Tryz.isAgg182
 z143:=Tryz.sizeOf182
 v143:=Tryz.zeroValue182
 t145:=Tryz.underlying184
 a145:=Tryz.isAgg184
 z145:=Tryz.sizeOf184
 v145:=Tryz.zeroValue184
 t167:=Tryz.underlying161
 a167:=Tryz.isAgg161
 z167:=Tryz.sizeOf161
 v167:=Tryz.zeroValue161
 t168:=Tryz.underlying164
 a168:=Tryz.isAgg164
 z168:=Tryz.sizeOf164
 v168:=Tryz.zeroValue164
 t171:=Tryz.underlying142
 a171:=Tryz.isAgg142
 z171:=Tryz.sizeOf142
 v171:=Tryz.zeroValue142
 t173:=Tryz.underlying144
 a173:=Tryz.isAgg144
 z173:=Tryz.sizeOf144
 v173:=Tryz.zeroValue144
 t175:=Tryz.underlying172
 a175:=Tryz.isAgg172
 z175:=Tryz.sizeOf172
 v175:=Tryz.zeroValue172
 t210:=Tryz.underlying176
 a210:=Tryz.isAgg176
 z210:=Tryz.sizeOf176
 v210:=Tryz.zeroValue176
 t212:=Tryz.underlying159
 a212:=Tryz.isAgg159
 z212:=Tryz.sizeOf159
 v212:=Tryz.zeroValue159
 t213:=Tryz.underlying160
 a213:=Tryz.isAgg160
 z213:=Tryz.sizeOf160
 t232:=Tryz.underlying179
 a232:=Tryz.isAgg179
 z232:=Tryz.sizeOf179
 v232:=Tryz.zeroValue179
 t233:=Tryz.underlying180
 a233:=Tryz.isAgg180
 z233:=Tryz.sizeOf180
 v233:=Tryz.zeroValue180
 g15:=by kernel_rfl
 g16:=by kernel_rfl
 g17:=by kernel_rfl
 g18:=by kernel_rfl
 g19:=by kernel_rfl
 t80:=Tryz.underlying105
 a80:=Tryz.isAgg105
 z80:=Tryz.sizeOf105
 v80:=Tryz.zeroValue105
 i0:=by kernel_rfl
 i2:=by kernel_rfl
 i3:=by kernel_rfl
 i4:=by kernel_rfl
 i5:=by kernel_rfl
 i9:=by kernel_rfl
 i20:=by kernel_rfl
 i21:=by kernel_rfl
 i37:=by kernel_rfl
 i46:=by kernel_rfl
 i51:=by kernel_rfl
 i53:=by kernel_rfl
 i75:=by kernel_rfl
 i76:=by kernel_rfl
 i80:=by kernel_rfl
 i85:=by kernel_rfl
 i127:=by kernel_rfl
 i143:=by kernel_rfl
 i145:=by kernel_rfl
 i167:=by kernel_rfl
 i168:=by kernel_rfl
 i171:=by kernel_rfl
 i173:=by kernel_rfl
 i175:=by kernel_rfl
 i210:=by kernel_rfl
 i212:=by kernel_rfl
 i232:=by kernel_rfl
 i233:=by kernel_rfl
 m15:=by kernel_rfl
 m16:=by kernel_rfl
 m17:=by kernel_rfl
 m18:=by kernel_rfl
 m19:=by kernel_rfl
 c0:=by kernel_rfl
 c2:=by kernel_rfl
 c3:=by kernel_rfl
 c4:=by kernel_rfl
 c5:=by kernel_rfl
 c9:=by kernel_rfl
 c20:=by kernel_rfl
 c21:=by kernel_rfl
 c37:=by kernel_rfl
 c46:=by kernel_rfl
 c51:=by kernel_rfl
 c53:=by kernel_rfl
 c75:=by kernel_rfl
 c76:=by kernel_rfl
 c80:=by kernel_rfl
 c85:=by kernel_rfl
 c127:=by kernel_rfl
 c143:=by kernel_rfl
 c145:=by kernel_rfl
 c167:=by kernel_rfl
 c168:=by kernel_rfl
 c171:=by kernel_rfl
 c173:=by kernel_rfl
 c175:=by kernel_rfl
 c210:=by kernel_rfl
 c212:=by kernel_rfl
 c213:=by kernel_rfl
 c232:=by kernel_rfl
 c233:=by kernel_rfl}
def Tryz.lays171_ren:Go.Shelf.Ren:=⟨fun|171=>51|243=>88|246=>111|283=>143|284=>144|285=>145|286=>146|129=>142|317=>163|318=>164|319=>165|320=>166|337=>175|338=>176|n=>n,fun|3=>3|9=>9|2=>2|4=>4|171=>142|0=>0|53=>122|37=>82|5=>5|173=>144|212=>159|51=>140|20=>20|213=>160|46=>114|232=>179|233=>180|n=>n,fun|17=>0|18=>4|19=>5|n=>n⟩
theorem Tryz.lays171:Go.Proofs.LaysM.n171 Tryz.prog Tryz.lays171_ren:={
 mixed:=by kernel_rfl
 f129:=Tryz.func142.trans (congrArg some (by kernel_rfl))
 f171:=Tryz.func51.trans (congrArg some (by kernel_rfl))
 f243:=Tryz.func88.trans (congrArg some (by kernel_rfl))
 f246:=Tryz.func111.trans (congrArg some (by kernel_rfl))
 f283:=Tryz.func143.trans (congrArg some (by kernel_rfl))
 f284:=Tryz.func144.trans (congrArg some (by kernel_rfl))
 f285:=Tryz.func145.trans (congrArg some (by kernel_rfl))
 f286:=Tryz.func146.trans (congrArg some (by kernel_rfl))
 f317:=Tryz.func163.trans (congrArg some (by kernel_rfl))
 f318:=Tryz.func164.trans (congrArg some (by kernel_rfl))
 f319:=Tryz.func165.trans (congrArg some (by kernel_rfl))
 f320:=Tryz.func166.trans (congrArg some (by kernel_rfl))
 f337:=Tryz.func175.trans (congrArg some (by kernel_rfl))
 f338:=Tryz.func176.trans (congrArg some (by kernel_rfl))
 t0:=Tryz.underlying0
 a0:=Tryz.isAgg0
 z0:=Tryz.sizeOf0
 v0:=Tryz.zeroValue0
 t2:=Tryz.underlying2
 a2:=Tryz.isAgg2
 z2:=Tryz.sizeOf2
 v2:=Tryz.zeroValue2
 t3:=Tryz.underlying3
 a3:=Tryz.isAgg3
 z3:=Tryz.sizeOf3
 v3:=Tryz.zeroValue3
 t4:=Tryz.underlying4
 a4:=Tryz.isAgg4
 z4:=Tryz.sizeOf4
 v4:=Tryz.zeroValue4
 t5:=Tryz.underlying5
 a5:=Tryz.isAgg5
 z5:=Tryz.sizeOf5
 v5:=Tryz.zeroValue5
 t9:=Tryz.underlying9
 a9:=Tryz.isAgg9
 z9:=Tryz.sizeOf9
 v9:=Tryz.zeroValue9
 t20:=Tryz.underlying20
 a20:=Tryz.isAgg20
 z20:=Tryz.sizeOf20
 v20:=Tryz.zeroValue20
 t37:=Tryz.underlying82
 a37:=Tryz.isAgg82
 z37:=Tryz.sizeOf82
 v37:=Tryz.zeroValue82
 t46:=Tryz.underlying114
 a46:=Tryz.isAgg114
 z46:=Tryz.sizeOf114
 v46:=Tryz.zeroValue114
 t51:=Tryz.underlying140
 a51:=Tryz.isAgg140
 z51:=Tryz.sizeOf140
 v51:=Tryz.zeroValue140
 t53:=Tryz.underlying122
 a53:=Tryz.isAgg122
 z53:=Tryz.sizeOf122
 v53:=Tryz.zeroValue122
 t171:=Tryz.underlying142
 a171:=Tryz.isAgg142
 z171:=Tryz.sizeOf142
 v171:=Tryz.zeroValue142
 t173:=Tryz.underlying144
 a173:=Tryz.isAgg144
 z173:=Tryz.sizeOf144
 v173:=Tryz.zeroValue144
 t212:=Tryz.underlying159
 a212:=Tryz.isAgg159
 z212:=Tryz.sizeOf159
 v212:=Tryz.zeroValue159
 t213:=Tryz.underlying160
 a213:=Tryz.isAgg160
 z213:=Tryz.sizeOf160
 t232:=Tryz.underlying179
 a232:=Tryz.isAgg179
 z232:=Tryz.sizeOf179
 v232:=Tryz.zeroValue179
 t233:=Tryz.underlying180
 a233:=Tryz.isAgg180
 z233:=Tryz.sizeOf180
 v233:=Tryz.zeroValue180
 g17:=by kernel_rfl
 g18:=by kernel_rfl
 g19:=by kernel_rfl
 i0:=by kernel_rfl
 i2:=by kernel_rfl
 i3:=by kernel_rfl
 i4:=by kernel_rfl
 i5:=by kernel_rfl
 i9:=by kernel_rfl
 i20:=by kernel_rfl
 i37:=by kernel_rfl
 i46:=by kernel_rfl
 i51:=by kernel_rfl
 i53:=by kernel_rfl
 i171:=by kernel_rfl
 i173:=by kernel_rfl
 i212:=by kernel_rfl
 i232:=by kernel_rfl
 i233:=by kernel_rfl
 m17:=by kernel_rfl
 m18:=by kernel_rfl
 m19:=by kernel_rfl}
def Tryz.lays99_ren:Go.Shelf.Ren:=⟨fun|99=>114|206=>149|n=>n,fun|9=>9|4=>4|3=>3|n=>n,fun|n=>n⟩
theorem Tryz.lays99:Go.Proofs.Lays.n99 Tryz.prog Tryz.lays99_ren:={
 mixed:=by kernel_rfl
 f99:=Tryz.func114.trans (congrArg some (by kernel_rfl))
 f206:=Tryz.func149.trans (congrArg some (by kernel_rfl))
 t3:=Tryz.underlying3
 a3:=Tryz.isAgg3
 z3:=Tryz.sizeOf3
 v3:=Tryz.zeroValue3
 t4:=Tryz.underlying4
 a4:=Tryz.isAgg4
 z4:=Tryz.sizeOf4
 v4:=Tryz.zeroValue4
 t9:=Tryz.underlying9
 a9:=Tryz.isAgg9
 z9:=Tryz.sizeOf9
 v9:=Tryz.zeroValue9}
def Tryz.lays190_ren:Go.Shelf.Ren:=⟨fun|190=>85|125=>110|258=>109|128=>141|129=>142|302=>132|303=>133|304=>134|305=>135|306=>136|307=>137|308=>138|309=>139|310=>140|333=>157|329=>158|330=>159|334=>160|335=>161|336=>162|344=>174|n=>n,fun|31=>45|9=>9|3=>3|46=>114|0=>0|51=>140|53=>122|4=>4|183=>133|182=>132|131=>137|5=>5|218=>151|222=>155|228=>169|229=>170|n=>n,fun|n=>n⟩
theorem Tryz.lays190:Go.Proofs.Lays.n190 Tryz.prog Tryz.lays190_ren:={
 mixed:=by kernel_rfl
 f125:=Tryz.func110.trans (congrArg some (by kernel_rfl))
 f128:=Tryz.func141.trans (congrArg some (by kernel_rfl))
 f129:=Tryz.func142.trans (congrArg some (by kernel_rfl))
 f190:=Tryz.func85.trans (congrArg some (by kernel_rfl))
 f258:=Tryz.func109.trans (congrArg some (by kernel_rfl))
 f302:=Tryz.func132.trans (congrArg some (by kernel_rfl))
 f303:=Tryz.func133.trans (congrArg some (by kernel_rfl))
 f304:=Tryz.func134.trans (congrArg some (by kernel_rfl))
 f305:=Tryz.func135.trans (congrArg some (by kernel_rfl))
 f306:=Tryz.func136.trans (congrArg some (by kernel_rfl))
 f307:=Tryz.func137.trans (congrArg some (by kernel_rfl))
 f308:=Tryz.func138.trans (congrArg some (by kernel_rfl))
 f309:=Tryz.func139.trans (congrArg some (by kernel_rfl))
 f310:=Tryz.func140.trans (congrArg some (by kernel_rfl))
 f329:=Tryz.func158.trans (congrArg some (by kernel_rfl))
 f330:=Tryz.func159.trans (congrArg some (by kernel_rfl))
 f333:=Tryz.func157.trans (congrArg some (by kernel_rfl))
 f334:=Tryz.func160.trans (congrArg some (by kernel_rfl))
 f335:=Tryz.func161.trans (congrArg some (by kernel_rfl))
 f336:=Tryz.func162.trans (congrArg some (by kernel_rfl))
 f344:=Tryz.func174.trans (congrArg some (by kernel_rfl))
 t0:=Tryz.underlying0
 a0:=Tryz.isAgg0
 z0:=Tryz.sizeOf0
 v0:=Tryz.zeroValue0
 t3:=Tryz.underlying3
 a3:=Tryz.isAgg3
 z3:=Tryz.sizeOf3
 v3:=Tryz.zeroValue3
 t4:=Tryz.underlying4
 a4:=Tryz.isAgg4
 z4:=Tryz.sizeOf4
 v4:=Tryz.zeroValue4
 t5:=Tryz.underlying5
 a5:=Tryz.isAgg5
 z5:=Tryz.sizeOf5
 v5:=Tryz.zeroValue5
 t9:=Tryz.underlying9
 a9:=Tryz.isAgg9
 z9:=Tryz.sizeOf9
 v9:=Tryz.zeroValue9
 t31:=Tryz.underlying45
 a31:=Tryz.isAgg45
 z31:=Tryz.sizeOf45
 v31:=Tryz.zeroValue45
 t46:=Tryz.underlying114
 a46:=Tryz.isAgg114
 z46:=Tryz.sizeOf114
 v46:=Tryz.zeroValue114
 t51:=Tryz.underlying140
 a51:=Tryz.isAgg140
 z51:=Tryz.sizeOf140
 v51:=Tryz.zeroValue140
 t53:=Tryz.underlying122
 a53:=Tryz.isAgg122
 z53:=Tryz.sizeOf122
 v53:=Tryz.zeroValue122
 t131:=Tryz.underlying137
 a131:=Tryz.isAgg137
 z131:=Tryz.sizeOf137
 v131:=Tryz.zeroValue137
 t182:=Tryz.underlying132
 a182:=Tryz.isAgg132
 z182:=Tryz.sizeOf132
 v182:=Tryz.zeroValue132
 t183:=Tryz.underlying133
 a183:=Tryz.isAgg133
 z183:=Tryz.sizeOf133
 v183:=Tryz.zeroValue133
 t218:=Tryz.underlying151
 a218:=Tryz.isAgg151
 z218:=Tryz.sizeOf151
 v218:=Tryz.zeroValue151
 t222:=Tryz.underlying155
 a222:=Tryz.isAgg155
 z222:=Tryz.sizeOf155
 v222:=Tryz.zeroValue155
 t228:=Tryz.underlying169
 a228:=Tryz.isAgg169
 z228:=Tryz.sizeOf169
 v228:=Tryz.zeroValue169
 t229:=Tryz.underlying170
 a229:=Tryz.isAgg170
 z229:=Tryz.sizeOf170
 v229:=Tryz.zeroValue170}
end Go.Proofs.YtbfjgcjjaoaaaaaGreatDoor
namespace Go.Proofs.YtbfjgcjjaoaaaaaGreatDoor
open Go.Pl Go.RowKit
open Enc (enc dec is)
open EncL (encL decL isL)
set_option maxRecDepth 100000
theorem JZ:Zk Tryz.prog 114 (fun _:Str×Str×Unit=>true) (fun x:Str×Str×Unit=>x.2.1.s.isPrefixOf x.1.s):=Xb (by
  rintro⟨⟨s⟩,⟨p⟩,⟨⟩⟩ hps Φ w vs hL hΦ hv
  obtain⟨u,v,rfl,h1,h2⟩:=c8a hv
  rw[Qz h1,Qz h2]
  refine(Any.strings_HasPrefix Tryz.lays99 ⟨s.toArray⟩ ⟨p.toArray⟩ w).mono ?_
  rintro e w' ⟨rfl,rfl⟩
  exact⟨_,rfl,.bool _,.refl _ _⟩)
theorem c1z:Zk Tryz.prog 115 (fun x:Str×Unit=>decide (x.1.s.length<=1000000)) (fun x:Str×Unit=>YL x.1):=Xb (by
  rintro⟨⟨s⟩,⟨⟩⟩ hps Φ w vs hL hΦ hv
  have hs:s.length<=1000000:=by simpa using hps
  obtain⟨v,rfl,h1⟩:=c9h hv
  rw[Qz h1]
  have hsz:(⟨s.toArray⟩:ByteArray).size=s.length:=rfl
  cases h:Lib.atoiAll s
  ·rename_i n
   have e1:YL ⟨s⟩=(n,⟨false⟩):=by simp only[YL,h]
   rw[e1]
   refine(Any.strconv_Atoi_ok Tryz.lays172 ⟨s.toArray⟩ (by rw[hsz];omega) n h w).mono ?_
   rintro e w' ⟨rfl,hw⟩
   refine⟨_,rfl,.tup _ _ rfl ?_,?_⟩
   ·intro j v x hv hx
    match j with
    | 0=>cases hv;cases hx;exact .int _ _
    | 1=>cases hv;cases hx;exact .nili
    | j+2=>simp at hv
   ·rcases hw with rfl|⟨t,rfl⟩
    ·exact .refl _ _
    ·exact Bo _ _ 0 _
  ·skip
   have e1:YL ⟨s⟩=(0,⟨true⟩):=by simp only[YL,h]
   rw[e1]
   obtain⟨cs,hc,ev,he,hev⟩:=hL.syn
   refine(Any.strconv_Atoi_syntax Tryz.lays172 ⟨s.toArray⟩ (by rw[hsz];omega) h ev w (QY hΦ hc he) hev).mono ?_
   rintro e w' ⟨N,rfl,_,_,hb⟩
   refine⟨_,rfl,.tup _ _ rfl ?_,hb⟩
   intro j v x hv hx
   match j with
   | 0=>cases hv;cases hx;exact .int _ _
   | 1=>cases hv;cases hx;exact .ifc _ _
   | j+2=>simp at hv
  ·skip
   have e1:YL ⟨s⟩=(Lib.atoiSat s,⟨true⟩):=by simp only[YL,h]
   rw[e1]
   obtain⟨cs,hc,ev,he,hev⟩:=hL.rng
   refine(Any.strconv_Atoi_range Tryz.lays172 ⟨s.toArray⟩ (by rw[hsz];omega) h ev w (QY hΦ hc he) hev).mono ?_
   rintro e w' ⟨N,rfl,_,_,hb⟩
   refine⟨_,rfl,.tup _ _ rfl ?_,hb⟩
   intro j v x hv hx
   match j with
   | 0=>cases hv;cases hx;exact .int _ _
   | 1=>cases hv;cases hx;exact .ifc _ _
   | j+2=>simp at hv)
theorem QL:Zk Tryz.prog 51 (fun x:Int×Unit=>decide (-9223372036854775808<=x.1)&&decide (x.1<=9223372036854775807)) (fun x:Int×Unit=>Zn x.1):=Xb (by
  rintro⟨n,⟨⟩⟩ hps Φ w vs hL hΦ hv
  obtain⟨v,rfl,h1⟩:=c9h hv
  have h1:RP Φ v (.int .i64 n):=h1
  rw[d8h h1]
  have hn : -9223372036854775808<=n∧n<=9223372036854775807:=by simpa using hps
  have hg:=hL.pow
  obtain⟨T,fz,hh⟩:=hΦ _ _ hg
  refine(Any.strconv_Itoa Tryz.lays171 n hn.1 hn.2 w ?_).mono ?_
  ·unfold Lib.TabIs World.var?
   rw[show Program.globalNamed Tryz.prog "internal/strconv.uint64pow10" = some 0 by kernel_rfl]
   simp only[Option.bind_some,hh]
   rfl
  ·rintro e w' ⟨rfl,k,os,rfl⟩
   refine⟨_,rfl,.str _,?_⟩
   exact⟨rfl,rfl,rfl,by show w.heap.size<=(w.heap++os).size;simp,fun j hj=>by show(w.heap++os)[j]? = _;rw[Array.getElem?_append_left hj]⟩)
end Go.Proofs.YtbfjgcjjaoaaaaaGreatDoor
namespace Go.Proofs.YtbfjgcjjaoaaaaaGreatDoor
open Go.Pl Go.RowKit
open Enc (enc dec is)
open EncL (encL decL isL)
set_option maxRecDepth 100000
theorem d2g: ∀ s:List UInt8,((s.dropWhile fun c=>c != 46)=[]->Lib.index s [46] = -1) ∧
  ∀ (c:UInt8) (r:List UInt8),(s.dropWhile fun c=>c != 46)=c::r->Lib.index s [46]=((s.takeWhile fun c=>c != 46).length:Nat)∧s.drop ((s.takeWhile fun c=>c != 46).length+1)=r∧s.take (s.takeWhile fun c=>c != 46).length=s.takeWhile fun c=>c != 46
 | []=>⟨fun _=>rfl,fun _ _ h=>by cases h⟩
 | b::l=>by
  obtain⟨h1,h2⟩:=d2g l
  by_cases hb:b=46
  ·subst hb
   refine⟨fun h=>by simp at h,fun c r h=> ?_⟩
   have h:(46:UInt8)::l=c::r:=by simpa using h
   cases h
   exact⟨rfl,rfl,rfl⟩
  ·have hbn:(b != 46)=true:=by simpa using hb
   have hp:([46]:List UInt8).isPrefixOf (b::l)=false:=by simp[List.isPrefixOf];exact fun e=>hb e.symm
   have ei:Lib.index (b::l) [46]=if Lib.index l [46] == -1 then -1 else Lib.index l [46]+1:=by rw[Lib.index,hp];rfl
   rw[List.dropWhile_cons,if_pos hbn,List.takeWhile_cons,if_pos hbn]
   refine⟨fun h=>by rw[ei,h1 h];rfl,fun c r h=> ?_⟩
   obtain⟨k1,k2,k3⟩:=h2 c r h
   rw[ei,k1]
   refine⟨?_,?_,?_⟩
   ·rw[if_neg (by simp),List.length_cons];rfl
   ·rw[List.length_cons,List.drop_succ_cons];exact k2
   ·rw[List.length_cons,List.take_succ_cons,k3]
theorem c9s(s:List UInt8):Lib.cut s [46]=((UT ⟨s⟩).a.s,(UT ⟨s⟩).b.s,(UT ⟨s⟩).c):=by
 obtain⟨h1,h2⟩:=d2g s
 unfold Lib.cut UT
 cases hd:s.dropWhile fun c=>c != 46 with
 | nil=>
  rw[h1 hd]
  rfl
 | cons c r=>
  obtain⟨k1,k2,k3⟩:=h2 c r hd
  rw[k1,if_pos (by omega),Int.toNat_natCast,k3]
  show(_,s.drop ((s.takeWhile fun c=>c != 46).length+1),true)=_
  rw[k2]
theorem c2f:Zk Tryz.prog 131 (fun x:Str×Str×Unit=>decide (x.1.s.length<=1048576)&&decide (x.2.1.s=[46])) (fun x:Str×Str×Unit=>UT x.1):=Xb (by
  rintro⟨⟨s⟩,⟨p⟩,⟨⟩⟩ hps Φ w vs hL hΦ hv
  simp only[Bool.and_eq_true,decide_eq_true_eq]at hps
  obtain⟨hs,hp⟩:=hps
  have hp:p=[46]:=hp
  subst hp
  obtain⟨u,v,rfl,h1,h2⟩:=c8a hv
  rw[Qz h1,Qz h2]
  obtain⟨cs,m,hc,hm⟩:=hL.mx
  have hsz:(⟨s.toArray⟩:ByteArray).size=s.length:=rfl
  refine(Any.strings_Cut Tryz.lays145 ⟨s.toArray⟩ ⟨#[46]⟩ m w (by rw[hsz];have hs:s.length<=1048576:=hs;omega) (QY hΦ hc hm)).mono ?_
  rintro e w' ⟨rfl,k,rfl⟩
  refine⟨_,rfl,.tup _ _ rfl ?_,?_⟩
  ·rw[show(⟨s.toArray⟩:ByteArray).data.toList=s from rfl,show(⟨#[46]⟩:ByteArray).data.toList=[46]from rfl,c9s]
   intro j v x hv hx
   match j with
   | 0=>cases hv;cases hx;exact .str _
   | 1=>cases hv;cases hx;exact .str _
   | 2=>cases hv;cases hx;exact .bool _
   | j+3=>simp at hv
  ·exact⟨rfl,rfl,rfl,Nat.le_refl _,fun _ _=>rfl⟩)
theorem b2w:Lib.formatBool true=[116,114,117,101]:=by decide
theorem a3f:Lib.formatBool false=[102,97,108,115,101]:=by decide
theorem d6s:Zk Tryz.prog 52 (fun _:Bool×Unit=>true) (fun x:Bool×Unit=>d1a x.1):=Xb (by
  rintro⟨b,⟨⟩⟩ _ Φ w vs hL hΦ hv
  obtain⟨v,rfl,h1⟩:=c9h hv
  have h1:RP Φ v (.bool b):=h1
  cases h1
  refine(Any.strconv_FormatBool Tryz.lays121 b w).mono ?_
  rintro e w' ⟨rfl,rfl⟩
  refine⟨_,rfl,?_,.refl _ _⟩
  cases b
  ·rw[a3f];exact .str _
  ·rw[b2w];exact .str _)
theorem Sw:Zk Tryz.prog 58 (fun x:Str×Str×Unit=>decide (x.1.s.length<=1000000)) (fun x:Str×Str×Unit=>(⟨Lib.trimSuffix x.1.s x.2.1.s⟩:Str)):=Xb (by
  rintro⟨⟨s⟩,⟨p⟩,⟨⟩⟩ hps Φ w vs hL hΦ hv
  have hs:s.length<=1000000:=by simpa using hps
  obtain⟨u,v,rfl,h1,h2⟩:=c8a hv
  rw[Qz h1,Qz h2]
  have hsz:(⟨s.toArray⟩:ByteArray).size=s.length:=rfl
  refine(Any.strings_TrimSuffix Tryz.lays102 ⟨s.toArray⟩ ⟨p.toArray⟩ w (by rw[hsz];omega)).mono ?_
  rintro e w' ⟨rfl,rfl⟩
  exact⟨_,rfl,.str _,.refl _ _⟩)
theorem d2h:Builder.Extra Tryz.prog Tryz.lays156_ren where
 sizeBuilder:=by kernel_rfl
 liesBuilder:=by kernel_rfl
 t5:=Tryz.lays288.t5
 a5:=Tryz.lays288.a5
 z5:=Tryz.lays288.z5
 v5:=Tryz.lays288.v5
 infoByte:=by kernel_rfl
 cellsByte:=by kernel_rfl
 sizeByte:=by kernel_rfl
 neB5:=by decide
theorem Hl: ∀ l:List (List UInt8),Lib.join l [44,32]=Ya l
 | []=>rfl
 | [s]=>by simp[Lib.join,List.intercalate,Ya]
 | s::t::r=>by
  have h:=Hl (t::r)
  rw[Ya]
  ·rw[<- h]
   simp[Lib.join,List.intercalate]
  ·simp
theorem a9o(l:List Str):flat (l.map (enc:Str->PV))=l.map fun s:Str=>PV.str s.s:=by
 induction l with
 | nil=>rfl
 | cons a l ih=>rw[List.map_cons,List.map_cons,<- ih];rfl
theorem b5d:Zk Tryz.prog 55 (fun x:List Str×Str×Unit=>XQ x.1&&decide (x.2.1.s=[44,32])) (fun x:List Str×Str×Unit=>Yh x.1):=Xb (by
  rintro⟨l,⟨p⟩,⟨⟩⟩ hps Φ w vs hL hΦ hv
  simp only[Bool.and_eq_true,decide_eq_true_eq]at hps
  obtain⟨hj,hp⟩:=hps
  have hp:p=[44,32]:=hp
  subst hp
  have hj:XQ l=true:=hj
  unfold XQ at hj
  simp only[Bool.and_eq_true,decide_eq_true_eq]at hj
  obtain⟨u,v,rfl,h1,h2⟩:=c8a hv
  have h1:RP Φ u (.sl 1 false (l.map enc)):=h1
  rw[Qz h2]
  have em:(l.map fun s:Str=>(⟨s.s.toArray⟩:ByteArray)).map (·.data.toList)=l.map (·.s):=by rw[List.map_map];rfl
  by_cases hl:l=[]
  ·subst hl
   have : ∃ a c,u = .slice a 0 c:=by
    cases h1 with
    | sl0 a c _ _ h=>exact⟨a,c,rfl⟩
    | sl b off cs c _ _ _ uu hb hc htt hs hu hr=>exact⟨_,_,rfl⟩
   obtain⟨a,c,rfl⟩:=this
   refine(Any.strings_Join_none Tryz.lays156 d2h a c ⟨#[44,32]⟩ w).mono ?_
   rintro e w' ⟨rfl,rfl⟩
   exact⟨_,rfl,.str _,.refl _ _⟩
  ·obtain⟨b,off,c,cs,us,rfl,hb,hc,_,h3,h4,h5,h6⟩:=h1.sl_cells hΦ (by simpa using hl)
   obtain⟨T,fz,hh⟩:=hΦ b cs hb
   have hblt:b<w.heap.size:=(Array.getElem?_eq_some_iff.1 hh).1
   have ef:=a9o l
   rw[ef]at h5
   have hcells : ∀ (j:Nat) x,(l.map fun s:Str=>(⟨s.s.toArray⟩:ByteArray))[j]? = some x->w.cell? ⟨b,off+j,none⟩=some (.string x):=fun j x hx=>by
    rw[List.getElem?_map,Option.map_eq_some_iff]at hx
    obtain⟨s,hs,rfl⟩:=hx
    have hj2:j<us.length:=by rw[h5.1,List.length_map];exact(List.getElem?_eq_some_iff.1 hs).1
    have hu:=List.getElem?_eq_getElem hj2
    have hr:=h5.2 j _ _ hu (by rw[List.getElem?_map,hs];rfl)
    rw[h4 j _ hu,Qz hr]
   have hlen:(l.map (enc:Str->PV)).length=(l.map fun s:Str=>(⟨s.s.toArray⟩:ByteArray)).length:=by rw[List.length_map,List.length_map]
   rw[hlen]at hc ⊢
   refine(Any.strings_Join Tryz.lays156 d2h b off c (l.map fun s:Str=>(⟨s.s.toArray⟩:ByteArray)) ⟨#[44,32]⟩ w hcells hblt (by rw[List.length_map];omega) hc (by
    rw[em]
    show(Lib.join (l.map (·.s)) [44,32]).length<=_
    rw[Hl];omega)).mono ?_
   rintro e w' ⟨rfl,hbl⟩
   refine⟨_,rfl,?_,hbl⟩
   rw[em]
   show RP Φ (.string ⟨(Lib.join (l.map (·.s)) [44,32]).toArray⟩) _
   rw[Hl]
   exact .str _)
theorem TS:XM Tryz.prog 120 (H6 5) Mx:=d5a (ρ:=Tryz.lays288_ren) Tryz.lays288 fun Φ w hL hΦ=>by
 have hg:=hL.pow
 obtain⟨T,fz,hh⟩:=hΦ _ _ hg
 unfold Lib.TabIs World.var?
 rw[show Program.globalNamed Tryz.prog "internal/strconv.uint64pow10" = some 0 by kernel_rfl]
 simp only[Option.bind_some,hh]
 rfl
end Go.Proofs.YtbfjgcjjaoaaaaaGreatDoor
namespace Go.Proofs.YtbfjgcjjaoaaaaaGreatDoor
open Go.Shelf
def Tryz.keysA_ren:Go.Shelf.Ren:=⟨fun|7=>48|10=>86|n=>n,fun|23=>64|26=>9|3=>4|28=>69|0=>0|27=>68|33=>54|4=>4|n=>n,fun|n=>n⟩
theorem Tryz.keysA:Go.Proofs.SlLaysZ.n7 Tryz.prog Tryz.keysA_ren:={
 mixed:=by kernel_rfl
 f7:=⟨Tryz.f48.name,by decide,Tryz.func48.trans (congrArg some (by kernel_rfl))⟩
 f10:=⟨Tryz.f86.name,by decide,Tryz.func86.trans (congrArg some (by kernel_rfl))⟩
 t0:=Tryz.underlying0
 a0:=Tryz.isAgg0
 z0:=Tryz.sizeOf0
 v0:=Tryz.zeroValue0
 t4:=Tryz.underlying4
 a4:=Tryz.isAgg4
 z4:=Tryz.sizeOf4
 v4:=Tryz.zeroValue4
 t23:=Tryz.underlying64
 a23:=Tryz.isAgg64
 z23:=Tryz.sizeOf64
 v23:=Tryz.zeroValue64
 t26:=Tryz.underlying9
 a26:=Tryz.isAgg9
 z26:=Tryz.sizeOf9
 v26:=Tryz.zeroValue9
 t27:=Tryz.underlying68
 a27:=Tryz.isAgg68
 z27:=Tryz.sizeOf68
 v27:=Tryz.zeroValue68
 t28:=Tryz.underlying69
 a28:=Tryz.isAgg69
 z28:=Tryz.sizeOf69
 v28:=Tryz.zeroValue69
 t33:=Tryz.underlying54
 a33:=Tryz.isAgg54
 z33:=Tryz.sizeOf54
 v33:=Tryz.zeroValue54}
def Tryz.sortedA_ren:Go.Shelf.Ren:=⟨fun|6=>47|8=>84|9=>85|11=>108|13=>110|12=>109|23=>141|24=>142|14=>132|15=>133|16=>134|17=>135|18=>136|19=>137|20=>138|21=>139|22=>140|25=>157|26=>158|27=>159|28=>160|29=>161|30=>162|31=>174|n=>n,fun|26=>9|28=>69|24=>45|0=>0|3=>3|37=>114|48=>140|50=>122|4=>4|40=>133|39=>132|45=>137|5=>5|9=>9|51=>151|55=>155|57=>169|58=>170|33=>54|n=>n,fun|n=>n⟩
theorem Tryz.sortedA:Go.Proofs.SlLaysZ.n6 Tryz.prog Tryz.sortedA_ren:={
 mixed:=by kernel_rfl
 f6:=⟨Tryz.f47.name,by decide,Tryz.func47.trans (congrArg some (by kernel_rfl))⟩
 f8:=⟨Tryz.f84.name,by decide,Tryz.func84.trans (congrArg some (by kernel_rfl))⟩
 f11:=⟨Tryz.f108.name,by decide,Tryz.func108.trans (congrArg some (by kernel_rfl))⟩
 t0:=Tryz.underlying0
 a0:=Tryz.isAgg0
 z0:=Tryz.sizeOf0
 v0:=Tryz.zeroValue0
 t24:=Tryz.underlying45
 a24:=Tryz.isAgg45
 z24:=Tryz.sizeOf45
 v24:=Tryz.zeroValue45
 t26:=Tryz.underlying9
 a26:=Tryz.isAgg9
 z26:=Tryz.sizeOf9
 v26:=Tryz.zeroValue9
 t28:=Tryz.underlying69
 a28:=Tryz.isAgg69
 z28:=Tryz.sizeOf69
 v28:=Tryz.zeroValue69
 i26:=by kernel_rfl}
end Go.Proofs.YtbfjgcjjaoaaaaaGreatDoor
namespace Go.Proofs.YtbfjgcjjaoaaaaaGreatDoor
open Go.RowKit Go.Shelf Go.Pl Go.Proofs
theorem c7y(m:Nat):AnyZ.SortsIn Tryz.prog Tryz.sortedA_ren Fence.wide m:=
  ⟨fun blk off cap ss W hH hblk hsz=>callsIn_wide.2 (Any.slices_Sort_string Tryz.lays190 blk off cap ss W hH hblk hsz),
   fun p cap W=>callsIn_wide.2 (Any.slices_Sort_string_none Tryz.lays190 p cap W)⟩
theorem c9e:SortedC Tryz.prog 47 86 9 where
 str:=by kernel_rfl
 run:=by
  intro Bm b nn D0 w hBm hm hown hmax hbytes
  have hseq:SeqGives Fence.wide 2 Tryz.prog 86 #[.pointer (some ⟨Bm,0,none⟩)] encStr (fun ss=>ss.Perm (strKeys D0)) (Maps.size D0) w:=
   AnyZ.keys_gives (ρ:=Tryz.keysA_ren) {Tryz.keysA with} Fence.wide _ trivial rfl (by omega) Bm b nn D0 _ hBm hm hown
  exact callsIn_wide.1 (AnyZ.sorted_in Tryz.sortedA Fence.wide 5 trivial trivial trivial trivial rfl (by omega) (c7y _) (enters_of Tryz.func85 (by kernel_rfl) rfl) 86 #[.pointer (some ⟨Bm,0,none⟩)] trivial (enters_of Tryz.func86 (by kernel_rfl) rfl) _ _ hmax hbytes _ hseq)
theorem e0z:XM Tryz.prog 47 (QA 86) Kr:=EW (E9 c9e)
end Go.Proofs.YtbfjgcjjaoaaaaaGreatDoor
namespace Go.Proofs.YtbfjgcjjaoaaaaaGreatDoor
open Go.RowKit Go.Lib Go.Pl
theorem c1h:(Tryz.prog.info? 3).map (fun i=>(i.zero,i.size,i.bytes))=some (some (.int .i64 0),1,8):=by kernel_rfl
theorem Dx:Tryz.prog.underlying 22=some (.slice 3):=by kernel_rfl
theorem a1v(n c:Nat)(w:World):Calls Tryz.prog 119 #[.slice none n c] w fun e w'=>e = .returned (.slice none 0 0)∧w'=w:=by
 have q22 : ∀ (w:World) (a:Option Addr) (n c n' c':Nat),(binOp .eql 22 (.slice a n c) (.slice none n' c')).run Tryz.prog w = .ok (.bool a.isNone) w:=fun w a n c n' c'=>Lib.run_eql_slice_nil w _ _ a n c n' c' Dx
 go_enter Tryz.func119,Tryz.ntmps119
 go_wp2
 go_ret
 exact⟨rfl,rfl⟩
theorem OB(a:Addr)(c:Nat)(w:World):Calls Tryz.prog 119 #[.slice (some a) 0 c] w fun e w'=>(∃ g,e = .returned (.slice (some g) 0 0))∧Below w.heap.size w w':=by
 have q22 : ∀ (w:World) (a:Option Addr) (n c n' c':Nat),(binOp .eql 22 (.slice a n c) (.slice none n' c')).run Tryz.prog w = .ok (.bool a.isNone) w:=fun w a n c n' c'=>Lib.run_eql_slice_nil w _ _ a n c n' c' Dx
 obtain⟨i0,hi,hz0,hz1,hz2⟩:=info_parts c1h
 go_enter Tryz.func119,Tryz.ntmps119
 go_wp2_with (at_builtin;refine Lib.wpList_append_run _ rfl _ _ _ _ rfl _ _ rfl rfl _ _ (Ve Dx hi (Nat.le_refl _)) ?_)
 go_ret
 exact⟨⟨_,rfl⟩,(Below.refl _ w).alloc (Nat.le_refl _) _⟩
theorem Fu(a:Addr)(n c:Nat)(news:List Value)(w:World)(h0:0<n)(hn:n<=2000000)(hl:news.length=n*1)(hc : ∀ j u,news[j]? = some u->w.cell? (a.add j)=some u)(h1 : ∀ u∈news,u.oneCell'=true):
  Calls Tryz.prog 119 #[.slice (some a) n c] w fun e w'=> ∃ v',e = .returned v'∧w'.ownsRow w.heap.size 3 1 v' n news∧Below w.heap.size w w':=by
 have q22 : ∀ (w:World) (a:Option Addr) (n c n' c':Nat),(binOp .eql 22 (.slice a n c) (.slice none n' c')).run Tryz.prog w = .ok (.bool a.isNone) w:=fun w a n c n' c'=>Lib.run_eql_slice_nil w _ _ a n c n' c' Dx
 obtain⟨i0,hi,hz0,hz1,hz2⟩:=info_parts c1h
 have A:Aside (∀ j u,news[j]? = some u->w.cell? (a.add j)=some u):=hc
 clear hc
 go_enter Tryz.func119,Tryz.ntmps119
 go_wp2_with (at_builtin;refine wpList_append_own _ rfl _ _ 22 rfl w.heap.size 3 i0 (.int .i64 0) 1 8 Dx hi hz0 hz1 hz2 rfl (by decide) _ _ _ rfl (World.ownsRow_made w #[] 0 (Nat.le_refl _) (Nat.zero_le _) rfl) a n c news rfl ?qc1 ?qc2 ?qc3 ?qc4 ?qc5 ?qc6 ?_)
 case qc1=>exact hl
 case qc2=>intro j u hj;exact Lib.cell?_alloc_some _ (A.out j u hj)
 case qc3=>exact h1
 case qc4=>unfold maxLen;omega
 case qc5=>omega
 case qc6=>simp
 intro v' w1 hown hgrow hnil
 go_wp2
 go_ret
 refine⟨v',rfl,by simpa using hown,?_⟩
 exact((Below.refl _ w).alloc (Nat.le_refl _) _).grown hgrow (by simp) (by intro k hk;simp[Value.ownBlock]at hk;omega)
theorem d7s:CloneC Tryz.prog 119 3 1:=⟨a1v,OB,Fu⟩
end Go.Proofs.YtbfjgcjjaoaaaaaGreatDoor
namespace Go.Proofs.YtbfjgcjjaoaaaaaGreatDoor
open Go.Pl
open Enc (enc dec is)
open EncL (encL decL isL)
set_option maxRecDepth 100000
theorem ZQ:Tryz.prog.follows .mixedOrders=true:=by kernel_rfl
theorem b1p:Zk Tryz.prog 115 (fun x:Str×Unit=>decide (x.1.s.length<=281474976710656)) (fun x:Str×Unit=>YL x.1):=Xb (by
  rintro⟨⟨s⟩,⟨⟩⟩ hps Φ w vs hL hΦ hv
  have hs:s.length<=281474976710656:=by simpa using hps
  obtain⟨v,rfl,h1⟩:=c9h hv
  rw[Qz h1]
  have hsz:(⟨s.toArray⟩:ByteArray).size=s.length:=rfl
  cases h:Lib.atoiAll s
  ·rename_i n
   have e1:YL ⟨s⟩=(n,⟨false⟩):=by simp only[YL,h]
   rw[e1]
   refine(Any.strconv_Atoi_ok Tryz.lays172 ⟨s.toArray⟩ (by rw[hsz];omega) n h w).mono ?_
   rintro e w' ⟨rfl,hw⟩
   refine⟨_,rfl,.tup _ _ rfl ?_,?_⟩
   ·intro j v x hv hx
    match j with
    | 0=>cases hv;cases hx;exact .int _ _
    | 1=>cases hv;cases hx;exact .nili
    | j+2=>simp at hv
   ·rcases hw with rfl|⟨t,rfl⟩
    ·exact .refl _ _
    ·exact Bo _ _ 0 _
  ·skip
   have e1:YL ⟨s⟩=(0,⟨true⟩):=by simp only[YL,h]
   rw[e1]
   obtain⟨cs,hc,ev,he,hev⟩:=hL.syn
   refine(Any.strconv_Atoi_syntax Tryz.lays172 ⟨s.toArray⟩ (by rw[hsz];omega) h ev w (QY hΦ hc he) hev).mono ?_
   rintro e w' ⟨N,rfl,_,_,hb⟩
   refine⟨_,rfl,.tup _ _ rfl ?_,hb⟩
   intro j v x hv hx
   match j with
   | 0=>cases hv;cases hx;exact .int _ _
   | 1=>cases hv;cases hx;exact .ifc _ _
   | j+2=>simp at hv
  ·skip
   have e1:YL ⟨s⟩=(Lib.atoiSat s,⟨true⟩):=by simp only[YL,h]
   rw[e1]
   obtain⟨cs,hc,ev,he,hev⟩:=hL.rng
   refine(Any.strconv_Atoi_range Tryz.lays172 ⟨s.toArray⟩ (by rw[hsz];omega) h ev w (QY hΦ hc he) hev).mono ?_
   rintro e w' ⟨N,rfl,_,_,hb⟩
   refine⟨_,rfl,.tup _ _ rfl ?_,hb⟩
   intro j v x hv hx
   match j with
   | 0=>cases hv;cases hx;exact .int _ _
   | 1=>cases hv;cases hx;exact .ifc _ _
   | j+2=>simp at hv)
theorem Pw:Zk Tryz.prog 94 (fun _:Int×Unit=>true) (fun x:Int×Unit=>Yp x.1):=Zk.of (T:=c2t) (ic:=a4z) (rs:=a4f) Zg ZQ Tryz.func94 (by kernel_rfl) (by kernel_rfl) (by kernel_rfl) c8i
theorem Ow:Zk Tryz.prog 93 (fun x:Str×Unit=>decide (x.1.s.length<=1000000)) (fun x:Str×Unit=>Yq x.1):=Zk.of (T:=Vf) (ic:=XT) (rs:=We) (Zc (Yi Tryz.func114 (by kernel_rfl) JZ) (Zc (Yi Tryz.func115 (by kernel_rfl) c1z) (Zc (Yi Tryz.func51 (by kernel_rfl) QL) Zg))) ZQ Tryz.func93 (by kernel_rfl) (by kernel_rfl) (by kernel_rfl) b1i
theorem Om:Zk Tryz.prog 93 (fun x:Str×Unit=>decide (x.1.s.length<=281474976710656)) (fun x:Str×Unit=>Yq x.1):=Zk.of (T:=Wj) (ic:=XC) (rs:=XB) (Zc (Yi Tryz.func114 (by kernel_rfl) JZ) (Zc (Yi Tryz.func115 (by kernel_rfl) b1p) (Zc (Yi Tryz.func51 (by kernel_rfl) QL) Zg))) ZQ Tryz.func93 (by kernel_rfl) (by kernel_rfl) (by kernel_rfl) a4h
theorem Me:Zk Tryz.prog 56 (fun x:Lin×Unit=>Ws x.1) (fun x:Lin×Unit=>Zp x.1):=Zk.of (T:=VQ) (ic:=WK) (rs:=WH) (Zc (Yi Tryz.func94 (by kernel_rfl) Pw) (Zc (Yi Tryz.func93 (by kernel_rfl) Ow) Zg)) ZQ Tryz.func56 (by kernel_rfl) (by kernel_rfl) (by kernel_rfl) EY
theorem NJ:Zk Tryz.prog 56 (fun x:Lin×Unit=>Qy x.1) (fun x:Lin×Unit=>Zp x.1):=Zk.of (T:=UJ) (ic:=WU) (rs:=VW) (Zc (Yi Tryz.func94 (by kernel_rfl) Pw) (Zc (Yi Tryz.func93 (by kernel_rfl) Om) Zg)) ZQ Tryz.func56 (by kernel_rfl) (by kernel_rfl) (by kernel_rfl) a9q
theorem c7s:XM Tryz.prog 57 Wz GX:=J4 (T:=a3w) (ic:=Nt) (rs:=MX) (Zc (Yi Tryz.func51 (by kernel_rfl) QL) (Zc (Yi Tryz.func58 (by kernel_rfl) Sw) Zg)) ZQ Tryz.func57 (by kernel_rfl) (by kernel_rfl) (by kernel_rfl) b7g
theorem BK:Zk Tryz.prog 29 (fun x:Lin×Unit=>Ws x.1) (fun x:Lin×Unit=>(⟨ZY x.1⟩:Str)):=Zk.of (T:=Uw) (ic:=Ua) (rs:=Vu) (Zc (Yi Tryz.func56 (by kernel_rfl) Me) (Zc (Yi Tryz.func57 (by kernel_rfl) c7s) Zg)) ZQ Tryz.func29 (by kernel_rfl) (by kernel_rfl) (by kernel_rfl) a0t
theorem Dl:Zk Tryz.prog 81 (fun _:UInt8×Unit=>true) (fun x:UInt8×Unit=>lowB x.1):=Zk.of (T:=Rp) (ic:=Bf) (rs:=CL) Zg ZQ Tryz.func81 (by kernel_rfl) (by kernel_rfl) (by kernel_rfl) a1k
theorem ML:Zk Tryz.prog 107 (fun _:UInt8×Unit=>true) (fun x:UInt8×Unit=>digB x.1):=Zk.of (T:=Rv) (ic:=Cf) (rs:=Ce) Zg ZQ Tryz.func107 (by kernel_rfl) (by kernel_rfl) (by kernel_rfl) a1j
theorem a2k:Zk Tryz.prog 82 (fun x:Str×Bool×Unit=>decide (x.1.s.length<=1048576)) (fun x:Str×Bool×Unit=>SV x.1 x.2.1):=Zk.of (T:=KQ) (ic:=UN) (rs:=UR) (Zc (Yi Tryz.func107 (by kernel_rfl) ML) (Zc (Yi Tryz.func81 (by kernel_rfl) Dl) Zg)) ZQ Tryz.func82 (by kernel_rfl) (by kernel_rfl) (by kernel_rfl) b7o
theorem BV:Zk Tryz.prog 83 (fun _:Str×Unit=>true) (fun x:Str×Unit=>Qk.contains x.1.s):=Zk.of (T:=a3g) (ic:=AX) (rs:=La) Zg ZQ Tryz.func83 (by kernel_rfl) (by kernel_rfl) (by kernel_rfl) b7q
theorem Um:Zk Tryz.prog 46 (fun x:Str×Unit=>decide (x.1.s.length<=1048576)) (fun x:Str×Unit=>ZN x.1.s):=Zk.of (T:=N9) (ic:=TC) (rs:=Sr) (Zc (Yi Tryz.func81 (by kernel_rfl) Dl) (Zc (Yi Tryz.func82 (by kernel_rfl) a2k) (Zc (Yi Tryz.func83 (by kernel_rfl) BV) Zg))) ZQ Tryz.func46 (by kernel_rfl) (by kernel_rfl) (by kernel_rfl) b1u
theorem R8:Zk Tryz.prog 106 (fun x:Str×Unit=>decide (x.1.s.length<=1048576)) (fun x:Str×Unit=>fullI x.1.s):=Zk.of (T:=BZ) (ic:=Tv) (rs:=GD) (Zc (Yi Tryz.func131 (by kernel_rfl) c2f) (Zc (Yi Tryz.func46 (by kernel_rfl) Um) Zg)) ZQ Tryz.func106 (by kernel_rfl) (by kernel_rfl) (by kernel_rfl) b2t
theorem K4:Zk Tryz.prog 79 (fun x:Str×Unit=>decide (x.1.s.length<=1048576)) (fun x:Str×Unit=>JV x.1.s):=Zk.of (T:=a4t) (ic:=MK) (rs:=Nk) (Zc (Yi Tryz.func46 (by kernel_rfl) Um) (Zc (Yi Tryz.func106 (by kernel_rfl) R8) Zg)) ZQ Tryz.func79 (by kernel_rfl) (by kernel_rfl) (by kernel_rfl) c1r
theorem RD:Zk Tryz.prog 77 (fun x:Tm×Unit=>tW x.1) (fun x:Tm×Unit=>Uv x.1.nd):=Zk.of (T:=LJ) (ic:=Li) (rs:=AZ) Zg ZQ Tryz.func77 (by kernel_rfl) (by kernel_rfl) (by kernel_rfl) c2q
theorem R6:Zk Tryz.prog 103 (fun x:Lin×Unit=>Qy x.1) (fun x:Lin×Unit=> !(Zp x.1)):=Zk.of (T:=a3k) (ic:=Fb) (rs:=M7) (Zc (Yi Tryz.func56 (by kernel_rfl) NJ) Zg) ZQ Tryz.func103 (by kernel_rfl) (by kernel_rfl) (by kernel_rfl) c2x
theorem d1c:Zk Tryz.prog 129 (fun x:List Lin×FnV 103×Unit=>decide (x.1.length<=1048576)&&x.1.all Qy) (fun x:List Lin×FnV 103×Unit=>XO (fun l:Lin=> !(Zp l)) x.1):=Zk.of (T:=Re) (ic:=He) (rs:=Gl) (Zc (Yi Tryz.func103 (by kernel_rfl) R6) Zg) ZQ Tryz.func129 (by kernel_rfl) (by kernel_rfl) (by kernel_rfl) d1f
theorem c9w:Zk Tryz.prog 102 (fun x:List Lin×FnV 103×Unit=>decide (x.1.length<=1048576)&&x.1.all Qy) (fun x:List Lin×FnV 103×Unit=>x.1.any fun l:Lin=> !(Zp l)):=Zk.of (T:=b5r) (ic:=a4m) (rs:=a5b) (Zc (Yi Tryz.func129 (by kernel_rfl) d1c) Zg) ZQ Tryz.func102 (by kernel_rfl) (by kernel_rfl) (by kernel_rfl) d1r
theorem Dc:Zk Tryz.prog 76 (fun x:Tm×Int×Int×Unit=>tW x.1) (fun x:Tm×Int×Int×Unit=>YF x.1.nd x.2.1 x.2.2.1):=Zk.of (T:=T9) (ic:=CV) (rs:=CY) (Zc (Yi Tryz.func102 (by kernel_rfl) c9w) Zg) ZQ Tryz.func76 (by kernel_rfl) (by kernel_rfl) (by kernel_rfl) a2z
theorem NZ:Zk Tryz.prog 105 (fun _:Int×Unit=>true) (fun x:Int×Unit=>YB x.1):=Zk.of (T:=a3d) (ic:=Ml) (rs:=NG) Zg ZQ Tryz.func105 (by kernel_rfl) (by kernel_rfl) (by kernel_rfl) b4v
theorem c9r:Zk Tryz.prog 130 (fun x:List Int×FnV 105×Unit=>decide (x.1.length<=1048576)) (fun x:List Int×FnV 105×Unit=>XO YB x.1):=Zk.of (T:=Rc) (ic:=Je) (rs:=H8) (Zc (Yi Tryz.func105 (by kernel_rfl) NZ) Zg) ZQ Tryz.func130 (by kernel_rfl) (by kernel_rfl) (by kernel_rfl) c6d
theorem c9q:Zk Tryz.prog 104 (fun x:List Int×FnV 105×Unit=>decide (x.1.length<=1048576)) (fun x:List Int×FnV 105×Unit=>x.1.any YB):=Zk.of (T:=c0x) (ic:=ME) (rs:=a5g) (Zc (Yi Tryz.func130 (by kernel_rfl) c9r) Zg) ZQ Tryz.func104 (by kernel_rfl) (by kernel_rfl) (by kernel_rfl) c7g
theorem FM:Zk Tryz.prog 78 (fun x:Tm×Unit=>tW x.1) (fun x:Tm×Unit=>XK x.1.nd x.1.ks.length):=Zk.of (T:=Ac) (ic:=Tz) (rs:=De) (Zc (Yi Tryz.func79 (by kernel_rfl) K4) (Zc (Yi Tryz.func76 (by kernel_rfl) Dc) (Zc (Yi Tryz.func104 (by kernel_rfl) c9q) Zg))) ZQ Tryz.func78 (by kernel_rfl) (by kernel_rfl) (by kernel_rfl) b0j
theorem b6r:XY Tryz.prog 172 YE JO:=JI (T:=UX) (ic:=VK) (rs:=VI) Zg ZQ Tryz.func172 (by kernel_rfl) (by kernel_rfl) (by kernel_rfl) b2z
theorem OL:XY Tryz.prog 152 YE UO:=JI (T:=H7) (ic:=Jc) (rs:=Jn) (Zc (Yi Tryz.func172 (by kernel_rfl) b6r) Zg) ZQ Tryz.func152 (by kernel_rfl) (by kernel_rfl) (by kernel_rfl) ND
theorem c8d:XY Tryz.prog 117 QG Y7:=JI (T:=Wp) (ic:=Xo) (rs:=Xp) (Zc (Yi Tryz.func152 (by kernel_rfl) OL) Zg) ZQ Tryz.func117 (by kernel_rfl) (by kernel_rfl) (by kernel_rfl) c0f
theorem b4n:Zk Tryz.prog 117 (fun _:List Int×Unit=>true) (fun x:List Int×Unit=>Y2 x.1):=Zk.ofPure c8d fun⟨l,_⟩ h=>⟨by show(Zv l).all PV.isNum=true;simp,by show Zi _ (.tup [.int .i64 (Y2 ((Zv l).map PV.asInt)).1,.int .i64 (Y2 ((Zv l).map PV.asInt)).2]);rw[Xl];exact Zo (x:=Y2 l) rfl⟩
theorem b1r:Zk Tryz.prog 119 (fun x:List Int×Unit=>decide (x.1.length<=2000000)) (fun x:List Int×Unit=>x.1):=a3u (α:=Int) (by decide) (b1b d7s (by decide))
theorem Le:Zk Tryz.prog 154 (fun _:Str×Int×Unit=>true) (fun x:Str×Int×Unit=>X4 x.1 x.2.1):=Zk.of (T:=c4z) (ic:=a4e) (rs:=a4g) Zg ZQ Tryz.func154 (by kernel_rfl) (by kernel_rfl) (by kernel_rfl) c5l
theorem d5o:XM Tryz.prog 153 Ak Lf:=J4 (T:=c1c) (ic:=a3c) (rs:=a2l) (Zc (Yi Tryz.func154 (by kernel_rfl) Le) Zg) ZQ Tryz.func153 (by kernel_rfl) (by kernel_rfl) (by kernel_rfl) c7r
theorem d8a:XM Tryz.prog 130 VF AL:=J4 (T:=TG) (ic:=Gq) (rs:=Hr) (Zc (Yi Tryz.func153 (by kernel_rfl) d5o) Zg) ZQ Tryz.func130 (by kernel_rfl) (by kernel_rfl) (by kernel_rfl) c6j
theorem d4e:XM Tryz.prog 104 VF Nr:=J4 (T:=c0y) (ic:=a3e) (rs:=a0n) (Zc (Yi Tryz.func130 (by kernel_rfl) d8a) Zg) ZQ Tryz.func104 (by kernel_rfl) (by kernel_rfl) (by kernel_rfl) c7x
theorem O1:Zk Tryz.prog 118 (fun x:Str×List Int×Unit=>decide (x.2.1.length<=2000000)) (fun x:Str×List Int×Unit=>x.2.1.all (X4 x.1)):=Zk.of (T:=J9) (ic:=Jd) (rs:=Jb) (Zc (Yi Tryz.func104 (by kernel_rfl) d4e) Zg) ZQ Tryz.func118 (by kernel_rfl) (by kernel_rfl) (by kernel_rfl) Nu
theorem b3i:Zk Tryz.prog 96 (fun x:Str×List Int×List Int×Unit=>decide (x.2.1.length<=2000000)&&decide (x.2.2.1.length<=2000000)) (fun x:Str×List Int×List Int×Unit=>KD x.1 x.2.1 x.2.2.1):=Zk.of (T:=a4v) (ic:=NN) (rs:=Lc) (Zc (Yi Tryz.func117 (by kernel_rfl) b4n) (Zc (Yi Tryz.func118 (by kernel_rfl) O1) (Zc (Yi Tryz.func119 (by kernel_rfl) b1r) Zg))) ZQ Tryz.func96 (by kernel_rfl) (by kernel_rfl) (by kernel_rfl) b8x
theorem DX:Zk Tryz.prog 59 (fun x:Arr×Unit=>WQ x.1) (fun x:Arr×Unit=>X8 x.1):=Zk.of (T:=b3t) (ic:=a1u) (rs:=a4y) (Zc (Yi Tryz.func96 (by kernel_rfl) b3i) Zg) ZQ Tryz.func59 (by kernel_rfl) (by kernel_rfl) (by kernel_rfl) c6s
theorem Eu:Zk Tryz.prog 43 (fun x:Tm×Unit=>tW x.1) (fun x:Tm×Unit=>Jp x.1):=Zk.of (T:=Ad) (ic:=Rn) (rs:=DD) (Zc (Yi Tryz.func46 (by kernel_rfl) Um) (Zc (Yi Tryz.func76 (by kernel_rfl) Dc) (Zc (Yi Tryz.func77 (by kernel_rfl) RD) (Zc (Yi Tryz.func59 (by kernel_rfl) DX) (Zc (Yi Tryz.func78 (by kernel_rfl) FM) (Zc (Yi Tryz.func79 (by kernel_rfl) K4) Zg)))))) ZQ Tryz.func43 (by kernel_rfl) (by kernel_rfl) (by kernel_rfl) a9g
theorem c4k:XM Tryz.prog 42 VR (Qn 74):=J4 (T:=a1r) (ic:=NT) (rs:=Mw) Zg ZQ Tryz.func42 (by kernel_rfl) (by kernel_rfl) (by kernel_rfl) c3h
theorem a8j{cd:Code}(h:DW Tryz.prog RN Tryz.f19 0=some cd):Kz Tryz.prog cd=some (.t 7,[8,9],TN,Tq):=by
 have:(DW Tryz.prog RN Tryz.f19 0).bind (Kz Tryz.prog)=some (.t 7,[8,9],TN,Tq):=by kernel_rfl
 rw[h]at this
 exact this
theorem c6c(hT:YW Tryz.prog J2): ∀ (B:Nat) (c:Ctx),c.w0.heap.size=B->(∀ i m,0<=i->c.μ0 i m=none)->c5q (Ci B 4 hT ZQ) (fun n cd=>DW Tryz.prog RN Tryz.f19 n=some cd) tvE c:=by
 rintro B c hB hk n cd hcd st a w q hr ⟨rfl,hE⟩
 exact Nf hT ZQ FC (fun x=>by obtain⟨t,l⟩:=x;rfl) (a8j hcd) hB hk hr hE
theorem a6r:YW Tryz.prog J2:=(Zc (Yi Tryz.func42 (by kernel_rfl) c4k) (Zc (Yi Tryz.func43 (by kernel_rfl) Eu) Zg))
theorem Mf:Zk Tryz.prog 19 (fun x:Tm×Unit=>tW x.1) (fun x:Tm×Unit=>Y4 x.1):=Zk.ofM (T:=J2) (ic:=CZ) (rs:=Hz) (E:=tvE) (sel:=RN) a6r ZQ Tryz.func19 (by kernel_rfl) (by kernel_rfl) (by kernel_rfl) (c6c a6r) c9p
theorem d8r:XM Tryz.prog 48 JU (G9 86):=J4 (T:=b8o) (ic:=a4i) (rs:=a0f) Zg ZQ Tryz.func48 (by kernel_rfl) (by kernel_rfl) (by kernel_rfl) d0c
theorem a8i{cd:Code}(h:DW Tryz.prog RN Tryz.f21 0=some cd):Kz Tryz.prog cd=some (.t 11,[12,13],Tg,Vk):=by
 have:(DW Tryz.prog RN Tryz.f21 0).bind (Kz Tryz.prog)=some (.t 11,[12,13],Tg,Vk):=by kernel_rfl
 rw[h]at this
 exact this
theorem d0n(hT:YW Tryz.prog D6): ∀ (B:Nat) (c:Ctx),c.w0.heap.size=B->(∀ i m,0<=i->c.μ0 i m=none)->c5q (Ci B 4 hT ZQ) (fun n cd=>DW Tryz.prog RN Tryz.f21 n=some cd) tdE c:=by
 rintro B c hB hk n cd hcd st a w q hr ⟨rfl,hE⟩
 exact Nf hT ZQ FC (fun x=>by obtain⟨t,l⟩:=x;rfl) (a8i hcd) hB hk hr hE
theorem a6h:YW Tryz.prog D6:=(Zc (Yi Tryz.func42 (by kernel_rfl) c4k) (Zc (Yi Tryz.func48 (by kernel_rfl) d8r) (Zc (Yi Tryz.func47 (by kernel_rfl) e0z) Zg)))
theorem EM:Zk Tryz.prog 21 (fun x:Tm×Unit=>tW x.1) (fun x:Tm×Unit=>V6 x.1):=Zk.ofM (T:=D6) (ic:=TD) (rs:=Bc) (E:=tdE) (sel:=RN) a6h ZQ Tryz.func21 (by kernel_rfl) (by kernel_rfl) (by kernel_rfl) (d0n a6h) c8w
theorem a0i:Zk Tryz.prog 45 (fun x:Str×Unit=>decide (x.1.s.length<=1048576)) (fun x:Str×Unit=> !(ZN x.1.s)):=Zk.of (T:=a3j) (ic:=L9) (rs:=MO) (Zc (Yi Tryz.func46 (by kernel_rfl) Um) Zg) ZQ Tryz.func45 (by kernel_rfl) (by kernel_rfl) (by kernel_rfl) c1x
theorem d0h:Zk Tryz.prog 80 (fun x:List Str×FnV 45×Unit=>UE x.1) (fun x:List Str×FnV 45×Unit=>XO (fun s:Str=> !(ZN s.s)) x.1):=Zk.of (T:=Rk) (ic:=Gs) (rs:=Gh) (Zc (Yi Tryz.func45 (by kernel_rfl) a0i) Zg) ZQ Tryz.func80 (by kernel_rfl) (by kernel_rfl) (by kernel_rfl) c9a
theorem c7v:Zk Tryz.prog 44 (fun x:List Str×FnV 45×Unit=>UE x.1) (fun x:List Str×FnV 45×Unit=>x.1.any fun s:Str=> !(ZN s.s)):=Zk.of (T:=b4u) (ic:=a2s) (rs:=a0o) (Zc (Yi Tryz.func80 (by kernel_rfl) d0h) Zg) ZQ Tryz.func44 (by kernel_rfl) (by kernel_rfl) (by kernel_rfl) d0t
theorem MP:Zk Tryz.prog 20 (fun x:List Str×Unit=>UE x.1) (fun x:List Str×Unit=>x.1.all fun s:Str=>ZN s.s):=Zk.of (T:=TT) (ic:=Bg) (rs:=CO) (Zc (Yi Tryz.func44 (by kernel_rfl) c7v) Zg) ZQ Tryz.func20 (by kernel_rfl) (by kernel_rfl) (by kernel_rfl) a4p
theorem Ct:Zk Tryz.prog 14 (fun x:Tm×Unit=>tW x.1) (fun x:Tm×Unit=>Y3 x.1):=Zk.of (T:=GY) (ic:=CS) (rs:=JN) (Zc (Yi Tryz.func19 (by kernel_rfl) Mf) (Zc (Yi Tryz.func21 (by kernel_rfl) EM) (Zc (Yi Tryz.func20 (by kernel_rfl) MP) Zg))) ZQ Tryz.func14 (by kernel_rfl) (by kernel_rfl) (by kernel_rfl) a0v
theorem TH:Zk Tryz.prog 15 (fun _:Str×Unit=>true) (fun x:Str×Unit=>Tk x.1):=Zk.of (T:=a2m) (ic:=Mr) (rs:=Ll) Zg ZQ Tryz.func15 (by kernel_rfl) (by kernel_rfl) (by kernel_rfl) c0m
theorem b6e:XY Tryz.prog 87 Az Am:=JI (T:=a4c) (ic:=MS) (rs:=Ny) Zg ZQ Tryz.func87 (by kernel_rfl) (by kernel_rfl) (by kernel_rfl) fun ps h=>c5x (b4a ps h)
theorem c6w:Zk Tryz.prog 49 (fun _:Str×Unit=>true) (fun x:Str×Unit=>KS x.1):=Zk.of (T:=Z4) (ic:=ZK) (rs:=ZJ) (Zc (Yi Tryz.func87 (by kernel_rfl) b6e) Zg) ZQ Tryz.func49 (by kernel_rfl) (by kernel_rfl) (by kernel_rfl) b5v
theorem c8v:Zk Tryz.prog 50 (fun _:Str×Bool×Unit=>true) (fun x:Str×Bool×Unit=>YJ x.1 x.2.1):=Zk.of (T:=ZG) (ic:=Zx) (rs:=Zw) (Zc (Yi Tryz.func87 (by kernel_rfl) b6e) Zg) ZQ Tryz.func50 (by kernel_rfl) (by kernel_rfl) (by kernel_rfl) b7f
theorem P6:Zk Tryz.prog 22 (fun x:Tm×Unit=>tW x.1) (fun x:Tm×Unit=>Q7 x.1):=Zk.of (T:=a7j) (ic:=a3a) (rs:=Lv) (Zc (Yi Tryz.func49 (by kernel_rfl) c6w) Zg) ZQ Tryz.func22 (by kernel_rfl) (by kernel_rfl) (by kernel_rfl) c7j
theorem Nz:Zk Tryz.prog 24 (fun x:Tm×Unit=>tW x.1) (fun x:Tm×Unit=>YV x.1):=Zk.of (T:=NA) (ic:=LZ) (rs:=Aa) (Zc (Yi Tryz.func22 (by kernel_rfl) P6) (Zc (Yi Tryz.func50 (by kernel_rfl) c8v) Zg)) ZQ Tryz.func24 (by kernel_rfl) (by kernel_rfl) (by kernel_rfl) c0d
theorem Uk:Zk Tryz.prog 28 (fun x:List Str×Unit=>XQ x.1) (fun x:List Str×Unit=>Yh x.1):=Zk.of (T:=M4) (ic:=TQ) (rs:=TM) (Zc (Yi Tryz.func55 (by kernel_rfl) b5d) Zg) ZQ Tryz.func28 (by kernel_rfl) (by kernel_rfl) (by kernel_rfl) b0f
theorem c7a:Zk Tryz.prog 53 (fun x:List Lin×FnV 29×Unit=>decide (x.1.length<=1048576)&&x.1.all Zp) (fun x:List Lin×FnV 29×Unit=>Yh (x.1.map Yz)):=Zk.of (T:=Gb) (ic:=KU) (rs:=KA) (Zc (Yi Tryz.func29 (by kernel_rfl) BK) (Zc (Yi Tryz.func28 (by kernel_rfl) Uk) Zg)) ZQ Tryz.func53 (by kernel_rfl) (by kernel_rfl) (by kernel_rfl) b7d
theorem c6p:Zk Tryz.prog 54 (fun x:List Int×FnV 51×Unit=>decide (x.1.length<=1048576)&&Xw x.1) (fun x:List Int×FnV 51×Unit=>Yh (x.1.map Zn)):=Zk.of (T:=Ha) (ic:=KT) (rs:=Q6) (Zc (Yi Tryz.func51 (by kernel_rfl) QL) (Zc (Yi Tryz.func28 (by kernel_rfl) Uk) Zg)) ZQ Tryz.func54 (by kernel_rfl) (by kernel_rfl) (by kernel_rfl) c3v
theorem a2t:Zk Tryz.prog 25 (fun x:Tm×Unit=>Uv x.1.nd) (fun x:Tm×Unit=>Ea x.1.nd):=Zk.of (T:=L6) (ic:=NC) (rs:=AO) (Zc (Yi Tryz.func51 (by kernel_rfl) QL) (Zc (Yi Tryz.func52 (by kernel_rfl) d6s) Zg)) ZQ Tryz.func25 (by kernel_rfl) (by kernel_rfl) (by kernel_rfl) c4e
theorem R7:XM Tryz.prog 97 (UC 5) Cq:=J4 (T:=b6z) (ic:=a3m) (rs:=a4l) (Zc (Yi Tryz.func120 (by kernel_rfl) TS) Zg) ZQ Tryz.func97 (by kernel_rfl) (by kernel_rfl) (by kernel_rfl) c6m
theorem NS:XM Tryz.prog 61 (UC 5) Cq:=J4 (T:=c1b) (ic:=ER) (rs:=a3b) (Zc (Yi Tryz.func97 (by kernel_rfl) R7) Zg) ZQ Tryz.func61 (by kernel_rfl) (by kernel_rfl) (by kernel_rfl) c5i
theorem d7p:XM Tryz.prog 60 (KX 5) Fg:=J4 (T:=b8h) (ic:=a0b) (rs:=EZ) (Zc (Yi Tryz.func61 (by kernel_rfl) NS) Zg) ZQ Tryz.func60 (by kernel_rfl) (by kernel_rfl) (by kernel_rfl) c7i
theorem Lr:Zk Tryz.prog 30 (fun x:Arr×Unit=>WQ x.1&&X8 x.1) (fun x:Arr×Unit=>Q9 x.1):=Zk.of (T:=XU) (ic:=Xd) (rs:=Xh) (Zc (Yi Tryz.func59 (by kernel_rfl) DX) (Zc (Yi Tryz.func60 (by kernel_rfl) d7p) Zg)) ZQ Tryz.func30 (by kernel_rfl) (by kernel_rfl) (by kernel_rfl) a0d
theorem a9f{N:Nat}(hN:Zk Tryz.prog 16 (fun x:Tm×Unit=>(tW x.1&&ZU x.1)&&decide (ZM x.1<N)) (fun x:Tm×Unit=>Zq x.1)):XM Tryz.prog 23 (Xq N) LU:=J4 (T:=a0q N) (ic:=M8) (rs:=Lt) (Zc (Yi Tryz.func16 (by kernel_rfl) hN) Zg) ZQ Tryz.func23 (by kernel_rfl) (by kernel_rfl) (by kernel_rfl) (b7h N)
theorem PR{N:Nat}(hN:Zk Tryz.prog 16 (fun x:Tm×Unit=>(tW x.1&&ZU x.1)&&decide (ZM x.1<N)) (fun x:Tm×Unit=>Zq x.1)):Zk Tryz.prog 27 (fun x:List Tm×FnV 16×Unit=>(Ca x.1&&YP x.1)&&decide (ZW x.1<N)) (fun x:List Tm×FnV 16×Unit=>Yh (x.1.map Zq)):=Zk.of (T:=Ga N) (ic:=Q5) (rs:=Kk) (Zc (Yi Tryz.func16 (by kernel_rfl) hN) (Zc (Yi Tryz.func28 (by kernel_rfl) Uk) Zg)) ZQ Tryz.func27 (by kernel_rfl) (by kernel_rfl) (by kernel_rfl) (c4t N)
theorem EU{N:Nat}(hN:Zk Tryz.prog 16 (fun x:Tm×Unit=>(tW x.1&&ZU x.1)&&decide (ZM x.1<N)) (fun x:Tm×Unit=>Zq x.1)):Zk Tryz.prog 26 (fun x:Tm×Unit=>(tW x.1&&ZU x.1&&decide (x.1.nd.kind=6))&&decide (ZW x.1.ks<N)) (fun x:Tm×Unit=>Qf x.1):=Zk.of (T:=Ay N) (ic:=SB) (rs:=GN) (Zc (Yi Tryz.func53 (by kernel_rfl) c7a) (Zc (Yi Tryz.func51 (by kernel_rfl) QL) (Zc (Yi Tryz.func54 (by kernel_rfl) c6p) (Zc (Yi Tryz.func27 (by kernel_rfl) (PR hN)) Zg)))) ZQ Tryz.func26 (by kernel_rfl) (by kernel_rfl) (by kernel_rfl) (b0g N)
theorem OA:Zk Tryz.prog 16 (fun x:Tm×Unit=>tW x.1&&ZU x.1) (fun x:Tm×Unit=>Zq x.1):=Zk.rec (fun a=>ZM a.1) fun N hN=>Zk.of (T:=Ab N) (ic:=TB) (rs:=GV) (Zc (Yi Tryz.func22 (by kernel_rfl) P6) (Zc (Yi Tryz.func24 (by kernel_rfl) Nz) (Zc (Yi Tryz.func23 (by kernel_rfl) (a9f hN)) (Zc (Yi Tryz.func16 (by kernel_rfl) hN) (Zc (Yi Tryz.func25 (by kernel_rfl) a2t) (Zc (Yi Tryz.func26 (by kernel_rfl) (EU hN)) (Zc (Yi Tryz.func27 (by kernel_rfl) (PR hN)) (Zc (Yi Tryz.func28 (by kernel_rfl) Uk) (Zc (Yi Tryz.func29 (by kernel_rfl) BK) (Zc (Yi Tryz.func30 (by kernel_rfl) Lr) Zg)))))))))) ZQ Tryz.func16 (by kernel_rfl) (by kernel_rfl) (by kernel_rfl) (a8o N)
theorem Bw:Zk Tryz.prog 7 (fun x:Tm×Unit=>tW x.1) (fun x:Tm×Unit=>Wt x.1):=Zk.of (T:=AB) (ic:=Sy) (rs:=Dt) (Zc (Yi Tryz.func14 (by kernel_rfl) Ct) (Zc (Yi Tryz.func15 (by kernel_rfl) TH) (Zc (Yi Tryz.func16 (by kernel_rfl) OA) Zg))) ZQ Tryz.func7 (by kernel_rfl) (by kernel_rfl) (by kernel_rfl) a9m
theorem DJ:Zk Tryz.prog 11 (fun x:Tm×Unit=>tW x.1) (fun x:Tm×Unit=>(ZM x.1:Int)):=Zk.rec (fun a=>ZM a.1) fun N hN=>Zk.of (T:=H9 N) (ic:=Ky) (rs:=KO) (Zc (Yi Tryz.func11 (by kernel_rfl) hN) Zg) ZQ Tryz.func11 (by kernel_rfl) (by kernel_rfl) (by kernel_rfl) (b6b N)
theorem BI:Zk Tryz.prog 12 (fun x:Tm×Unit=>tW x.1) (fun x:Tm×Unit=>(Yl x.1:Int)):=Zk.rec (fun a=>ZM a.1) fun N hN=>Zk.of (T:=KN N) (ic:=Qi) (rs:=Qe) (Zc (Yi Tryz.func12 (by kernel_rfl) hN) Zg) ZQ Tryz.func12 (by kernel_rfl) (by kernel_rfl) (by kernel_rfl) (b0b N)
theorem K5:Zk Tryz.prog 13 (fun x:Tm×Unit=>tW x.1) (fun x:Tm×Unit=>Y6 x.1):=Zk.rec (fun a=>ZM a.1) fun N hN=>Zk.of (T:=Hf N) (ic:=Q4) (rs:=Ke) (Zc (Yi Tryz.func13 (by kernel_rfl) hN) Zg) ZQ Tryz.func13 (by kernel_rfl) (by kernel_rfl) (by kernel_rfl) (c1q N)
theorem a3r:Zk Tryz.prog 6 (fun x:Tm×Int×Unit=>tW x.1) (fun x:Tm×Int×Unit=>Dr x.1 x.2.1):=Zk.of (T:=V9) (ic:=Vg) (rs:=WL) (Zc (Yi Tryz.func11 (by kernel_rfl) DJ) (Zc (Yi Tryz.func12 (by kernel_rfl) BI) (Zc (Yi Tryz.func13 (by kernel_rfl) K5) Zg))) ZQ Tryz.func6 (by kernel_rfl) (by kernel_rfl) (by kernel_rfl) c1i
theorem c2j:Zk Tryz.prog 10 (fun _:Str×Unit=>true) (fun x:Str×Unit=>vT x.1):=Zk.of (T:=d5d) (ic:=b7s) (rs:=b8w) Zg ZQ Tryz.func10 (by kernel_rfl) (by kernel_rfl) (by kernel_rfl) d3w
theorem FT:Zk Tryz.prog 9 (fun _:Str×List Tm×Unit=>true) (fun x:Str×List Tm×Unit=>cT x.1 x.2.1):=Zk.of (T:=Mi) (ic:=SY) (rs:=Rt) Zg ZQ Tryz.func9 (by kernel_rfl) (by kernel_rfl) (by kernel_rfl) b1y
theorem Nl:Zk Tryz.prog 5 (fun _:Unit=>true) (fun _:Unit=>true):=Zk.of (T:=SH) (ic:=Cw) (rs:=Be) (Zc (Yi Tryz.func10 (by kernel_rfl) c2j) (Zc (Yi Tryz.func9 (by kernel_rfl) FT) (Zc (Yi Tryz.func7 (by kernel_rfl) Bw) Zg))) ZQ Tryz.func5 (by kernel_rfl) (by kernel_rfl) (by kernel_rfl) a4j
theorem LH:Zk Tryz.prog 124 (fun _:UInt8×Unit=>true) (fun x:UInt8×Unit=>digB x.1):=Zk.of (T:=a0u) (ic:=D5) (rs:=MV) Zg ZQ Tryz.func124 (by kernel_rfl) (by kernel_rfl) (by kernel_rfl) b7x
theorem RJ:Zk Tryz.prog 125 (fun _:UInt8×Unit=>true) (fun x:UInt8×Unit=>lowB x.1):=Zk.of (T:=a1h) (ic:=Dm) (rs:=Ms) Zg ZQ Tryz.func125 (by kernel_rfl) (by kernel_rfl) (by kernel_rfl) c2g
theorem NQ:Zk Tryz.prog 99 (fun _:Int×Unit=>true) (fun x:Int×Unit=>Yp x.1):=Zk.of (T:=Sj) (ic:=Jw) (rs:=Cx) Zg ZQ Tryz.func99 (by kernel_rfl) (by kernel_rfl) (by kernel_rfl) a2p
theorem FJ:Zk Tryz.prog 100 (fun _:Str×Unit=>true) (fun x:Str×Unit=>Yq x.1):=Zk.of (T:=Va) (ic:=Wi) (rs:=Wl) (Zc (Yi Tryz.func124 (by kernel_rfl) LH) (Zc (Yi Tryz.func125 (by kernel_rfl) RJ) Zg)) ZQ Tryz.func100 (by kernel_rfl) (by kernel_rfl) (by kernel_rfl) a9u
theorem GK:Zk Tryz.prog 70 (fun x:Lin×Unit=>X3 x.1) (fun x:Lin×Unit=>Zp x.1):=Zk.of (T:=VT) (ic:=WI) (rs:=WJ) (Zc (Yi Tryz.func99 (by kernel_rfl) NQ) (Zc (Yi Tryz.func100 (by kernel_rfl) FJ) Zg)) ZQ Tryz.func70 (by kernel_rfl) (by kernel_rfl) (by kernel_rfl) a1y
theorem F4:Zk Tryz.prog 71 (fun x:Int×Unit=>decide (-1000000000<=x.1)&&decide (x.1<=1000000000)) (fun x:Int×Unit=>Zn x.1):=Zk.rec (fun a=>Gm a.1) fun N hN=>Zk.of (T:=Mt N) (ic:=SC) (rs:=S9) (Zc (Yi Tryz.func71 (by kernel_rfl) hN) Zg) ZQ Tryz.func71 (by kernel_rfl) (by kernel_rfl) (by kernel_rfl) (b2h N)
theorem G7:Zk Tryz.prog 40 (fun x:Lin×Unit=>Ws x.1) (fun x:Lin×Unit=>(⟨ZY x.1⟩:Str)):=Zk.of (T:=XX) (ic:=Xg) (rs:=Xf) (Zc (Yi Tryz.func70 (by kernel_rfl) GK) (Zc (Yi Tryz.func71 (by kernel_rfl) F4) Zg)) ZQ Tryz.func40 (by kernel_rfl) (by kernel_rfl) (by kernel_rfl) a1d
theorem b7k:XY Tryz.prog 126 QG Y7:=JI (T:=Y0) (ic:=YK) (rs:=YM) Zg ZQ Tryz.func126 (by kernel_rfl) (by kernel_rfl) (by kernel_rfl) b2p
theorem a8q:Zk Tryz.prog 126 (fun _:List Int×Unit=>true) (fun x:List Int×Unit=>Y2 x.1):=Zk.ofPure b7k fun⟨l,_⟩ h=>⟨by show(Zv l).all PV.isNum=true;simp,by show Zi _ (.tup [.int .i64 (Y2 ((Zv l).map PV.asInt)).1,.int .i64 (Y2 ((Zv l).map PV.asInt)).2]);rw[Xl];exact Zo (x:=Y2 l) rfl⟩
theorem a9i:Zk Tryz.prog 128 (fun x:List Int×Unit=>decide (x.1.length<=2000000)) (fun x:List Int×Unit=>x.1):=Zk.of (T:=Mh) (ic:=SL) (rs:=Ra) Zg ZQ Tryz.func128 (by kernel_rfl) (by kernel_rfl) (by kernel_rfl) b1w
theorem RS:Zk Tryz.prog 127 (fun _:Str×Int×Unit=>true) (fun x:Str×Int×Unit=>X4 x.1 x.2.1):=Zk.of (T:=a2b) (ic:=MI) (rs:=MG) Zg ZQ Tryz.func127 (by kernel_rfl) (by kernel_rfl) (by kernel_rfl) b4h
theorem a0s:Zk Tryz.prog 101 (fun x:Str×List Int×List Int×Unit=>decide (x.2.1.length<=2000000)&&decide (x.2.2.1.length<=2000000)) (fun x:Str×List Int×List Int×Unit=>KD x.1 x.2.1 x.2.2.1):=Zk.of (T:=UQ) (ic:=VO) (rs:=VX) (Zc (Yi Tryz.func126 (by kernel_rfl) a8q) (Zc (Yi Tryz.func127 (by kernel_rfl) RS) (Zc (Yi Tryz.func128 (by kernel_rfl) a9i) Zg))) ZQ Tryz.func101 (by kernel_rfl) (by kernel_rfl) (by kernel_rfl) a9s
theorem J7:Zk Tryz.prog 72 (fun x:Arr×Unit=>WQ x.1) (fun x:Arr×Unit=>X8 x.1):=Zk.of (T:=a3p) (ic:=Fa) (rs:=Ld) (Zc (Yi Tryz.func101 (by kernel_rfl) a0s) Zg) ZQ Tryz.func72 (by kernel_rfl) (by kernel_rfl) (by kernel_rfl) c4r
theorem a2o:Zk Tryz.prog 73 (fun x:Int×Unit=>decide (x.1.natAbs<9223372036854775808)) (fun x:Int×Unit=>Zn x.1):=Zk.rec (fun a=>Gm a.1) fun N hN=>Zk.of (T:=a0k N) (ic:=NU) (rs:=LM) (Zc (Yi Tryz.func73 (by kernel_rfl) hN) Zg) ZQ Tryz.func73 (by kernel_rfl) (by kernel_rfl) (by kernel_rfl) (c0q N)
theorem NM:Zk Tryz.prog 41 (fun x:Arr×Unit=>WQ x.1&&X8 x.1) (fun x:Arr×Unit=>Q9 x.1):=Zk.of (T:=VG) (ic:=Wu) (rs:=Ww) (Zc (Yi Tryz.func72 (by kernel_rfl) J7) (Zc (Yi Tryz.func73 (by kernel_rfl) a2o) Zg)) ZQ Tryz.func41 (by kernel_rfl) (by kernel_rfl) (by kernel_rfl) c3c
theorem Sl:Zk Tryz.prog 37 (fun x:Int×Unit=>decide (x.1.natAbs<9223372036854775808)) (fun x:Int×Unit=>Zn x.1):=Zk.rec (fun a=>Gm a.1) fun N hN=>Zk.of (T:=Gv N) (ic:=Q3) (rs:=KJ) (Zc (Yi Tryz.func37 (by kernel_rfl) hN) Zg) ZQ Tryz.func37 (by kernel_rfl) (by kernel_rfl) (by kernel_rfl) (c1y N)
theorem MR:Zk Tryz.prog 64 (fun _:UInt8×Unit=>true) (fun x:UInt8×Unit=>lowB x.1):=Zk.of (T:=Rf) (ic:=Cc) (rs:=CR) Zg ZQ Tryz.func64 (by kernel_rfl) (by kernel_rfl) (by kernel_rfl) a1o
theorem LQ:Zk Tryz.prog 65 (fun _:UInt8×Unit=>true) (fun x:UInt8×Unit=>digB x.1):=Zk.of (T:=Rq) (ic:=Ba) (rs:=Bd) Zg ZQ Tryz.func65 (by kernel_rfl) (by kernel_rfl) (by kernel_rfl) a2a
theorem BN:Zk Tryz.prog 66 (fun _:Str×Unit=>true) (fun x:Str×Unit=>Qk.contains x.1.s):=Zk.of (T:=a1z) (ic:=N8) (rs:=Mj) Zg ZQ Tryz.func66 (by kernel_rfl) (by kernel_rfl) (by kernel_rfl) b7i
theorem Ui:Zk Tryz.prog 33 (fun x:Str×Unit=>decide (x.1.s.length<=1048576)) (fun x:Str×Unit=>ZN x.1.s):=Zk.of (T:=UG) (ic:=VN) (rs:=VM) (Zc (Yi Tryz.func64 (by kernel_rfl) MR) (Zc (Yi Tryz.func65 (by kernel_rfl) LQ) (Zc (Yi Tryz.func66 (by kernel_rfl) BN) Zg))) ZQ Tryz.func33 (by kernel_rfl) (by kernel_rfl) (by kernel_rfl) b2l
theorem RZ:Zk Tryz.prog 155 (fun x:Str×Unit=>decide (x.1.s.length<=1048576)) (fun x:Str×Unit=>fullI x.1.s):=Zk.of (T:=KF) (ic:=Qb) (rs:=U9) (Zc (Yi Tryz.func33 (by kernel_rfl) Ui) Zg) ZQ Tryz.func155 (by kernel_rfl) (by kernel_rfl) (by kernel_rfl) b0w
theorem BS:Zk Tryz.prog 123 (fun x:Str×Unit=>decide (x.1.s.length<=1048576)) (fun x:Str×Unit=>JV x.1.s):=Zk.of (T:=a2i) (ic:=NH) (rs:=Nn) (Zc (Yi Tryz.func33 (by kernel_rfl) Ui) (Zc (Yi Tryz.func155 (by kernel_rfl) RZ) Zg)) ZQ Tryz.func123 (by kernel_rfl) (by kernel_rfl) (by kernel_rfl) b6g
theorem NW:Zk Tryz.prog 121 (fun x:Tm×Bool×Bool×Bool×Bool×Bool×Unit=>tW x.1) (fun x:Tm×Bool×Bool×Bool×Bool×Bool×Unit=>Z6 x.1.nd x.2.1 x.2.2.1 x.2.2.2.1 x.2.2.2.2.1 x.2.2.2.2.2.1):=Zk.of (T:=TE) (ic:=CU) (rs:=QK) Zg ZQ Tryz.func121 (by kernel_rfl) (by kernel_rfl) (by kernel_rfl) a0z
theorem RI:Zk Tryz.prog 122 (fun x:List Lin×Unit=>decide (x.1.length<=1048576)&&x.1.all X3) (fun x:List Lin×Unit=>x.1.all Zp):=Zk.of (T:=Gy) (ic:=KR) (rs:=KV) (Zc (Yi Tryz.func70 (by kernel_rfl) GK) Zg) ZQ Tryz.func122 (by kernel_rfl) (by kernel_rfl) (by kernel_rfl) c4i
theorem Ol:Zk Tryz.prog 98 (fun x:Tm×Unit=>tW x.1) (fun x:Tm×Unit=>Jp x.1):=Zk.of (T:=UW) (ic:=VJ) (rs:=WV) (Zc (Yi Tryz.func33 (by kernel_rfl) Ui) (Zc (Yi Tryz.func121 (by kernel_rfl) NW) (Zc (Yi Tryz.func123 (by kernel_rfl) BS) (Zc (Yi Tryz.func122 (by kernel_rfl) RI) (Zc (Yi Tryz.func72 (by kernel_rfl) J7) Zg))))) ZQ Tryz.func98 (by kernel_rfl) (by kernel_rfl) (by kernel_rfl) a9b
theorem a4o:Zk Tryz.prog 62 (fun x:Tm×Unit=>tW x.1) (fun x:Tm×Unit=>ZU x.1):=Zk.rec (fun a=>ZM a.1) fun N hN=>Zk.of (T:=Gg N) (ic:=KP) (rs:=KL) (Zc (Yi Tryz.func62 (by kernel_rfl) hN) (Zc (Yi Tryz.func98 (by kernel_rfl) Ol) Zg)) ZQ Tryz.func62 (by kernel_rfl) (by kernel_rfl) (by kernel_rfl) (b4j N)
theorem MN:Zk Tryz.prog 31 (fun x:Tm×Unit=>tW x.1) (fun x:Tm×Unit=>Y4 x.1):=Zk.of (T:=Su) (ic:=Bi) (rs:=JC) (Zc (Yi Tryz.func12 (by kernel_rfl) BI) (Zc (Yi Tryz.func11 (by kernel_rfl) DJ) (Zc (Yi Tryz.func62 (by kernel_rfl) a4o) Zg))) ZQ Tryz.func31 (by kernel_rfl) (by kernel_rfl) (by kernel_rfl) a5e
theorem K3:Zk Tryz.prog 68 (fun _:Str×Bool×Unit=>true) (fun x:Str×Bool×Unit=>YJ x.1 x.2.1):=Zk.of (T:=ET) (ic:=Mc) (rs:=MC) Zg ZQ Tryz.func68 (by kernel_rfl) (by kernel_rfl) (by kernel_rfl) c4b
theorem RY:Zk Tryz.prog 67 (fun _:Str×Unit=>true) (fun x:Str×Unit=>KS x.1):=Zk.of (T:=ZC) (ic:=Zt) (rs:=Zr) (Zc (Yi Tryz.func68 (by kernel_rfl) K3) Zg) ZQ Tryz.func67 (by kernel_rfl) (by kernel_rfl) (by kernel_rfl) b9q
theorem E5:Zk Tryz.prog 63 (fun x:List Str×Str×Unit=>decide (x.1.length<=1048576)) (fun x:List Str×Str×Unit=>Ug x.1 x.2.1):=Zk.of (T:=Hu) (ic:=Kw) (rs:=Kh) Zg ZQ Tryz.func63 (by kernel_rfl) (by kernel_rfl) (by kernel_rfl) b6i
theorem Oq:Zk Tryz.prog 32 (fun x:Tm×Unit=>tW x.1) (fun x:Tm×Unit=>KY x.1):=Zk.of (T:=Yc) (ic:=ZZ) (rs:=ZV) (Zc (Yi Tryz.func13 (by kernel_rfl) K5) (Zc (Yi Tryz.func63 (by kernel_rfl) E5) Zg)) ZQ Tryz.func32 (by kernel_rfl) (by kernel_rfl) (by kernel_rfl) b0c
theorem PD:Zk Tryz.prog 34 (fun x:Tm×Unit=>tW x.1) (fun x:Tm×Unit=>Hd x.1):=Zk.of (T:=AJ) (ic:=TJ) (rs:=Da) (Zc (Yi Tryz.func67 (by kernel_rfl) RY) (Zc (Yi Tryz.func68 (by kernel_rfl) K3) Zg)) ZQ Tryz.func34 (by kernel_rfl) (by kernel_rfl) (by kernel_rfl) a8m
theorem a3h:Zk Tryz.prog 36 (fun x:Tm×Unit=>tW x.1) (fun x:Tm×Unit=>YV x.1):=Zk.of (T:=NP) (ic:=M6) (rs:=Au) (Zc (Yi Tryz.func34 (by kernel_rfl) PD) Zg) ZQ Tryz.func36 (by kernel_rfl) (by kernel_rfl) (by kernel_rfl) b6n
theorem Fe:Zk Tryz.prog 69 (fun x:List Lin×Unit=>decide (x.1.length<=1048576)&&x.1.all Zp) (fun x:List Lin×Unit=>Yh (x.1.map Yz)):=Zk.of (T:=Ur) (ic:=Vp) (rs:=Vs) (Zc (Yi Tryz.func40 (by kernel_rfl) G7) Zg) ZQ Tryz.func69 (by kernel_rfl) (by kernel_rfl) (by kernel_rfl) a5h
theorem a2f{N:Nat}(hN:Zk Tryz.prog 18 (fun x:Tm×Unit=>(tW x.1&&ZU x.1)&&decide (ZM x.1<N)) (fun x:Tm×Unit=>Zq x.1)):Zk Tryz.prog 35 (fun x:Tm×Bool×Unit=>(tW x.1&&ZU x.1)&&decide (ZM x.1<N)) (fun x:Tm×Bool×Unit=>VE x.2.1 x.1):=Zk.of (T:=MF N) (ic:=Lj) (rs:=Af) (Zc (Yi Tryz.func18 (by kernel_rfl) hN) Zg) ZQ Tryz.func35 (by kernel_rfl) (by kernel_rfl) (by kernel_rfl) (c2z N)
theorem Bz{N:Nat}(hN:Zk Tryz.prog 18 (fun x:Tm×Unit=>(tW x.1&&ZU x.1)&&decide (ZM x.1<N)) (fun x:Tm×Unit=>Zq x.1)):Zk Tryz.prog 39 (fun x:List Tm×Unit=>(Ca x.1&&YP x.1)&&decide (ZW x.1<N)) (fun x:List Tm×Unit=>Yh (x.1.map Zq)):=Zk.of (T:=Qq N) (ic:=Uo) (rs:=Un) (Zc (Yi Tryz.func18 (by kernel_rfl) hN) Zg) ZQ Tryz.func39 (by kernel_rfl) (by kernel_rfl) (by kernel_rfl) (b3b N)
theorem EI{N:Nat}(hN:Zk Tryz.prog 18 (fun x:Tm×Unit=>(tW x.1&&ZU x.1)&&decide (ZM x.1<N)) (fun x:Tm×Unit=>Zq x.1)):Zk Tryz.prog 38 (fun x:Tm×Unit=>(tW x.1&&ZU x.1&&decide (x.1.nd.kind=6))&&decide (ZW x.1.ks<N)) (fun x:Tm×Unit=>Qf x.1):=Zk.of (T:=X9 N) (ic:=XI) (rs:=Xk) (Zc (Yi Tryz.func69 (by kernel_rfl) Fe) (Zc (Yi Tryz.func37 (by kernel_rfl) Sl) (Zc (Yi Tryz.func39 (by kernel_rfl) (Bz hN)) Zg))) ZQ Tryz.func38 (by kernel_rfl) (by kernel_rfl) (by kernel_rfl) (b2k N)
theorem FD:Zk Tryz.prog 18 (fun x:Tm×Unit=>tW x.1&&ZU x.1) (fun x:Tm×Unit=>Zq x.1):=Zk.rec (fun a=>ZM a.1) fun N hN=>Zk.of (T:=AQ N) (ic:=Sb) (rs:=GR) (Zc (Yi Tryz.func34 (by kernel_rfl) PD) (Zc (Yi Tryz.func36 (by kernel_rfl) a3h) (Zc (Yi Tryz.func35 (by kernel_rfl) (a2f hN)) (Zc (Yi Tryz.func18 (by kernel_rfl) hN) (Zc (Yi Tryz.func37 (by kernel_rfl) Sl) (Zc (Yi Tryz.func38 (by kernel_rfl) (EI hN)) (Zc (Yi Tryz.func39 (by kernel_rfl) (Bz hN)) (Zc (Yi Tryz.func40 (by kernel_rfl) G7) (Zc (Yi Tryz.func41 (by kernel_rfl) NM) Zg))))))))) ZQ Tryz.func18 (by kernel_rfl) (by kernel_rfl) (by kernel_rfl) (b3e N)
theorem Cg:Zk Tryz.prog 17 (fun x:Tm×Unit=>tW x.1) (fun x:Tm×Unit=>Y3 x.1):=Zk.of (T:=Uu) (ic:=V8) (rs:=Vv) (Zc (Yi Tryz.func31 (by kernel_rfl) MN) (Zc (Yi Tryz.func32 (by kernel_rfl) Oq) (Zc (Yi Tryz.func33 (by kernel_rfl) Ui) Zg))) ZQ Tryz.func17 (by kernel_rfl) (by kernel_rfl) (by kernel_rfl) a2v
theorem ED:Zk Tryz.prog 8 (fun x:Tm×Unit=>tW x.1) (fun x:Tm×Unit=>Wt x.1):=Zk.of (T:=Ah) (ic:=Rw) (rs:=Dh) (Zc (Yi Tryz.func17 (by kernel_rfl) Cg) (Zc (Yi Tryz.func18 (by kernel_rfl) FD) Zg)) ZQ Tryz.func8 (by kernel_rfl) (by kernel_rfl) (by kernel_rfl) b1a
theorem OO:Zk Tryz.prog 3 (fun x:Tm×Unit=>tW x.1) (fun _:Tm×Unit=>true):=Zk.of (T:=Ma) (ic:=TR) (rs:=TW) (Zc (Yi Tryz.func5 (by kernel_rfl) Nl) (Zc (Yi Tryz.func6 (by kernel_rfl) a3r) (Zc (Yi Tryz.func7 (by kernel_rfl) Bw) (Zc (Yi Tryz.func8 (by kernel_rfl) ED) Zg)))) ZQ Tryz.func3 (by kernel_rfl) (by kernel_rfl) (by kernel_rfl) b0u
end Go.Proofs.YtbfjgcjjaoaaaaaGreatDoor
