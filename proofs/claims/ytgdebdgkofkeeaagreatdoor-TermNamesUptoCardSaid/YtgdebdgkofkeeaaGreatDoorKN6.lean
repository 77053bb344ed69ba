/-
  Texts of mine that belong together (packed by pack.py), for every input: Post, LaidY, PlGb, OpPr, OpUa, OpUl, ShT, Sh, ShB, ShS, Sk, ShU, Cl, KsR, Ct, KsC, KsN, KsS, KsP, KsQ, KsX, OkUa, ShL, Si, OkUe, OkUf, OkUh.
-/
import Derived.Test.YtgdebdgkofkeeaaGreatDoorChecked
import Derived.Test.YtgdebdgkofkeeaaGreatDoorProg
import Derived.Test.YtgdebdgkofkeeaaGreatDoorRows
import Derived.Test.YtgdebdgkofkeeaaGreatDoorKN2
import Derived.Test.YtgdebdgkofkeeaaGreatDoorKN3
import Derived.Test.YtgdebdgkofkeeaaGreatDoorKN4
import Derived.Test.YtgdebdgkofkeeaaGreatDoorKN5
import Derived.Below
import Derived.ChangeSame
import Derived.Stop.LaidErr
import Derived.Lib.LaidTab
import Derived.Shelf.Vars
import Derived.KernelRfl
import Derived.Shelf.Strings.Cut
import Derived.Shelf.Strings.Prefix
import Derived.Shelf.SlMaps.Clone
import Derived.Shelf.Strconv.AtoiAll
import Derived.Shelf.Strconv.Itoa3
import Derived.Shelf.Sort.Plain
import Derived.Shelf.Small.Strs
import Derived.Shelf.Slices.In.SortNone
import Derived.Shelf.SlIter.Sorted
import Derived.Shelf.SlIter.Keys
import Derived.Ground.GgzProg
import Derived.WalkKit
import Derived.Deep.LoopGhost
import Derived.Lib.Walk
import Derived.Lib.SliceRun
import Derived.Shelf.SlIterI.Sorted
import Derived.Shelf.SlIterI.Collect
import Derived.Shelf.SlIterI.Keys
set_option linter.unusedVariables false
set_option linter.unusedSimpArgs false
namespace Go.Proofs.YtgdebdgkofkeeaaGreatDoor
open Go.RowKit Go.WideShapes Go.ChangeShapes
section
variable {H:Type} {enc:TypeId×Value->H} {P:Program}
theorem AQ{f:Func}{s:ChangeSpec}{apart fresh handsOn again:Bool}{W W':World}{args:Array Value}{v:Value}{ds gs:List (DataW H)}{before pa pv:List MemPlace}
  (hW:DataW.Whole enc P f.params.toList s.vars apart W args.toList ds gs before)
  (hres : ∀ (b:Nat) (sp:Nat->Bool) (hd:Bool),DataW.TrodAll enc P W' b sp hd f.resultTypes.toList (v.resultList f.resultTypes.size) (s.fn H (ds++gs)).results [])
  (hargs : ∀ sp:Nat->Bool,(∀ p∈before,sp p.block=true)->DataW.TrodAll enc P W' 0 sp true f.params.toList args.toList (s.fn H (ds++gs)).args pa)
  (hvars : ∀ sp:Nat->Bool,(∀ p∈before,sp p.block=true)->DataW.TrodVars enc P W' sp s.vars (s.fn H (ds++gs)).vars pv)
  (hps:before=pa++pv) (hb:Below W.heap.size W W')
  (hok : ∀ (j:Nat) (t:TypeId) (r:Value),f.resultTypes[j]? = some t->(v.resultList f.resultTypes.size)[j]? = some r->Value.okWide P W' .any 0 t r) :
  s.post enc P f apart fresh handsOn again W args v W':=by
 have hlt : ∀ p∈before,p.block<W.heap.size:=fun p hp=>hW.lt p hp
 have hold : ∀ p∈before,(fun b=>decide (b<W.heap.size)) p.block=true:=fun p hp=>by simpa using hlt p hp
 refine⟨ds,gs,before,[],pa,pv,hW,hres _ _ _,hargs _ hold,hvars _ hold,World.keptBut_mono (fun p hp=>⟨hp,?_⟩) (hb.frame (· ∈ before)),fun _=> ?_⟩
 ·rw[hps,List.mem_append]at hp
  exact Or.inr hp
 ·obtain⟨_,_,_,_,_,hz,hn⟩:=hW
  refine⟨hok,_,_,([]++pa)++pv,⟨[]++pa,pv,trodAll_append (hargs _ (fun _ _=>rfl)) (hres _ _ _),hvars _ (fun _ _=>rfl),rfl,?_,?_⟩,?_⟩
  ·intro b off hp
   have hin:MemPlace.cell b off∈before:=by rw[hps];simpa using hp
   rw[hb.frozen (hlt _ hin)]
   exact hz b off hin
  ·intro ha
   have:=hn ha
   rw[hps]at this
   simpa using this
  ·intro p hp _
   rw[hps]
   simpa using hp
end
end Go.Proofs.YtgdebdgkofkeeaaGreatDoor
namespace Go.Proofs.YtgdebdgkofkeeaaGreatDoor
open Go.Pl Go.RowKit Go.ChangeShapes
set_option maxRecDepth 100000
theorem a0q{P:Program}{W:World}{n:String}{g:Nat}{cs:Array Value}(hg:P.globalNamed n=some g)(h:W.var? P n=some cs):CL W g=some cs:=by
 unfold World.var? at h
 rw[hg]at h
 simp only[Option.bind_some]at h
 unfold CL
 exact h
theorem c6y:Tryz.prog.globalNamed "internal/strconv.uint64pow10" = some 1:=by kernel_rfl
theorem d6k:Tryz.prog.globalNamed "strconv.ErrRange" = some 5:=by kernel_rfl
theorem d8a:Tryz.prog.globalNamed "strconv.ErrSyntax" = some 4:=by kernel_rfl
theorem a5z:Tryz.prog.underlying 165=some (.interface ((match Tryz.prog.underlying 165 with|some (.interface ms)=>ms|_=>#[]))):=by kernel_rfl
theorem d1t{W:World}{r:List (String×DataW Unit)}(h:laidMet Tryz.prog (("internal/strconv.uint64pow10",Rows.laid_internal_strconv_uint64pow10)::r) W):CL W 1=some CV:=by
 have h1:Lib.TabIs Tryz.prog W "internal/strconv.uint64pow10" .u64 ((List.range 20).map fun i=>((10 ^ i:Nat):Int)):=Lib.tabIs_of_head (e:=140) (t:=172) c6y (by kernel_rfl) (n:=20) (by kernel_rfl) (by kernel_rfl) (by kernel_rfl) (by kernel_rfl) h
 exact(a0q c6y h1).trans rfl
theorem b1h{W:World}{n:String}{g:Nat}{text:List UInt8}{r:List (String×DataW Unit)}(hg:Tryz.prog.globalNamed n=some g)(ht:(Tryz.prog.globals[g]?).map (·.type)=some 165)(h:laidMet Tryz.prog ((n,.iface "*errors.errorString" (.ptr (.agg [.lit (.string text)])))::r) W): ∃ cs,CL W g=some cs∧BS cs:=by
 obtain⟨ps,⟨g0,t0,cs0,f0,p0,q0,hg0,ht0,hv0,hd0,_,e0⟩,_,hrows⟩:=h
 obtain rfl:=Option.some.inj (hg.symm.trans hg0)
 obtain rfl:=Option.some.inj (ht.symm.trans ht0)
 subst e0
 refine⟨cs0,a0q hg hv0,?_⟩
 obtain⟨f1,u,v,e,_⟩:=iface_of_trod a5z hd0
 obtain⟨l0⟩:=cs0
 have e:l0=[.iface u v]:=e
 subst e
 exact⟨_,rfl,.inr ⟨u,v,rfl⟩⟩
theorem d4x{W:World}(h:W.ShapedOpen Tryz.prog): ∃ cs m,CL W 0=some cs∧cs[0]? = some (Value.int .i64 m):=by
 obtain⟨m,hm⟩:=cell_of_shapedOpen_int (g:=0) (t:=3) (zero:=#[.int .i64 0]) (k:=.i64) h (of_decide_eq_true (by kernel_rfl)) (by kernel_rfl) rfl (by kernel_rfl) (by kernel_rfl) (by kernel_rfl)
 unfold World.cell? at hm
 unfold CL
 split at hm
 ·rename_i cs T fz hh
  exact⟨cs,m,by simp only[hh],by simpa using hm⟩
 ·cases hm
theorem c3e{W:World}{x y:String×DataW Unit}{r:List (String×DataW Unit)}(h:laidMet Tryz.prog (x::y::("internal/strconv.uint64pow10",Rows.laid_internal_strconv_uint64pow10)::("strconv.ErrRange",Rows.laid_strconv_ErrRange)::("strconv.ErrSyntax",Rows.laid_strconv_ErrSyntax)::r) W)(hs:W.ShapedOpen Tryz.prog):GlobOK (CL W):=
 ⟨b1h d8a (by kernel_rfl) h.tail.tail.tail.tail,b1h d6k (by kernel_rfl) h.tail.tail.tail,d1t h.tail.tail,d4x hs⟩
noncomputable def e0y:DataW Unit->Value
 | .lit (.int k n)=>.int k n
 | _=>.int .i64 0
noncomputable def F3:DataW Unit->Array Value
 | .agg ds=>(ds.map e0y).toArray
 | _=>#[]
noncomputable def b4h:DataW Unit->ByteArray
 | .iface _ (.ptr (.agg [.lit (.string bs)]))=>⟨bs.toArray⟩
 | _=>⟨#[]⟩
noncomputable def low:Nat:=(World.holding Tryz.prog default ⟨#[],#[],[]⟩).heap.size
noncomputable def b4u(cs:Array Value):Obj->Obj
 | .cells _ t frozen=>.cells cs t frozen
 | o=>o
noncomputable def Dt(os:Os):World:=
 let w0:=World.holding Tryz.prog os ⟨#[.cells #[.string (b4h Rows.laid_strconv_ErrRange)] 203,.cells #[.string (b4h Rows.laid_strconv_ErrSyntax)] 203],#[],[]⟩
 {w0 with heap:=((((w0.heap.modify 5 (b4u #[.iface 201 (.pointer (some ⟨low,0,none⟩))])).modify 4 (b4u #[.iface 201 (.pointer (some ⟨low+1,0,none⟩))])).modify 1 (b4u (F3 Rows.laid_internal_strconv_uint64pow10))).modify 2 (b4u (F3 Rows.laid_math_bits_deBruijn32tab))).modify 3 (b4u (F3 Rows.laid_math_bits_deBruijn64tab))}
end Go.Proofs.YtgdebdgkofkeeaaGreatDoor
namespace Go.Pl
open Go.RowKit Go.WideShapes Go.ChangeShapes
abbrev uB{H:Type}(d:DataW H):Nat:=Go.Proofs.YtgdebdgkofkeeaaGreatDoor.Rows.uptoBulk d
abbrev uBs{H:Type}(l:List (DataW H)):Nat:=Go.Proofs.YtgdebdgkofkeeaaGreatDoor.Rows.uptoBulkAll l
theorem Gl{H:Type}(d:DataW H)(l:List (DataW H)):uBs (d::l)=uB d+uBs l:=by unfold uBs uB;rw[Go.Proofs.YtgdebdgkofkeeaaGreatDoor.Rows.uptoBulkAll]
theorem F9{H:Type}(d:DataW H):1<=uB d:=by
 cases d with
 | lit l=>cases l <;> simp[uB,Go.Proofs.YtgdebdgkofkeeaaGreatDoor.Rows.uptoBulk]
 | _=>simp[uB,Go.Proofs.YtgdebdgkofkeeaaGreatDoor.Rows.uptoBulk]
mutual
def pvW:PV->Nat
 | .str s=>s.length+1
 | .sl _ _ xs=>YT xs+1
 | .agg xs=>YT xs
 | _=>1
def YT:List PV->Nat
 | []=>0
 | p::ps=>pvW p+YT ps
end
theorem b1b(a b:List PV):YT (a++b)=YT a+YT b:=by
 induction a with
 | nil=>simp[YT]
 | cons x a ih=>rw[List.cons_append,YT,ih,YT];omega
theorem d8l{P:Program}{e:TypeId}{q:List PV}(hag:YO P e=true∨P.cellsOf e=1)(hl:q.length=P.cellsOf e):pvW (QZ P e q)<=YT q:=by
 cases ha:YO P e with
 | true=>simp only[QZ,ha];rw[pvW];exact Nat.le_refl _
 | false=>
  have h1:P.cellsOf e=1:=by simpa [ha]using hag
  rw[h1]at hl
  match q,hl with
  | [x],_=>simp only[QZ,ha,List.headD_cons];rw[YT,YT];exact Nat.le_refl _
theorem ET{H:Type}{f:List PV->PV}: ∀ {qs:List (List PV)} {xs:List (DataW H×List MemPlace)},qs.length=xs.length->(∀ (i:Nat) (q:List PV) (x:DataW H×List MemPlace),qs[i]? = some q->xs[i]? = some x->pvW (f q)<=uB x.1)->YT (qs.map f)<=uBs (xs.map (·.1))
 | [],[],_,_=>by simp[YT]
 | q::qs,x::xs,hl,h=>by
  have h0:=h 0 q x rfl rfl
  have h1:=ET (qs:=qs) (xs:=xs) (by simpa using hl) fun i q x hq hx=>h (i+1) q x (by simpa using hq) (by simpa using hx)
  rw[List.map_cons,YT,List.map_cons,Gl]
  omega
 | [],_::_,hl,_=>by cases hl
 | _::_,[],hl,_=>by cases hl
def b2d(P:Program)(S:List TypeId):Bool:=S.all fun t=>match P.underlying t with|some (.array _ _)=>false|_=>true
section
variable {H:Type} {enc:TypeId×Value->H} {P:Program} {w:World} {base:Nat} {sp:Nat->Bool} {held:Bool} {S:List TypeId}
theorem Ps{n:Nat}{cs:List Value}(ih : ∀ (t:TypeId) (cs:List Value) (x:DataW H×List MemPlace),t∈S->DataW.trod enc P w base sp held n t cs=some x-> ∃ ps,Cl w cs ps∧WB P n t ps∧YT ps<=uB x.1):
  ∀ (fs:List Field) (o N:Nat) (xs:List (DataW H×List MemPlace)),QO P o fs N=true->(∀ f∈fs,f.type∈S)->cs.length=N->o<=N ->
   fs.mapM (fun f=>DataW.trod enc P w base sp held n f.type ((cs.drop f.offset).take (P.cellsOf f.type)))=some xs ->
   ∃ ps,Cl w (cs.drop o) ps∧YT ps<=uBs (xs.map (·.1))∧ ∀ qs:List PV,qs.length=o->(∀ f∈fs,WB P n f.type (((qs++ps).drop f.offset).take (P.cellsOf f.type))):=by
 intro fs
 induction fs with
 | nil=>
  intro o N xs hc _ hl ho _
  simp[QO]at hc
  refine⟨[],?_,by simp[YT],fun qs _ f hf=>by simp at hf⟩
  rw[List.drop_of_length_le (by omega)]
  exact Cl.nil
 | cons f fs ihf=>
  intro o N xs hc hm hl ho h
  simp only[QO,Bool.and_eq_true,beq_iff_eq]at hc
  obtain⟨hfo,hc⟩:=hc
  simp only[List.mapM_cons,Option.bind_eq_bind,Option.bind_eq_some_iff]at h
  obtain⟨x,hx,xs',hxs,e⟩:=h
  cases e
  obtain⟨p1,k1,k2,w1⟩:=ih _ _ x (hm f List.mem_cons_self) hx
  have hle:o+P.cellsOf f.type<=N:=by
   have : ∀ (fs:List Field) (a:Nat),QO P a fs N=true->a<=N:=by
    intro fs
    induction fs with
    | nil=>intro a h;simp[QO]at h;omega
    | cons g fs ih=>intro a h;simp only[QO,Bool.and_eq_true]at h;have:=ih _ h.2;omega
   exact this _ _ hc
  obtain⟨p2,k3,w2,k4⟩:=ihf (o+P.cellsOf f.type) N xs' hc (fun g hg=>hm g (List.mem_cons_of_mem _ hg)) hl hle hxs
  have hp1:p1.length=P.cellsOf f.type:=by
   rw[<- k1.1.1,List.length_take,List.length_drop,hfo]
   omega
  refine⟨p1++p2,?_,by rw[b1b,List.map_cons,Gl];omega,fun qs hq g hg=> ?_⟩
  ·have:=k1.append k3
   rw[hfo]at this
   have e:cs.drop o=(cs.drop o).take (P.cellsOf f.type)++cs.drop (o+P.cellsOf f.type):=by rw[<- List.drop_drop,List.take_append_drop]
   rw[e]
   exact this
  ·rcases List.mem_cons.1 hg with rfl|hg
   ·rw[hfo,<- hq,List.drop_left,<- hp1,List.take_left]
    exact k2
   ·have:=k4 (qs++p1) (by simp[hq,hp1]) g hg
    rwa [List.append_assoc]at this
theorem NR{n:Nat}{e:TypeId}{a:Addr}{len cap:Nat}{xs:List (DataW H×List MemPlace)}(hsz:0<P.cellsOf e)(hag:YO P e=true∨P.cellsOf e=1)(hcap:len<=cap)(hmax:cap<=maxLen)
  (ih : ∀ (cs:List Value) (x:DataW H×List MemPlace),DataW.trod enc P w base sp held n e cs=some x-> ∃ ps,Cl w cs ps∧WB P n e ps∧YT ps<=uB x.1)
  (h:(List.range len).mapM (fun i=>(w.cells? base (a.add (i*P.cellsOf e)) (P.cellsOf e)).bind (DataW.trod enc P w base sp held n e))=some xs) :
  ∃ qs:List (List PV),RP (CL w) (.slice (some a) len cap) (.sl (P.cellsOf e) false (qs.map (QZ P e)))∧qs.length<=maxLen∧(∀ q∈qs,q.length=P.cellsOf e∧WB P n e q)∧YT (qs.map (QZ P e))<=uBs (xs.map (·.1)):=by
 obtain⟨hl,hg⟩:=NT h
 rw[List.length_range]at hl
 have key : ∀ i,i<len-> ∃ q:List PV,(q.length=P.cellsOf e∧WB P n e q∧ ∃ x,xs[i]? = some x∧YT q<=uB x.1)∧ ∀ (r:Nat) p,q[r]? = some p-> ∃ v,w.cell? (a.add (i*P.cellsOf e+r))=some v∧v.oneCell'=true∧RP (CL w) v p:=by
  intro i hi
  have hx:=List.getElem?_eq_getElem (show i<xs.length by omega)
  have:=hg i i _ (by simp[hi]) hx
  rw[Option.bind_eq_some_iff]at this
  obtain⟨cs,h1,h2⟩:=this
  obtain⟨q,k1,k2,k3⟩:=ih cs _ h2
  obtain⟨c1,c2⟩:=a4g h1
  refine⟨q,⟨by rw[<- k1.1.1,c1],k2,_,hx,k3⟩,fun r p hp=> ?_⟩
  have hr:r<cs.length:=by rw[k1.1.1];exact(List.getElem?_eq_some_iff.1 hp).1
  have hv:=List.getElem?_eq_getElem hr
  refine⟨_,?_,k1.2 _ (List.getElem_mem hr),k1.1.2 r _ p hv hp⟩
  rw[<- a4t]
  exact c2 r _ hv
 obtain⟨qs,hq1,hq2⟩:=NV len key
 have hcells : ∀ q∈qs,(QZ P e q).cells=q:=by
  intro q hq
  obtain⟨i,hi,rfl⟩:=List.getElem_of_mem hq
  have:=(hq2 i _ (List.getElem?_eq_getElem hi)).1
  exact a7g hag this.1 fun ha=>b4m this.2.1 ha
 refine⟨qs,?_,by omega,fun q hq=> ?_,?_⟩
 ·by_cases h0:len=0
  ·subst h0
   have:qs=[]:=List.length_eq_zero_iff.1 hq1
   subst this
   exact .sl0 _ _ _ _ fun e=>by cases e
  ·-- the first cell tells the block
   obtain⟨b,off,cs,rfl,hb,-⟩ : ∃ b off cs,a=⟨b,off,none⟩∧CL w b=some cs∧True:=by
    have hq0:=List.getElem?_eq_getElem (show 0<qs.length by omega)
    obtain⟨⟨f1,f2,-⟩,f3⟩:=hq2 0 _ hq0
    have hp:=List.getElem?_eq_getElem (show 0<(qs[0]'(by omega)).length by omega)
    obtain⟨v,hv,_⟩:=f3 0 _ hp
    simp[Addr.add]at hv
    obtain⟨b,off,cs,e1,e2,_⟩:=Tg hv
    exact⟨b,off,cs,e1,e2,trivial⟩
   have hs : ∀ x∈qs.map (QZ P e),x.cells.length=P.cellsOf e:=by
    intro x hx
    obtain⟨q,hq,rfl⟩:=List.mem_map.1 hx
    rw[hcells q hq]
    obtain⟨i,hi,rfl⟩:=List.getElem_of_mem hq
    exact(hq2 i _ (List.getElem?_eq_getElem hi)).1.1
   have hat : ∀ (j:Nat) p,(flat (qs.map (QZ P e)))[j]? = some p-> ∃ v,cs[off+j]? = some v∧v.oneCell'=true∧RP (CL w) v p:=by
    intro j p hp
    have hj:j<len*P.cellsOf e:=by
     have:=(List.getElem?_eq_some_iff.1 hp).1
     rw[Xl hs]at this
     simpa [hq1]using this
    have hi:j / P.cellsOf e<qs.length:=by rw[hq1];exact(Nat.div_lt_iff_lt_mul hsz).2 hj
    have hr:j % P.cellsOf e<P.cellsOf e:=Nat.mod_lt _ hsz
    have hqi:=List.getElem?_eq_getElem hi
    have e0:j=j / P.cellsOf e*P.cellsOf e+j % P.cellsOf e:=by rw[Nat.mul_comm];exact(Nat.div_add_mod _ _).symm
    have hxi:(qs.map (QZ P e))[j / P.cellsOf e]? = some (QZ P e qs[j / P.cellsOf e]):=by rw[List.getElem?_map,hqi];rfl
    have hfg:=Bo hs hxi hr
    rw[<- e0,hcells _ (List.getElem_mem hi)]at hfg
    rw[hfg]at hp
    obtain⟨v,hv,h1,h2⟩:=(hq2 _ _ hqi).2 _ p hp
    rw[<- e0,Z8]at hv
    obtain⟨b',off',cs',e1,e2,e3⟩:=Tg hv
    cases e1
    rw[hb]at e2
    cases e2
    exact⟨v,e3,h1,h2⟩
   have hlen:len=(qs.map (QZ P e)).length:=by simp[hq1]
   rw[hlen]
   refine .sl b off cs cap _ false _ (fun j=>(cs[off+j]?).getD default) hb (by rw[<- hlen];exact hcap) (fun e=>by cases e) hs (fun j p hp=> ?_) (fun j p hp=> ?_)
   ·obtain⟨v,h1,h2,h3⟩:=hat j p hp
    rw[h1]
    exact⟨rfl,h2⟩
   ·obtain⟨v,h1,h2,h3⟩:=hat j p hp
    rw[h1]
    exact h3
 ·obtain⟨i,hi,rfl⟩:=List.getElem_of_mem hq
  have:=(hq2 i _ (List.getElem?_eq_getElem hi)).1
  exact⟨this.1,this.2.1⟩
 ·refine ET (by rw[hq1,hl]) fun i q x hq hx=> ?_
  have:=(hq2 i q hq).1
  obtain⟨y,hy,hw⟩:=this.2.2
  rw[hx]at hy
  cases hy
  have hm:=d8l (P:=P) (e:=e) (q:=q) hag this.1
  omega
theorem Ex(hS:RN P S=true)(hA:b2d P S=true): ∀ (n:Nat) (t:TypeId) (cs:List Value) (x:DataW H×List MemPlace),t∈S->DataW.trod enc P w base sp held n t cs=some x-> ∃ ps,Cl w cs ps∧WB P n t ps∧YT ps<=uB x.1:=by
  intro n
  induction n with
  | zero=>intro t cs x _ h;simp[DataW.trod]at h
  | succ n ih=>
    intro t cs x ht h
    have hp:=Ty hS ht
    have hna:=List.all_eq_true.1 hA t ht
    unfold DataW.trod at h
    unfold WB
    split at h <;> (try rename_i hu) <;> (try simp only[hu]at hp hna ⊢) <;> try (cases hp;done)
    all_goals first
      | (exact⟨_,Cl.one (.bool _) rfl,⟨_,rfl⟩,F9 _⟩)
      | (split at h
         · rename_i hc
           obtain⟨rfl,hw⟩:=hc
           exact⟨_,Cl.one (.int _ _) rfl,⟨_,rfl,hw⟩,F9 _⟩
         · cases h)
      | (split at h
         · rename_i hc
           cases h
           refine⟨_,Cl.one (.str _) rfl,⟨_,rfl,hc⟩,?_⟩
           show YT [PV.str _]<=Go.Proofs.YtgdebdgkofkeeaaGreatDoor.Rows.uptoBulk (DataW.lit (.string _))
           rw[Go.Proofs.YtgdebdgkofkeeaaGreatDoor.Rows.uptoBulk,YT,YT,pvW]
           omega
         · cases h)
      | (cases h;done)
      | (cases hna;done)
      | skip
    · exact⟨_,Cl.one (.sl0 _ _ _ false (fun e=>by cases e)) rfl,⟨[],rfl,by simp,fun q hq=>by simp at hq⟩,F9 _⟩
    · rename_i e a len cap
      simp only[Bool.and_eq_true,Bool.or_eq_true,beq_iff_eq,decide_eq_true_eq]at hp
      simp only at h
      split at h
      · rename_i hc
        obtain⟨xs,h1,h3⟩:=Option.bind_eq_some_iff.1 h
        obtain⟨ys,h4,rfl⟩:=Option.map_eq_some_iff.1 h3
        obtain⟨qs,k1,k2,k3,k4⟩:=NR hp.1.2 hp.2 hc.2.1 hc.2.2 (fun cs x hx=>ih e cs x (by simpa using hp.1.1.2) hx) h1
        refine⟨_,Cl.one k1 rfl,⟨qs,rfl,k2,k3⟩,?_⟩
        show YT [PV.sl _ false (qs.map (QZ P e))]<=Go.Proofs.YtgdebdgkofkeeaaGreatDoor.Rows.uptoBulk (DataW.slice (xs.map (·.1)) (ys.map (·.1)))
        rw[Go.Proofs.YtgdebdgkofkeeaaGreatDoor.Rows.uptoBulk,YT,YT,pvW]
        have:YT (qs.map (QZ P e))<=Go.Proofs.YtgdebdgkofkeeaaGreatDoor.Rows.uptoBulkAll (xs.map (·.1)):=k4
        omega
      · cases h
    · rename_i cs2 fs
      simp only[Bool.and_eq_true]at hp
      split at h
      · rename_i hc
        rw[Option.map_eq_some_iff]at h
        obtain⟨xs,h1,rfl⟩:=h
        obtain⟨ps,k1,k3,k2⟩:=Ps ih fs.toList 0 (P.cellsOf t) xs hp.1 (fun f hf=>by simpa using List.all_eq_true.1 hp.2 f hf) hc (Nat.zero_le _) h1
        rw[List.drop_zero]at k1
        refine⟨ps,k1,⟨by rw[<- k1.1.1,hc],fun f hf=>by simpa using k2 [] rfl f hf⟩,?_⟩
        show YT ps<=Go.Proofs.YtgdebdgkofkeeaaGreatDoor.Rows.uptoBulk (DataW.agg (xs.map (·.1)))
        rw[Go.Proofs.YtgdebdgkofkeeaaGreatDoor.Rows.uptoBulk]
        have:YT ps<=Go.Proofs.YtgdebdgkofkeeaaGreatDoor.Rows.uptoBulkAll (xs.map (·.1)):=k3
        omega
      · cases h
theorem a5p(hS:RN P S=true)(hA:b2d P S=true){t:TypeId}(ht:t∈S){r:Reach}{b0:Nat}{v:Value}{d:DataW H}{p:List MemPlace}(hval:Value.okWide P w r b0 t v)(h:DataW.Trod enc P w base sp held t v d p):
  ∃ n q,RP (CL w) v (QZ P t q)∧WB P n t q∧YT q<=uB d:=by
 obtain⟨n,h⟩:=h
 obtain⟨q,k1,k2,k3⟩:=Ex hS hA n t _ _ ht h
 refine⟨n,q,?_,k2,k3⟩
 have hp:=Ty hS ht
 have scal:v.cells = #[v]->YO P t=false->RP (CL w) v (QZ P t q):=by
  intro hc ha
  rw[hc]at k1
  have hl:=k1.1.1
  match q,hl with
  | [x],_=>simp only[QZ,ha,List.headD_cons];exact k1.1.2 0 v x rfl rfl
 have agg : ∀ cs,v = .agg cs->YO P t=true->RP (CL w) v (QZ P t q):=by
  rintro cs rfl ha
  simp only[QZ,ha]
  exact .agg cs q (by have:=k1.1.1;simpa [Value.cells]using this) (fun x hx=>k1.2 x (by simpa [Value.cells]using hx)) fun j x y hx hy=>k1.1.2 j x y (by simpa [Value.cells]using hx) hy
 split at hp
 ·rename_i hu
  obtain⟨b,rfl⟩:=okWide_bool hu hval
  exact scal rfl (by simp[YO,hu])
 ·rename_i hu
  obtain⟨b,rfl⟩:=okWide_int hu hval
  exact scal rfl (by simp[YO,hu])
 ·rename_i hu
  obtain⟨b,rfl⟩:=okWide_string hu hval
  exact scal rfl (by simp[YO,hu])
 ·rename_i hu
  obtain⟨a,l,c,rfl⟩:=okWide_slice hu hval
  exact scal rfl (by simp[YO,hu])
 ·rename_i hu
  simp only[Value.okWide,hu]at hval
  obtain⟨cs,rfl,_⟩:=hval
  exact agg cs rfl (by simp[YO,hu])
 ·rename_i hu
  simp only[Value.okWide,hu]at hval
  obtain⟨cs,rfl,_⟩:=hval
  exact agg cs rfl (by simp[YO,hu])
 ·cases hp
end
end Go.Pl
namespace Go.Pl
open Enc (enc dec is)
open EncL (encL decL isL)
theorem Ov(l:List Int):YT (l.map enc)=l.length:=by
 induction l with
 | nil=>rfl
 | cons a l ih=>rw[List.map_cons,YT,ih,List.length_cons];show 1+_=_;omega
theorem c3v(l:List Coef):YT (l.map enc)=(l.map wCf).sum:=by
 induction l with
 | nil=>rfl
 | cons a l ih=>
  rw[List.map_cons,YT,ih,List.map_cons,List.sum_cons]
  rfl
theorem d1p(l:List Lin):YT (l.map enc)=(l.map wLn).sum:=by
 induction l with
 | nil=>rfl
 | cons a l ih=>
  rw[List.map_cons,YT,ih,List.map_cons,List.sum_cons]
  congr 1
  show pvW (.agg [.int .i64 a.k,.sl 2 false (a.t.map enc)])=_
  simp only[pvW,YT,c3v]
  unfold wLn
  omega
end Go.Pl
namespace Go.Proofs.YtgdebdgkofkeeaaGreatDoor
open Go.Pl
set_option maxRecDepth 100000
open Enc (enc dec is)
open EncL (encL decL isL)
theorem KM:Tryz.prog.underlying 3=some (.int .i64):=by kernel_rfl
theorem RJ:Tryz.prog.underlying 9=some .string:=by kernel_rfl
theorem b8i:Tryz.prog.underlying 22=some (.slice 3):=by kernel_rfl
theorem b0q:Tryz.prog.underlying 60=some (.slice 89):=by kernel_rfl
theorem a9p:Tryz.prog.underlying 25=some (.slice 62):=by kernel_rfl
theorem b3h:Tryz.prog.underlying 26=some (.slice 28):=by kernel_rfl
theorem CB:Tryz.prog.cellsOf 3=1:=by kernel_rfl
theorem Rw:Tryz.prog.cellsOf 9=1:=by kernel_rfl
theorem LY:Tryz.prog.cellsOf 22=1:=by kernel_rfl
theorem b1w:Tryz.prog.cellsOf 60=1:=by kernel_rfl
theorem b6o:Tryz.prog.cellsOf 25=1:=by kernel_rfl
theorem b2n:Tryz.prog.cellsOf 26=1:=by kernel_rfl
theorem Mx:Tryz.prog.cellsOf 89=2:=by kernel_rfl
theorem Lc:Tryz.prog.cellsOf 62=2:=by kernel_rfl
theorem LQ:Tryz.prog.cellsOf 24=3:=by kernel_rfl
theorem LU:Tryz.prog.cellsOf 28=10:=by kernel_rfl
theorem d1q:YO Tryz.prog 89=true:=by kernel_rfl
theorem d3f:YO Tryz.prog 62=true:=by kernel_rfl
theorem a9f:YO Tryz.prog 28=true:=by kernel_rfl
theorem b6h:Kw Tryz.prog 89=some [(0,9),(1,3)]:=by kernel_rfl
theorem b7j:Kw Tryz.prog 62=some [(0,3),(1,60)]:=by kernel_rfl
theorem b5c:Kw Tryz.prog 24=some [(0,9),(1,22),(2,22)]:=by kernel_rfl
theorem b2h:Kw Tryz.prog 28=some [(0,3),(1,3),(2,9),(3,3),(4,24),(7,25),(8,22),(9,26)]:=by kernel_rfl
theorem Ri{α:Type}[Enc α]{f:List PV->PV}: ∀ {qs:List (List PV)},(∀ q∈qs,∃ a:α,f q=enc a)-> ∃ l:List α,qs.map f=l.map enc
 | [],_=>⟨[],rfl⟩
 | q::qs,h=>by
  obtain⟨a,e⟩:=h q (by simp)
  obtain⟨l,e2⟩:=Ri (qs:=qs) fun x hx=>h x (by simp[hx])
  exact⟨a::l,by rw[List.map_cons,List.map_cons,e,e2]⟩
theorem c0t{n:Nat}{q:List PV}(h:WB Tryz.prog n 89 q): ∃ t:Coef,QZ Tryz.prog 89 q=enc t:=by
 obtain⟨m,_,hl,h0,h1,_⟩:=UA b6h Mx h
 match q,hl with
 | [a,b],_=>
  rw[Rw]at h0
  rw[CB]at h1
  obtain⟨s,e0,_⟩:=BQ RJ h0
  obtain⟨k,e1,_⟩:=U6 KM h1
  simp at e0 e1
  subst e0 e1
  exact⟨⟨⟨s⟩,k⟩,by rw[QZ,d1q];rfl⟩
theorem Pp{n:Nat}{q:List PV}(h:WB Tryz.prog n 22 q): ∃ l:List Int,q=[enc l]:=by
 obtain⟨zs,e,_⟩:=a5f b8i KM CB h
 exact⟨zs,e⟩
theorem c5l{n:Nat}{q:List PV}(h:WB Tryz.prog n 62 q): ∃ l:Lin,QZ Tryz.prog 62 q=enc l:=by
 obtain⟨m,_,hl,h0,h1,_⟩:=UA b7j Lc h
 match q,hl with
 | [a,b],_=>
  rw[CB]at h0
  rw[b1w]at h1
  obtain⟨k,e0,_⟩:=U6 KM h0
  obtain⟨m',_,qs,e1,_,hq⟩:=Qs b0q Mx h1
  obtain⟨l,e2⟩:=Ri (α:=Coef) (f:=QZ Tryz.prog 89) fun x hx=>c0t (hq x hx).2
  simp at e0 e1
  subst e0 e1
  exact⟨⟨k,l⟩,by rw[QZ,d3f,e2];rfl⟩
end Go.Proofs.YtgdebdgkofkeeaaGreatDoor
namespace Go.Pl
open Enc (enc dec is)
open EncL (encL decL isL)
mutual
theorem a8v: ∀ t:Tm,Qi t+9*Zk t<=pvW (tmP t)
 | .mk n ks=>by
  have h:=a0f ks
  have h1:=Ov n.dims
  have h2:=Ov n.data
  have h3:=Ov n.ranks
  have h4:=d1p n.sizes
  rw[tmP,Qi,Zk]
  show EJ n+VA ks+9*(Zo ks+1)<=pvW (.agg [.int .i64 n.kind,.int .i64 n.line,.str n.name.s,.int .i64 n.num,.str n.elem.s,.sl 1 false (n.dims.map enc),.sl 1 false (n.data.map enc),.sl 2 false (n.sizes.map enc),.sl 1 false (n.ranks.map enc),.sl 10 false (Jo ks)])
  simp only[pvW,YT,h1,h2,h3,h4]
  unfold EJ
  omega
theorem a0f: ∀ ks:List Tm,VA ks+9*Zo ks<=YT (Jo ks)
 | []=>by simp[VA,Jo,YT,Zo]
 | k::ks=>by
  have h1:=a8v k
  have h2:=a0f ks
  rw[VA,Jo,YT,Zo];omega
end
end Go.Pl
namespace Go.Proofs.YtgdebdgkofkeeaaGreatDoor
open Go.Pl
set_option maxRecDepth 100000
open Enc (enc dec is)
open EncL (encL decL isL)
end Go.Proofs.YtgdebdgkofkeeaaGreatDoor
namespace Go.Pl
open Enc (enc dec is)
theorem NS{α:Type}[Enc α]{p:α->Prop}{f:List PV->PV}: ∀ {qs:List (List PV)},(∀ q∈qs,∃ a:α,f q=enc a∧p a)-> ∃ l:List α,qs.map f=l.map enc∧ ∀ a∈l,p a
 | [],_=>⟨[],rfl,fun _ h=>by cases h⟩
 | q::qs,h=>by
  obtain⟨a,e,ha⟩:=h q (by simp)
  obtain⟨l,e2,hl⟩:=NS (qs:=qs) fun x hx=>h x (by simp[hx])
  exact⟨a::l,by rw[List.map_cons,List.map_cons,e,e2],fun x hx=>by
   rcases List.mem_cons.1 hx with rfl|hx
   ·exact ha
   ·exact hl x hx⟩
theorem c3m{n:Nd}{ks:List Tm}(h : -9223372036854775808<=n.line∧n.line<=9223372036854775807)(hk : ∀ k∈ks,Q5 k=true):Q5 (.mk n ks)=true:=by
 unfold Q5
 rw[PS,List.all_cons,List.all_flatMap]
 simp only[Bool.and_eq_true]
 refine⟨?_,List.all_eq_true.2 fun k hx=>hk k hx⟩
 show(decide (-9223372036854775808<=n.line)&&decide (n.line<=9223372036854775807))=true
 rw[decide_eq_true h.1,decide_eq_true h.2];rfl
end Go.Pl
namespace Go.Proofs.YtgdebdgkofkeeaaGreatDoor
open Go.Pl
set_option maxRecDepth 100000
open Enc (enc dec is)
open EncL (encL decL isL)
theorem c4a: ∀ (n:Nat) {q:List PV},WB Tryz.prog n 28 q-> ∃ t:Tm,QZ Tryz.prog 28 q=enc t∧Q5 t=true:=by
 intro n
 induction n using Nat.strongRecOn with
 | ind n ih=>
  intro q h
  obtain⟨m,hm,hl,h0,h1,h2,h3,h4,h5,h6,h7,_⟩:=UA b2h LU h
  match q,hl with
  | [a,b,c,d,e,f,g,i,j,k],_=>
   rw[CB]at h0 h1 h3
   rw[Rw]at h2
   rw[LQ]at h4
   rw[b6o]at h5
   rw[LY]at h6
   rw[b2n]at h7
   obtain⟨v0,e0,_⟩:=U6 KM h0
   obtain⟨v1,e1,w1⟩:=U6 KM h1
   obtain⟨v2,e2,_⟩:=BQ RJ h2
   obtain⟨v3,e3,_⟩:=U6 KM h3
   obtain⟨m4,_,_,k0,k1,k2,_⟩:=UA b5c LQ h4
   rw[Rw]at k0
   rw[LY]at k1 k2
   obtain⟨v4,e4,_⟩:=BQ RJ k0
   obtain⟨v5,e5⟩:=Pp k1
   obtain⟨v6,e6⟩:=Pp k2
   obtain⟨m7,_,qs,e7,_,hq⟩:=Qs a9p Lc h5
   obtain⟨v7,e7'⟩:=Ri (α:=Lin) (f:=QZ Tryz.prog 62) fun x hx=>c5l (hq x hx).2
   obtain⟨v8,e8⟩:=Pp h6
   obtain⟨m9,hm9,ts,e9,_,ht⟩:=Qs b3h LU h7
   obtain⟨v9,e9',p9⟩:=NS (α:=Tm) (p:=fun t=>Q5 t=true) (f:=QZ Tryz.prog 28) fun x hx=>ih m9 (by omega) (ht x hx).2
   simp at e0 e1 e2 e3 e4 e5 e6 e7 e8 e9
   subst e0 e1 e2 e3 e4 e5 e6 e7 e8 e9
   exact⟨.mk ⟨v0,v1,⟨v2⟩,v3,⟨v4⟩,v5,v6,v7,v8⟩ v9,by rw[QZ,a9f,Zx,e7',e9'];rfl,c3m (d4s w1) p9⟩
theorem b4o{n:Nat}{q:List PV}(h:WB Tryz.prog n 28 q): ∃ t:Tm,QZ Tryz.prog 28 q=enc t∧Qi t+9*Zk t<=YT q∧Q5 t=true:=by
 obtain⟨t,e,hl⟩:=c4a n h
 refine⟨t,e,?_,hl⟩
 have h1:=a8v t
 have h2:pvW (QZ Tryz.prog 28 q)<=YT q:=by simp only[QZ,a9f];rw[pvW];exact Nat.le_refl _
 rw[e]at h2
 have h3:pvW (tmP t)<=YT q:=h2
 omega
theorem a8u{n:Nat}{q:List PV}(h:WB Tryz.prog n 28 q)(hw:YT q<=1048576):preT (fun x:Tm×Unit=>decide (Qi x.1+9*Zk x.1<=1048576)&&Q5 x.1) [QZ Tryz.prog 28 q]=true:=by
 obtain⟨t,e,h1,h2⟩:=b4o h
 rw[e]
 refine Ze (t,()) rfl ?_
 show(decide (Qi t+9*Zk t<=1048576)&&Q5 t)=true
 rw[decide_eq_true (by omega),h2];rfl
end Go.Proofs.YtgdebdgkofkeeaaGreatDoor
namespace Go.Proofs.YtgdebdgkofkeeaaGreatDoor
open Go.Shelf
def Tryz.lays145_ren:Go.Shelf.Ren:=⟨fun|145=>145|220=>174|219=>194|217=>205|225=>206|224=>207|267=>208|266=>212|314=>213|n=>n,fun|9=>9|4=>4|59=>146|3=>3|5=>5|46=>111|146=>197|51=>138|n=>n,fun|1=>0|n=>n⟩
theorem Tryz.lays145:Go.Proofs.Lays.n145 Tryz.prog Tryz.lays145_ren:={
 mixed:=by kernel_rfl
 f145:=Tryz.func145.trans (congrArg some (by kernel_rfl))
 f217:=Tryz.func205.trans (congrArg some (by kernel_rfl))
 f219:=Tryz.func194.trans (congrArg some (by kernel_rfl))
 f220:=Tryz.func174.trans (congrArg some (by kernel_rfl))
 f224:=Tryz.func207.trans (congrArg some (by kernel_rfl))
 f225:=Tryz.func206.trans (congrArg some (by kernel_rfl))
 f266:=Tryz.func212.trans (congrArg some (by kernel_rfl))
 f267:=Tryz.func208.trans (congrArg some (by kernel_rfl))
 f314:=Tryz.func213.trans (congrArg some (by kernel_rfl))
 t3:=Tryz.underlying3
 a3:=Tryz.isAgg3
 z3:=Tryz.sizeOf3
 v3:=Tryz.zeroValue3
 t4:=Tryz.underlying4
 a4:=Tryz.isAgg4
 z4:=Tryz.sizeOf4
 v4:=Tryz.zeroValue4
 t5:=Tryz.underlying5
 a5:=Tryz.isAgg5
 z5:=Tryz.sizeOf5
 v5:=Tryz.zeroValue5
 t9:=Tryz.underlying9
 a9:=Tryz.isAgg9
 z9:=Tryz.sizeOf9
 v9:=Tryz.zeroValue9
 t46:=Tryz.underlying111
 a46:=Tryz.isAgg111
 z46:=Tryz.sizeOf111
 v46:=Tryz.zeroValue111
 t51:=Tryz.underlying138
 a51:=Tryz.isAgg138
 z51:=Tryz.sizeOf138
 v51:=Tryz.zeroValue138
 t59:=Tryz.underlying146
 a59:=Tryz.isAgg146
 z59:=Tryz.sizeOf146
 v59:=Tryz.zeroValue146
 t146:=Tryz.underlying197
 a146:=Tryz.isAgg197
 z146:=Tryz.sizeOf197
 v146:=Tryz.zeroValue197
 g1:=by kernel_rfl}
def Tryz.lays106_ren:Go.Shelf.Ren:=⟨fun|106=>122|213=>149|265=>180|n=>n,fun|9=>9|3=>3|n=>n,fun|n=>n⟩
theorem Tryz.lays106:Go.Proofs.Lays.n106 Tryz.prog Tryz.lays106_ren:={
 mixed:=by kernel_rfl
 f106:=Tryz.func122.trans (congrArg some (by kernel_rfl))
 f213:=Tryz.func149.trans (congrArg some (by kernel_rfl))
 f265:=Tryz.func180.trans (congrArg some (by kernel_rfl))
 t3:=Tryz.underlying3
 a3:=Tryz.isAgg3
 z3:=Tryz.sizeOf3
 v3:=Tryz.zeroValue3
 t9:=Tryz.underlying9
 a9:=Tryz.isAgg9
 z9:=Tryz.sizeOf9
 v9:=Tryz.zeroValue9}
def Tryz.mcB_ren:Go.Shelf.Ren:=⟨fun|5=>76|7=>102|n=>n,fun|23=>64|25=>9|3=>4|4=>4|20=>20|n=>n,fun|n=>n⟩
theorem Tryz.mcB:Go.Proofs.SlLaysW.n5 Tryz.prog Tryz.mcB_ren:={
 mixed:=by kernel_rfl
 f5:=⟨Tryz.f76.name,by decide,Tryz.func76.trans (congrArg some (by kernel_rfl))⟩
 f7:=Tryz.func102.trans (congrArg some (by kernel_rfl))
 t4:=Tryz.underlying4
 a4:=Tryz.isAgg4
 z4:=Tryz.sizeOf4
 v4:=Tryz.zeroValue4
 t20:=Tryz.underlying20
 a20:=Tryz.isAgg20
 z20:=Tryz.sizeOf20
 v20:=Tryz.zeroValue20
 t23:=Tryz.underlying64
 a23:=Tryz.isAgg64
 z23:=Tryz.sizeOf64
 v23:=Tryz.zeroValue64}
def Tryz.mcS_ren:Go.Shelf.Ren:=⟨fun|5=>92|7=>102|n=>n,fun|23=>80|25=>9|3=>9|4=>4|20=>20|n=>n,fun|n=>n⟩
theorem Tryz.mcS:Go.Proofs.SlLaysW.n5 Tryz.prog Tryz.mcS_ren:={
 mixed:=by kernel_rfl
 f5:=⟨Tryz.f92.name,by decide,Tryz.func92.trans (congrArg some (by kernel_rfl))⟩
 f7:=Tryz.func102.trans (congrArg some (by kernel_rfl))
 t4:=Tryz.underlying4
 a4:=Tryz.isAgg4
 z4:=Tryz.sizeOf4
 v4:=Tryz.zeroValue4
 t20:=Tryz.underlying20
 a20:=Tryz.isAgg20
 z20:=Tryz.sizeOf20
 v20:=Tryz.zeroValue20
 t23:=Tryz.underlying80
 a23:=Tryz.isAgg80
 z23:=Tryz.sizeOf80
 v23:=Tryz.zeroValue80}
def Tryz.lays172_ren:Go.Shelf.Ren:=⟨fun|172=>170|244=>191|245=>192|247=>200|279=>201|280=>202|281=>203|282=>204|287=>209|316=>210|171=>68|205=>211|321=>214|322=>215|243=>90|246=>124|283=>150|284=>151|285=>152|286=>153|129=>137|317=>181|318=>182|319=>183|320=>184|337=>197|338=>198|n=>n,fun|9=>9|3=>3|75=>165|76=>166|4=>4|5=>5|167=>182|37=>127|0=>0|85=>183|2=>2|168=>185|53=>140|175=>191|46=>111|210=>195|127=>200|145=>203|143=>201|21=>21|171=>148|173=>150|212=>172|51=>138|20=>20|213=>173|232=>189|233=>190|80=>78|n=>n,fun|15=>4|16=>5|17=>1|18=>2|19=>3|n=>n⟩
theorem Tryz.lays172:Go.Proofs.LaysC.n172 Tryz.prog Tryz.lays172_ren:={
 mixed:=by kernel_rfl
 f129:=Tryz.func137.trans (congrArg some (by kernel_rfl))
 f171:=Tryz.func68.trans (congrArg some (by kernel_rfl))
 f172:=Tryz.func170.trans (congrArg some (by kernel_rfl))
 f205:=Tryz.func211.trans (congrArg some (by kernel_rfl))
 f243:=Tryz.func90.trans (congrArg some (by kernel_rfl))
 f244:=Tryz.func191.trans (congrArg some (by kernel_rfl))
 f245:=Tryz.func192.trans (congrArg some (by kernel_rfl))
 f246:=Tryz.func124.trans (congrArg some (by kernel_rfl))
 f247:=Tryz.func200.trans (congrArg some (by kernel_rfl))
 f279:=Tryz.func201.trans (congrArg some (by kernel_rfl))
 f280:=Tryz.func202.trans (congrArg some (by kernel_rfl))
 f281:=Tryz.func203.trans (congrArg some (by kernel_rfl))
 f282:=Tryz.func204.trans (congrArg some (by kernel_rfl))
 f283:=Tryz.func150.trans (congrArg some (by kernel_rfl))
 f284:=Tryz.func151.trans (congrArg some (by kernel_rfl))
 f285:=Tryz.func152.trans (congrArg some (by kernel_rfl))
 f286:=Tryz.func153.trans (congrArg some (by kernel_rfl))
 f287:=Tryz.func209.trans (congrArg some (by kernel_rfl))
 f316:=Tryz.func210.trans (congrArg some (by kernel_rfl))
 f317:=Tryz.func181.trans (congrArg some (by kernel_rfl))
 f318:=Tryz.func182.trans (congrArg some (by kernel_rfl))
 f319:=Tryz.func183.trans (congrArg some (by kernel_rfl))
 f320:=Tryz.func184.trans (congrArg some (by kernel_rfl))
 f321:=Tryz.func214.trans (congrArg some (by kernel_rfl))
 f322:=Tryz.func215.trans (congrArg some (by kernel_rfl))
 f337:=Tryz.func197.trans (congrArg some (by kernel_rfl))
 f338:=Tryz.func198.trans (congrArg some (by kernel_rfl))
 t0:=Tryz.underlying0
 a0:=Tryz.isAgg0
 z0:=Tryz.sizeOf0
 v0:=Tryz.zeroValue0
 t2:=Tryz.underlying2
 a2:=Tryz.isAgg2
 z2:=Tryz.sizeOf2
 v2:=Tryz.zeroValue2
 t3:=Tryz.underlying3
 a3:=Tryz.isAgg3
 z3:=Tryz.sizeOf3
 v3:=Tryz.zeroValue3
 t4:=Tryz.underlying4
 a4:=Tryz.isAgg4
 z4:=Tryz.sizeOf4
 v4:=Tryz.zeroValue4
 t5:=Tryz.underlying5
 a5:=Tryz.isAgg5
 z5:=Tryz.sizeOf5
 v5:=Tryz.zeroValue5
 t9:=Tryz.underlying9
 a9:=Tryz.isAgg9
 z9:=Tryz.sizeOf9
 v9:=Tryz.zeroValue9
 t20:=Tryz.underlying20
 a20:=Tryz.isAgg20
 z20:=Tryz.sizeOf20
 v20:=Tryz.zeroValue20
 t21:=Tryz.underlying21
 a21:=Tryz.isAgg21
 z21:=Tryz.sizeOf21
 v21:=Tryz.zeroValue21
 t37:=Tryz.underlying127
 a37:=Tryz.isAgg127
 z37:=Tryz.sizeOf127
 v37:=Tryz.zeroValue127
 t46:=Tryz.underlying111
 a46:=Tryz.isAgg111
 z46:=Tryz.sizeOf111
 v46:=Tryz.zeroValue111
 t51:=Tryz.underlying138
 a51:=Tryz.isAgg138
 z51:=Tryz.sizeOf138
 v51:=Tryz.zeroValue138
 t53:=Tryz.underlying140
 a53:=Tryz.isAgg140
 z53:=Tryz.sizeOf140
 v53:=Tryz.zeroValue140
 t75:=Tryz.underlying165
 a75:=Tryz.isAgg165
 z75:=Tryz.sizeOf165
 v75:=Tryz.zeroValue165
 t76:=Tryz.underlying166
 a76:=Tryz.isAgg166
 z76:=Tryz.sizeOf166
 v76:=Tryz.zeroValue166
 t85:=Tryz.underlying183
 a85:=Tryz.isAgg183
 z85:=Tryz.sizeOf183
 v85:=Tryz.zeroValue183
 t127:=Tryz.underlying200
 a127:=Tryz.isAgg200
 z127:=Tryz.sizeOf200
 v127:=Tryz.zeroValue200
 t143:=Tryz.underlying201
 a143:=Tryz.isAgg201
 z143:=Tryz.sizeOf201
 v143:=Tryz.zeroValue201
 t145:=Tryz.underlying203
 a145:=Tryz.isAgg203
 z145:=Tryz.sizeOf203
 v145:=Tryz.zeroValue203
 t167:=Tryz.underlying182
 a167:=Tryz.isAgg182
 z167:=Tryz.sizeOf182
 v167:=Tryz.zeroValue182
 t168:=Tryz.underlying185
 a168:=Tryz.isAgg185
 z168:=Tryz.sizeOf185
 v168:=Tryz.zeroValue185
 t171:=Tryz.underlying148
 a171:=Tryz.isAgg148
 z171:=Tryz.sizeOf148
 v171:=Tryz.zeroValue148
 t173:=Tryz.underlying150
 a173:=Tryz.isAgg150
 z173:=Tryz.sizeOf150
 v173:=Tryz.zeroValue150
 t175:=Tryz.underlying191
 a175:=Tryz.isAgg191
 z175:=Tryz.sizeOf191
 v175:=Tryz.zeroValue191
 t210:=Tryz.underlying195
 a210:=Tryz.isAgg195
 z210:=Tryz.sizeOf195
 v210:=Tryz.zeroValue195
 t212:=Tryz.underlying172
 a212:=Tryz.isAgg172
 z212:=Tryz.sizeOf172
 v212:=Tryz.zeroValue172
 t213:=Tryz.underlying173
 a213:=Tryz.isAgg173
 z213:=Tryz.sizeOf173
 t232:=Tryz.underlying189
 a232:=Tryz.isAgg189
 z232:=Tryz.sizeOf189
 v232:=Tryz.zeroValue189
 t233:=Tryz.underlying190
 a233:=Tryz.isAgg190
 z233:=Tryz.sizeOf190
 v233:=Tryz.zeroValue190
 g15:=by kernel_rfl
 g16:=by kernel_rfl
 g17:=by kernel_rfl
 g18:=by kernel_rfl
 g19:=by kernel_rfl
 t80:=Tryz.underlying78
 a80:=Tryz.isAgg78
 z80:=Tryz.sizeOf78
 v80:=Tryz.zeroValue78
 i0:=by kernel_rfl
 i2:=by kernel_rfl
 i3:=by kernel_rfl
 i4:=by kernel_rfl
 i5:=by kernel_rfl
 i9:=by kernel_rfl
 i20:=by kernel_rfl
 i21:=by kernel_rfl
 i37:=by kernel_rfl
 i46:=by kernel_rfl
 i51:=by kernel_rfl
 i53:=by kernel_rfl
 i75:=by kernel_rfl
 i76:=by kernel_rfl
 i80:=by kernel_rfl
 i85:=by kernel_rfl
 i127:=by kernel_rfl
 i143:=by kernel_rfl
 i145:=by kernel_rfl
 i167:=by kernel_rfl
 i168:=by kernel_rfl
 i171:=by kernel_rfl
 i173:=by kernel_rfl
 i175:=by kernel_rfl
 i210:=by kernel_rfl
 i212:=by kernel_rfl
 i232:=by kernel_rfl
 i233:=by kernel_rfl
 m15:=by kernel_rfl
 m16:=by kernel_rfl
 m17:=by kernel_rfl
 m18:=by kernel_rfl
 m19:=by kernel_rfl
 c0:=by kernel_rfl
 c2:=by kernel_rfl
 c3:=by kernel_rfl
 c4:=by kernel_rfl
 c5:=by kernel_rfl
 c9:=by kernel_rfl
 c20:=by kernel_rfl
 c21:=by kernel_rfl
 c37:=by kernel_rfl
 c46:=by kernel_rfl
 c51:=by kernel_rfl
 c53:=by kernel_rfl
 c75:=by kernel_rfl
 c76:=by kernel_rfl
 c80:=by kernel_rfl
 c85:=by kernel_rfl
 c127:=by kernel_rfl
 c143:=by kernel_rfl
 c145:=by kernel_rfl
 c167:=by kernel_rfl
 c168:=by kernel_rfl
 c171:=by kernel_rfl
 c173:=by kernel_rfl
 c175:=by kernel_rfl
 c210:=by kernel_rfl
 c212:=by kernel_rfl
 c213:=by kernel_rfl
 c232:=by kernel_rfl
 c233:=by kernel_rfl}
def Tryz.lays171_ren:Go.Shelf.Ren:=⟨fun|171=>68|243=>90|246=>124|283=>150|284=>151|285=>152|286=>153|129=>137|317=>181|318=>182|319=>183|320=>184|337=>197|338=>198|n=>n,fun|3=>3|9=>9|2=>2|4=>4|171=>148|0=>0|53=>140|37=>127|5=>5|173=>150|212=>172|51=>138|20=>20|213=>173|46=>111|232=>189|233=>190|n=>n,fun|17=>1|18=>2|19=>3|n=>n⟩
theorem Tryz.lays171:Go.Proofs.LaysM.n171 Tryz.prog Tryz.lays171_ren:={
 mixed:=by kernel_rfl
 f129:=Tryz.func137.trans (congrArg some (by kernel_rfl))
 f171:=Tryz.func68.trans (congrArg some (by kernel_rfl))
 f243:=Tryz.func90.trans (congrArg some (by kernel_rfl))
 f246:=Tryz.func124.trans (congrArg some (by kernel_rfl))
 f283:=Tryz.func150.trans (congrArg some (by kernel_rfl))
 f284:=Tryz.func151.trans (congrArg some (by kernel_rfl))
 f285:=Tryz.func152.trans (congrArg some (by kernel_rfl))
 f286:=Tryz.func153.trans (congrArg some (by kernel_rfl))
 f317:=Tryz.func181.trans (congrArg some (by kernel_rfl))
 f318:=Tryz.func182.trans (congrArg some (by kernel_rfl))
 f319:=Tryz.func183.trans (congrArg some (by kernel_rfl))
 f320:=Tryz.func184.trans (congrArg some (by kernel_rfl))
 f337:=Tryz.func197.trans (congrArg some (by kernel_rfl))
 f338:=Tryz.func198.trans (congrArg some (by kernel_rfl))
 t0:=Tryz.underlying0
 a0:=Tryz.isAgg0
 z0:=Tryz.sizeOf0
 v0:=Tryz.zeroValue0
 t2:=Tryz.underlying2
 a2:=Tryz.isAgg2
 z2:=Tryz.sizeOf2
 v2:=Tryz.zeroValue2
 t3:=Tryz.underlying3
 a3:=Tryz.isAgg3
 z3:=Tryz.sizeOf3
 v3:=Tryz.zeroValue3
 t4:=Tryz.underlying4
 a4:=Tryz.isAgg4
 z4:=Tryz.sizeOf4
 v4:=Tryz.zeroValue4
 t5:=Tryz.underlying5
 a5:=Tryz.isAgg5
 z5:=Tryz.sizeOf5
 v5:=Tryz.zeroValue5
 t9:=Tryz.underlying9
 a9:=Tryz.isAgg9
 z9:=Tryz.sizeOf9
 v9:=Tryz.zeroValue9
 t20:=Tryz.underlying20
 a20:=Tryz.isAgg20
 z20:=Tryz.sizeOf20
 v20:=Tryz.zeroValue20
 t37:=Tryz.underlying127
 a37:=Tryz.isAgg127
 z37:=Tryz.sizeOf127
 v37:=Tryz.zeroValue127
 t46:=Tryz.underlying111
 a46:=Tryz.isAgg111
 z46:=Tryz.sizeOf111
 v46:=Tryz.zeroValue111
 t51:=Tryz.underlying138
 a51:=Tryz.isAgg138
 z51:=Tryz.sizeOf138
 v51:=Tryz.zeroValue138
 t53:=Tryz.underlying140
 a53:=Tryz.isAgg140
 z53:=Tryz.sizeOf140
 v53:=Tryz.zeroValue140
 t171:=Tryz.underlying148
 a171:=Tryz.isAgg148
 z171:=Tryz.sizeOf148
 v171:=Tryz.zeroValue148
 t173:=Tryz.underlying150
 a173:=Tryz.isAgg150
 z173:=Tryz.sizeOf150
 v173:=Tryz.zeroValue150
 t212:=Tryz.underlying172
 a212:=Tryz.isAgg172
 z212:=Tryz.sizeOf172
 v212:=Tryz.zeroValue172
 t213:=Tryz.underlying173
 a213:=Tryz.isAgg173
 z213:=Tryz.sizeOf173
 t232:=Tryz.underlying189
 a232:=Tryz.isAgg189
 z232:=Tryz.sizeOf189
 v232:=Tryz.zeroValue189
 t233:=Tryz.underlying190
 a233:=Tryz.isAgg190
 z233:=Tryz.sizeOf190
 v233:=Tryz.zeroValue190
 g17:=by kernel_rfl
 g18:=by kernel_rfl
 g19:=by kernel_rfl
 i0:=by kernel_rfl
 i2:=by kernel_rfl
 i3:=by kernel_rfl
 i4:=by kernel_rfl
 i5:=by kernel_rfl
 i9:=by kernel_rfl
 i20:=by kernel_rfl
 i37:=by kernel_rfl
 i46:=by kernel_rfl
 i51:=by kernel_rfl
 i53:=by kernel_rfl
 i171:=by kernel_rfl
 i173:=by kernel_rfl
 i212:=by kernel_rfl
 i232:=by kernel_rfl
 i233:=by kernel_rfl
 m17:=by kernel_rfl
 m18:=by kernel_rfl
 m19:=by kernel_rfl}
def Tryz.lays99_ren:Go.Shelf.Ren:=⟨fun|99=>169|206=>190|n=>n,fun|9=>9|4=>4|3=>3|n=>n,fun|n=>n⟩
theorem Tryz.lays99:Go.Proofs.Lays.n99 Tryz.prog Tryz.lays99_ren:={
 mixed:=by kernel_rfl
 f99:=Tryz.func169.trans (congrArg some (by kernel_rfl))
 f206:=Tryz.func190.trans (congrArg some (by kernel_rfl))
 t3:=Tryz.underlying3
 a3:=Tryz.isAgg3
 z3:=Tryz.sizeOf3
 v3:=Tryz.zeroValue3
 t4:=Tryz.underlying4
 a4:=Tryz.isAgg4
 z4:=Tryz.sizeOf4
 v4:=Tryz.zeroValue4
 t9:=Tryz.underlying9
 a9:=Tryz.isAgg9
 z9:=Tryz.sizeOf9
 v9:=Tryz.zeroValue9}
def Tryz.lays190_ren:Go.Shelf.Ren:=⟨fun|190=>78|125=>105|258=>104|128=>136|129=>137|302=>127|303=>128|304=>129|305=>130|306=>131|307=>132|308=>133|309=>134|310=>135|333=>163|329=>164|330=>165|334=>166|335=>167|336=>168|344=>189|n=>n,fun|31=>39|9=>9|3=>3|46=>111|0=>0|51=>138|53=>140|4=>4|183=>130|182=>129|131=>135|5=>5|218=>158|222=>162|228=>176|229=>177|n=>n,fun|n=>n⟩
theorem Tryz.lays190:Go.Proofs.Lays.n190 Tryz.prog Tryz.lays190_ren:={
 mixed:=by kernel_rfl
 f125:=Tryz.func105.trans (congrArg some (by kernel_rfl))
 f128:=Tryz.func136.trans (congrArg some (by kernel_rfl))
 f129:=Tryz.func137.trans (congrArg some (by kernel_rfl))
 f190:=Tryz.func78.trans (congrArg some (by kernel_rfl))
 f258:=Tryz.func104.trans (congrArg some (by kernel_rfl))
 f302:=Tryz.func127.trans (congrArg some (by kernel_rfl))
 f303:=Tryz.func128.trans (congrArg some (by kernel_rfl))
 f304:=Tryz.func129.trans (congrArg some (by kernel_rfl))
 f305:=Tryz.func130.trans (congrArg some (by kernel_rfl))
 f306:=Tryz.func131.trans (congrArg some (by kernel_rfl))
 f307:=Tryz.func132.trans (congrArg some (by kernel_rfl))
 f308:=Tryz.func133.trans (congrArg some (by kernel_rfl))
 f309:=Tryz.func134.trans (congrArg some (by kernel_rfl))
 f310:=Tryz.func135.trans (congrArg some (by kernel_rfl))
 f329:=Tryz.func164.trans (congrArg some (by kernel_rfl))
 f330:=Tryz.func165.trans (congrArg some (by kernel_rfl))
 f333:=Tryz.func163.trans (congrArg some (by kernel_rfl))
 f334:=Tryz.func166.trans (congrArg some (by kernel_rfl))
 f335:=Tryz.func167.trans (congrArg some (by kernel_rfl))
 f336:=Tryz.func168.trans (congrArg some (by kernel_rfl))
 f344:=Tryz.func189.trans (congrArg some (by kernel_rfl))
 t0:=Tryz.underlying0
 a0:=Tryz.isAgg0
 z0:=Tryz.sizeOf0
 v0:=Tryz.zeroValue0
 t3:=Tryz.underlying3
 a3:=Tryz.isAgg3
 z3:=Tryz.sizeOf3
 v3:=Tryz.zeroValue3
 t4:=Tryz.underlying4
 a4:=Tryz.isAgg4
 z4:=Tryz.sizeOf4
 v4:=Tryz.zeroValue4
 t5:=Tryz.underlying5
 a5:=Tryz.isAgg5
 z5:=Tryz.sizeOf5
 v5:=Tryz.zeroValue5
 t9:=Tryz.underlying9
 a9:=Tryz.isAgg9
 z9:=Tryz.sizeOf9
 v9:=Tryz.zeroValue9
 t31:=Tryz.underlying39
 a31:=Tryz.isAgg39
 z31:=Tryz.sizeOf39
 v31:=Tryz.zeroValue39
 t46:=Tryz.underlying111
 a46:=Tryz.isAgg111
 z46:=Tryz.sizeOf111
 v46:=Tryz.zeroValue111
 t51:=Tryz.underlying138
 a51:=Tryz.isAgg138
 z51:=Tryz.sizeOf138
 v51:=Tryz.zeroValue138
 t53:=Tryz.underlying140
 a53:=Tryz.isAgg140
 z53:=Tryz.sizeOf140
 v53:=Tryz.zeroValue140
 t131:=Tryz.underlying135
 a131:=Tryz.isAgg135
 z131:=Tryz.sizeOf135
 v131:=Tryz.zeroValue135
 t182:=Tryz.underlying129
 a182:=Tryz.isAgg129
 z182:=Tryz.sizeOf129
 v182:=Tryz.zeroValue129
 t183:=Tryz.underlying130
 a183:=Tryz.isAgg130
 z183:=Tryz.sizeOf130
 v183:=Tryz.zeroValue130
 t218:=Tryz.underlying158
 a218:=Tryz.isAgg158
 z218:=Tryz.sizeOf158
 v218:=Tryz.zeroValue158
 t222:=Tryz.underlying162
 a222:=Tryz.isAgg162
 z222:=Tryz.sizeOf162
 v222:=Tryz.zeroValue162
 t228:=Tryz.underlying176
 a228:=Tryz.isAgg176
 z228:=Tryz.sizeOf176
 v228:=Tryz.zeroValue176
 t229:=Tryz.underlying177
 a229:=Tryz.isAgg177
 z229:=Tryz.sizeOf177
 v229:=Tryz.zeroValue177}
end Go.Proofs.YtgdebdgkofkeeaaGreatDoor
namespace Go.Proofs.YtgdebdgkofkeeaaGreatDoor
open Go.Pl Go.RowKit
open Enc (enc dec is)
open EncL (encL decL isL)
set_option maxRecDepth 100000
theorem A7:Zr Tryz.prog 169 (fun _:Str×Str×Unit=>true) (fun x:Str×Str×Unit=>x.2.1.s.isPrefixOf x.1.s):=Wi (by
  rintro⟨⟨s⟩,⟨p⟩,⟨⟩⟩ hps Φ w vs hL hΦ hv
  obtain⟨u,v,rfl,h1,h2⟩:=d4m hv
  rw[Jy h1,Jy h2]
  refine(Any.strings_HasPrefix Tryz.lays99 ⟨s.toArray⟩ ⟨p.toArray⟩ w).mono ?_
  rintro e w' ⟨rfl,rfl⟩
  exact⟨_,rfl,.bool _,.refl _ _⟩)
theorem Ma:Zr Tryz.prog 68 (fun x:Int×Unit=>decide (-9223372036854775808<=x.1)&&decide (x.1<=9223372036854775807)) (fun x:Int×Unit=>VY x.1):=Wi (by
  rintro⟨n,⟨⟩⟩ hps Φ w vs hL hΦ hv
  obtain⟨v,rfl,h1⟩:=d2n hv
  have h1:RP Φ v (.int .i64 n):=h1
  rw[Rk h1]
  have hn : -9223372036854775808<=n∧n<=9223372036854775807:=by simpa using hps
  have hg:=hL.pow
  obtain⟨T,fz,hh⟩:=hΦ _ _ hg
  refine(Any.strconv_Itoa Tryz.lays171 n hn.1 hn.2 w ?_).mono ?_
  ·unfold Lib.TabIs World.var?
   rw[show Program.globalNamed Tryz.prog "internal/strconv.uint64pow10" = some 1 by kernel_rfl]
   simp only[Option.bind_some,hh]
   rfl
  ·rintro e w' ⟨rfl,k,os,rfl⟩
   refine⟨_,rfl,.str _,?_⟩
   exact⟨rfl,rfl,rfl,by show w.heap.size<=(w.heap++os).size;simp,fun j hj=>by show(w.heap++os)[j]? = _;rw[Array.getElem?_append_left hj]⟩)
end Go.Proofs.YtgdebdgkofkeeaaGreatDoor
namespace Go.Proofs.YtgdebdgkofkeeaaGreatDoor
open Go.Shelf
def Tryz.keysA_ren:Go.Shelf.Ren:=⟨fun|7=>57|10=>79|n=>n,fun|23=>64|26=>9|3=>4|28=>68|0=>0|27=>67|33=>33|4=>4|n=>n,fun|n=>n⟩
theorem Tryz.keysA:Go.Proofs.SlLaysZ.n7 Tryz.prog Tryz.keysA_ren:={
 mixed:=by kernel_rfl
 f7:=⟨Tryz.f57.name,by decide,Tryz.func57.trans (congrArg some (by kernel_rfl))⟩
 f10:=⟨Tryz.f79.name,by decide,Tryz.func79.trans (congrArg some (by kernel_rfl))⟩
 t0:=Tryz.underlying0
 a0:=Tryz.isAgg0
 z0:=Tryz.sizeOf0
 v0:=Tryz.zeroValue0
 t4:=Tryz.underlying4
 a4:=Tryz.isAgg4
 z4:=Tryz.sizeOf4
 v4:=Tryz.zeroValue4
 t23:=Tryz.underlying64
 a23:=Tryz.isAgg64
 z23:=Tryz.sizeOf64
 v23:=Tryz.zeroValue64
 t26:=Tryz.underlying9
 a26:=Tryz.isAgg9
 z26:=Tryz.sizeOf9
 v26:=Tryz.zeroValue9
 t27:=Tryz.underlying67
 a27:=Tryz.isAgg67
 z27:=Tryz.sizeOf67
 v27:=Tryz.zeroValue67
 t28:=Tryz.underlying68
 a28:=Tryz.isAgg68
 z28:=Tryz.sizeOf68
 v28:=Tryz.zeroValue68
 t33:=Tryz.underlying33
 a33:=Tryz.isAgg33
 z33:=Tryz.sizeOf33
 v33:=Tryz.zeroValue33}
def Tryz.sortedA_ren:Go.Shelf.Ren:=⟨fun|6=>56|8=>77|9=>78|11=>103|13=>105|12=>104|23=>136|24=>137|14=>127|15=>128|16=>129|17=>130|18=>131|19=>132|20=>133|21=>134|22=>135|25=>163|26=>164|27=>165|28=>166|29=>167|30=>168|31=>189|n=>n,fun|26=>9|28=>68|24=>39|0=>0|3=>3|37=>111|48=>138|50=>140|4=>4|40=>130|39=>129|45=>135|5=>5|9=>9|51=>158|55=>162|57=>176|58=>177|33=>33|n=>n,fun|n=>n⟩
theorem Tryz.sortedA:Go.Proofs.SlLaysZ.n6 Tryz.prog Tryz.sortedA_ren:={
 mixed:=by kernel_rfl
 f6:=⟨Tryz.f56.name,by decide,Tryz.func56.trans (congrArg some (by kernel_rfl))⟩
 f8:=⟨Tryz.f77.name,by decide,Tryz.func77.trans (congrArg some (by kernel_rfl))⟩
 f11:=⟨Tryz.f103.name,by decide,Tryz.func103.trans (congrArg some (by kernel_rfl))⟩
 t0:=Tryz.underlying0
 a0:=Tryz.isAgg0
 z0:=Tryz.sizeOf0
 v0:=Tryz.zeroValue0
 t24:=Tryz.underlying39
 a24:=Tryz.isAgg39
 z24:=Tryz.sizeOf39
 v24:=Tryz.zeroValue39
 t26:=Tryz.underlying9
 a26:=Tryz.isAgg9
 z26:=Tryz.sizeOf9
 v26:=Tryz.zeroValue9
 t28:=Tryz.underlying68
 a28:=Tryz.isAgg68
 z28:=Tryz.sizeOf68
 v28:=Tryz.zeroValue68
 i26:=by kernel_rfl}
end Go.Proofs.YtgdebdgkofkeeaaGreatDoor
namespace Go.Proofs.YtgdebdgkofkeeaaGreatDoor
open Go.RowKit Go.Shelf Go.Pl Go.Proofs
theorem c4g(m:Nat):AnyZ.SortsIn Tryz.prog Tryz.sortedA_ren Fence.wide m:=
  ⟨fun blk off cap ss W hH hblk hsz=>callsIn_wide.2 (Any.slices_Sort_string Tryz.lays190 blk off cap ss W hH hblk hsz),
   fun p cap W=>callsIn_wide.2 (Any.slices_Sort_string_none Tryz.lays190 p cap W)⟩
theorem c6m:SortedC Tryz.prog 56 79 9 where
 str:=by kernel_rfl
 run:=by
  intro Bm b nn D0 w hBm hm hown hmax hbytes
  have hseq:SeqGives Fence.wide 2 Tryz.prog 79 #[.pointer (some ⟨Bm,0,none⟩)] encStr (fun ss=>ss.Perm (strKeys D0)) (Maps.size D0) w:=
   AnyZ.keys_gives (ρ:=Tryz.keysA_ren) {Tryz.keysA with} Fence.wide _ trivial rfl (by omega) Bm b nn D0 _ hBm hm hown
  exact callsIn_wide.1 (AnyZ.sorted_in Tryz.sortedA Fence.wide 5 trivial trivial trivial trivial rfl (by omega) (c4g _) (enters_of Tryz.func78 (by kernel_rfl) rfl) 79 #[.pointer (some ⟨Bm,0,none⟩)] trivial (enters_of Tryz.func79 (by kernel_rfl) rfl) _ _ hmax hbytes _ hseq)
theorem a8y:ZN Tryz.prog 56 (X8 79) WU:=Oy (F4 c6m)
end Go.Proofs.YtgdebdgkofkeeaaGreatDoor
namespace Go.Proofs.YtgdebdgkofkeeaaGreatDoor
open Go.Pl Go.RowKit
open Enc (enc dec is)
open EncL (encL decL isL)
set_option maxRecDepth 100000
theorem c8f: ∀ s:List UInt8,((s.dropWhile fun c=>c != 46)=[]->Lib.index s [46] = -1) ∧
  ∀ (c:UInt8) (r:List UInt8),(s.dropWhile fun c=>c != 46)=c::r->Lib.index s [46]=((s.takeWhile fun c=>c != 46).length:Nat)∧s.drop ((s.takeWhile fun c=>c != 46).length+1)=r∧s.take (s.takeWhile fun c=>c != 46).length=s.takeWhile fun c=>c != 46
 | []=>⟨fun _=>rfl,fun _ _ h=>by cases h⟩
 | b::l=>by
  obtain⟨h1,h2⟩:=c8f l
  by_cases hb:b=46
  ·subst hb
   refine⟨fun h=>by simp at h,fun c r h=> ?_⟩
   have h:(46:UInt8)::l=c::r:=by simpa using h
   cases h
   exact⟨rfl,rfl,rfl⟩
  ·have hbn:(b != 46)=true:=by simpa using hb
   have hp:([46]:List UInt8).isPrefixOf (b::l)=false:=by simp[List.isPrefixOf];exact fun e=>hb e.symm
   have ei:Lib.index (b::l) [46]=if Lib.index l [46] == -1 then -1 else Lib.index l [46]+1:=by rw[Lib.index,hp];rfl
   rw[List.dropWhile_cons,if_pos hbn,List.takeWhile_cons,if_pos hbn]
   refine⟨fun h=>by rw[ei,h1 h];rfl,fun c r h=> ?_⟩
   obtain⟨k1,k2,k3⟩:=h2 c r h
   rw[ei,k1]
   refine⟨?_,?_,?_⟩
   ·rw[if_neg (by simp),List.length_cons];rfl
   ·rw[List.length_cons,List.drop_succ_cons];exact k2
   ·rw[List.length_cons,List.take_succ_cons,k3]
theorem c3s(s:List UInt8):Lib.cut s [46]=((VK ⟨s⟩).a.s,(VK ⟨s⟩).b.s,(VK ⟨s⟩).c):=by
 obtain⟨h1,h2⟩:=c8f s
 unfold Lib.cut VK
 cases hd:s.dropWhile fun c=>c != 46 with
 | nil=>
  rw[h1 hd]
  rfl
 | cons c r=>
  obtain⟨k1,k2,k3⟩:=h2 c r hd
  rw[k1,if_pos (by omega),Int.toNat_natCast,k3]
  show(_,s.drop ((s.takeWhile fun c=>c != 46).length+1),true)=_
  rw[k2]
theorem b4c:Zr Tryz.prog 145 (fun x:Str×Str×Unit=>decide (x.1.s.length<=1048576)&&decide (x.2.1.s=[46])) (fun x:Str×Str×Unit=>VK x.1):=Wi (by
  rintro⟨⟨s⟩,⟨p⟩,⟨⟩⟩ hps Φ w vs hL hΦ hv
  simp only[Bool.and_eq_true,decide_eq_true_eq]at hps
  obtain⟨hs,hp⟩:=hps
  have hp:p=[46]:=hp
  subst hp
  obtain⟨u,v,rfl,h1,h2⟩:=d4m hv
  rw[Jy h1,Jy h2]
  obtain⟨cs,m,hc,hm⟩:=hL.mx
  have hsz:(⟨s.toArray⟩:ByteArray).size=s.length:=rfl
  refine(Any.strings_Cut Tryz.lays145 ⟨s.toArray⟩ ⟨#[46]⟩ m w (by rw[hsz];have hs:s.length<=1048576:=hs;omega) (Dv hΦ hc hm)).mono ?_
  rintro e w' ⟨rfl,k,rfl⟩
  refine⟨_,rfl,.tup _ _ rfl ?_,?_⟩
  ·rw[show(⟨s.toArray⟩:ByteArray).data.toList=s from rfl,show(⟨#[46]⟩:ByteArray).data.toList=[46]from rfl,c3s]
   intro j v x hv hx
   match j with
   | 0=>cases hv;cases hx;exact .str _
   | 1=>cases hv;cases hx;exact .str _
   | 2=>cases hv;cases hx;exact .bool _
   | j+3=>simp at hv
  ·exact⟨rfl,rfl,rfl,Nat.le_refl _,fun _ _=>rfl⟩)
theorem M9:Zr Tryz.prog 122 (fun _:Str×Str×Unit=>true) (fun x:Str×Str×Unit=>Lib.compareBytes x.1.s x.2.1.s):=Wi (by
  rintro⟨⟨s⟩,⟨p⟩,⟨⟩⟩ hps Φ w vs hL hΦ hv
  obtain⟨u,v,rfl,h1,h2⟩:=d4m hv
  rw[Jy h1,Jy h2]
  refine(Any.strings_Compare Tryz.lays106 ⟨s.toArray⟩ ⟨p.toArray⟩ w).mono ?_
  rintro e w' ⟨rfl,rfl⟩
  exact⟨_,rfl,.int _ _,.refl _ _⟩)
theorem c9n:ZN Tryz.prog 76 VO UE:=BO fun b es clock w h=>AnyW.maps_Clone Tryz.mcB b es clock w h
theorem d2r:ZN Tryz.prog 92 VO UE:=BO fun b es clock w h=>AnyW.maps_Clone Tryz.mcS b es clock w h
end Go.Proofs.YtgdebdgkofkeeaaGreatDoor
namespace Go.Proofs.YtgdebdgkofkeeaaGreatDoor
open Go.RowKit Go.Lib Go.Pl
theorem b9b:(Tryz.prog.info? 3).map (fun i=>(i.zero,i.size,i.bytes))=some (some (.int .i64 0),1,8):=by kernel_rfl
theorem H7:Tryz.prog.underlying 22=some (.slice 3):=by kernel_rfl
theorem Ez(n c:Nat)(w:World):Calls Tryz.prog 93 #[.slice none n c] w fun e w'=>e = .returned (.slice none 0 0)∧w'=w:=by
 have q22 : ∀ (w:World) (a:Option Addr) (n c n' c':Nat),(binOp .eql 22 (.slice a n c) (.slice none n' c')).run Tryz.prog w = .ok (.bool a.isNone) w:=fun w a n c n' c'=>Lib.run_eql_slice_nil w _ _ a n c n' c' H7
 go_enter Tryz.func93,Tryz.ntmps93
 go_wp2
 go_ret
 exact⟨rfl,rfl⟩
theorem LG(a:Addr)(c:Nat)(w:World):Calls Tryz.prog 93 #[.slice (some a) 0 c] w fun e w'=>(∃ g,e = .returned (.slice (some g) 0 0))∧Below w.heap.size w w':=by
 have q22 : ∀ (w:World) (a:Option Addr) (n c n' c':Nat),(binOp .eql 22 (.slice a n c) (.slice none n' c')).run Tryz.prog w = .ok (.bool a.isNone) w:=fun w a n c n' c'=>Lib.run_eql_slice_nil w _ _ a n c n' c' H7
 obtain⟨i0,hi,hz0,hz1,hz2⟩:=info_parts b9b
 go_enter Tryz.func93,Tryz.ntmps93
 go_wp2_with (at_builtin;refine Lib.wpList_append_run _ rfl _ _ _ _ rfl _ _ rfl rfl _ _ (YI H7 hi (Nat.le_refl _)) ?_)
 go_ret
 exact⟨⟨_,rfl⟩,(Below.refl _ w).alloc (Nat.le_refl _) _⟩
theorem MG(a:Addr)(n c:Nat)(news:List Value)(w:World)(h0:0<n)(hn:n<=2000000)(hl:news.length=n*1)(hc : ∀ j u,news[j]? = some u->w.cell? (a.add j)=some u)(h1 : ∀ u∈news,u.oneCell'=true):
  Calls Tryz.prog 93 #[.slice (some a) n c] w fun e w'=> ∃ v',e = .returned v'∧w'.ownsRow w.heap.size 3 1 v' n news∧Below w.heap.size w w':=by
 have q22 : ∀ (w:World) (a:Option Addr) (n c n' c':Nat),(binOp .eql 22 (.slice a n c) (.slice none n' c')).run Tryz.prog w = .ok (.bool a.isNone) w:=fun w a n c n' c'=>Lib.run_eql_slice_nil w _ _ a n c n' c' H7
 obtain⟨i0,hi,hz0,hz1,hz2⟩:=info_parts b9b
 have A:Aside (∀ j u,news[j]? = some u->w.cell? (a.add j)=some u):=hc
 clear hc
 go_enter Tryz.func93,Tryz.ntmps93
 go_wp2_with (at_builtin;refine wpList_append_own _ rfl _ _ 22 rfl w.heap.size 3 i0 (.int .i64 0) 1 8 H7 hi hz0 hz1 hz2 rfl (by decide) _ _ _ rfl (World.ownsRow_made w #[] 0 (Nat.le_refl _) (Nat.zero_le _) rfl) a n c news rfl ?qc1 ?qc2 ?qc3 ?qc4 ?qc5 ?qc6 ?_)
 case qc1=>exact hl
 case qc2=>intro j u hj;exact Lib.cell?_alloc_some _ (A.out j u hj)
 case qc3=>exact h1
 case qc4=>unfold maxLen;omega
 case qc5=>omega
 case qc6=>simp
 intro v' w1 hown hgrow hnil
 go_wp2
 go_ret
 refine⟨v',rfl,by simpa using hown,?_⟩
 exact((Below.refl _ w).alloc (Nat.le_refl _) _).grown hgrow (by simp) (by intro k hk;simp[Value.ownBlock]at hk;omega)
theorem b3y:CloneC Tryz.prog 93 3 1:=⟨Ez,LG,MG⟩
end Go.Proofs.YtgdebdgkofkeeaaGreatDoor
namespace Go.Proofs.YtgdebdgkofkeeaaGreatDoor
open Go.RowKit Go.Pl
set_option maxRecDepth 100000
noncomputable def cpO:Array Oper:=Q4 (Tryz.f71.body.getD .skip) 13
noncomputable def AL(i:Nat):Oper:=cpO.getD i default
set_option maxHeartbeats 2000000 in
theorem cpR{K:Act->World->Prop}{R:Ending->World->Prop}{a:Act}{w:World}{Bt B c i n:Nat}{ct cs:Array Value}{T0:TypeId}(hb:w.heap[Bt]? = some (.cells ct T0 (0,0)))(hk:ct[9]? = some (.slice (some ⟨B,0,none⟩) n c))(hB:w.heap[B]? = some (.cells cs 28 (0,0)))(hne:Bt≠B)(hin:i<n)(hsz:n*10<=cs.size)
  (hbox:a.eval (.tmp 1) = .pointer (some ⟨Bt,0,none⟩)) (hidx:a.eval (.tmp 4) = .int .i64 (i:Int))  (hts:a.tmps.size=67) (hcall:Calls Tryz.prog 71 #[(.agg ((cs.toList.drop (i*10)).take 10).toArray)] {w with drawn:=w.drawn+1} R)
  (hR : ∀ e w',R e w'-> ∃ vs:List Value,e = .returned (.agg vs.toArray)∧vs.length=10∧Z6 vs∧w'.heap[Bt]? = w.heap[Bt]? ∧w'.heap[B]? = w.heap[B]? ∧ ∀ a',SameT [55,56,57,58,59,60,61,62,63,64] a a'->K a' (w'.setRow B (splice cs.toList (i*10) vs).toArray)) :
  (Code.region 13 cpO true).wp Tryz.prog (fun e a w=>e = .normal∧K a w) a w:=by
 have hS0:w.cell? ⟨Bt,9,none⟩=some (.slice (some ⟨B,0,none⟩) n c):=by simp[World.cell?,hb,hk]
 have hlen:((cs.toList.drop (i*10)).take 10).length=10:=by simp;omega
 have s0:SameT [55,56,57,58,59,60,61,62,63,64] a a:=.refl _ _
 refine wp_region_held (S:=fun w=>w.cell? ⟨Bt,9,none⟩=some (.slice (some ⟨B,0,none⟩) n c)) (by kernel_rfl) ?_
 rw[show cpO.size=11 from by kernel_rfl]
 generalize hwd:({w with drawn:=w.drawn+1}:World)=wd at hcall ⊢
 have hh:wd.heap=w.heap:=by rw[<- hwd]
 have hS:wd.cell? ⟨Bt,9,none⟩=some (.slice (some ⟨B,0,none⟩) n c):=by rw[<- hS0];simp[World.cell?,hh]
 refine wpAnyH_take (i:=0) (oi:=AL 0) (v:=.pointer (some ⟨Bt,0+9,none⟩)) (by kernel_rfl) (by kernel_rfl) (by kernel_rfl) (by kernel_rfl) (fun _ _ _ h=>nomatch h.1) ((Z8 Bt 0 9)▸SQ (s:=28) (x:=1) (n:=7) (off:=9) (by kernel_rfl) (by kernel_rfl) (by kernel_rfl) hbox) hS ?_
 rw[show(AL 0).dst=some 55 from by kernel_rfl]
 have s1:=s0.put (d:=55) (by decide) (.pointer (some ⟨Bt,0+9,none⟩))
 have g1_55:(a.put (some 55) (.pointer (some ⟨Bt,0+9,none⟩))).eval (.tmp 55) = .pointer (some ⟨Bt,0+9,none⟩):=Zj (by rw[s0.size,hts];decide)
 have g1_1:=(Za (v:=.pointer (some ⟨Bt,0+9,none⟩)) (show 55≠1 by decide)).trans hbox
 have g1_4:=(Za (v:=.pointer (some ⟨Bt,0+9,none⟩)) (show 55≠4 by decide)).trans hidx
 generalize a.put (some 55) (.pointer (some ⟨Bt,0+9,none⟩))=a1 at *
 refine wpAnyH_take (i:=1) (oi:=AL 1) (v:=.slice (some ⟨B,0,none⟩) n c) (by kernel_rfl) (by kernel_rfl) (by kernel_rfl) (by kernel_rfl) (fun _ _ _ h=>nomatch h.1) (TD (t:=26) (x:=55) (sz:=1) (by kernel_rfl) (by kernel_rfl) (by kernel_rfl) g1_55 (fun w h=>(by rw[Nat.zero_add];exact h))) hS ?_
 rw[show(AL 1).dst=some 56 from by kernel_rfl]
 have s2:=s1.put (d:=56) (by decide) (.slice (some ⟨B,0,none⟩) n c)
 have g2_56:(a1.put (some 56) (.slice (some ⟨B,0,none⟩) n c)).eval (.tmp 56) = .slice (some ⟨B,0,none⟩) n c:=Zj (by rw[s1.size,hts];decide)
 have g2_1:=(Za (v:=.slice (some ⟨B,0,none⟩) n c) (show 56≠1 by decide)).trans g1_1
 have g2_4:=(Za (v:=.slice (some ⟨B,0,none⟩) n c) (show 56≠4 by decide)).trans g1_4
 have g2_55:=(Za (v:=.slice (some ⟨B,0,none⟩) n c) (show 56≠55 by decide)).trans g1_55
 generalize a1.put (some 56) (.slice (some ⟨B,0,none⟩) n c)=a2 at *
 refine wpAnyH_take (i:=2) (oi:=AL 2) (v:=.int .i64 (i:Int)) (by kernel_rfl) (by kernel_rfl) (by kernel_rfl) (by kernel_rfl) (fun _ _ _ h=>nomatch h.1) (Ja (x:=4) (by kernel_rfl) (by kernel_rfl) g2_4) hS ?_
 rw[show(AL 2).dst=some 57 from by kernel_rfl]
 have s3:=s2.put (d:=57) (by decide) (.int .i64 (i:Int))
 have g3_57:(a2.put (some 57) (.int .i64 (i:Int))).eval (.tmp 57) = .int .i64 (i:Int):=Zj (by rw[s2.size,hts];decide)
 have g3_1:=(Za (v:=.int .i64 (i:Int)) (show 57≠1 by decide)).trans g2_1
 have g3_4:=(Za (v:=.int .i64 (i:Int)) (show 57≠4 by decide)).trans g2_4
 have g3_55:=(Za (v:=.int .i64 (i:Int)) (show 57≠55 by decide)).trans g2_55
 have g3_56:=(Za (v:=.int .i64 (i:Int)) (show 57≠56 by decide)).trans g2_56
 generalize a2.put (some 57) (.int .i64 (i:Int))=a3 at *
 refine wpAnyH_take (i:=3) (oi:=AL 3) (v:=.pointer (some ⟨Bt,0+9,none⟩)) (by kernel_rfl) (by kernel_rfl) (by kernel_rfl) (by kernel_rfl) (fun _ _ _ h=>nomatch h.1) ((Z8 Bt 0 9)▸SQ (s:=28) (x:=1) (n:=7) (off:=9) (by kernel_rfl) (by kernel_rfl) (by kernel_rfl) g3_1) hS ?_
 rw[show(AL 3).dst=some 58 from by kernel_rfl]
 have s4:=s3.put (d:=58) (by decide) (.pointer (some ⟨Bt,0+9,none⟩))
 have g4_58:(a3.put (some 58) (.pointer (some ⟨Bt,0+9,none⟩))).eval (.tmp 58) = .pointer (some ⟨Bt,0+9,none⟩):=Zj (by rw[s3.size,hts];decide)
 have g4_1:=(Za (v:=.pointer (some ⟨Bt,0+9,none⟩)) (show 58≠1 by decide)).trans g3_1
 have g4_4:=(Za (v:=.pointer (some ⟨Bt,0+9,none⟩)) (show 58≠4 by decide)).trans g3_4
 have g4_55:=(Za (v:=.pointer (some ⟨Bt,0+9,none⟩)) (show 58≠55 by decide)).trans g3_55
 have g4_56:=(Za (v:=.pointer (some ⟨Bt,0+9,none⟩)) (show 58≠56 by decide)).trans g3_56
 have g4_57:=(Za (v:=.pointer (some ⟨Bt,0+9,none⟩)) (show 58≠57 by decide)).trans g3_57
 generalize a3.put (some 58) (.pointer (some ⟨Bt,0+9,none⟩))=a4 at *
 refine wpAnyH_take (i:=4) (oi:=AL 4) (v:=.slice (some ⟨B,0,none⟩) n c) (by kernel_rfl) (by kernel_rfl) (by kernel_rfl) (by kernel_rfl) (fun _ _ _ h=>nomatch h.1) (TD (t:=26) (x:=58) (sz:=1) (by kernel_rfl) (by kernel_rfl) (by kernel_rfl) g4_58 (fun w h=>(by rw[Nat.zero_add];exact h))) hS ?_
 rw[show(AL 4).dst=some 59 from by kernel_rfl]
 have s5:=s4.put (d:=59) (by decide) (.slice (some ⟨B,0,none⟩) n c)
 have g5_59:(a4.put (some 59) (.slice (some ⟨B,0,none⟩) n c)).eval (.tmp 59) = .slice (some ⟨B,0,none⟩) n c:=Zj (by rw[s4.size,hts];decide)
 have g5_1:=(Za (v:=.slice (some ⟨B,0,none⟩) n c) (show 59≠1 by decide)).trans g4_1
 have g5_4:=(Za (v:=.slice (some ⟨B,0,none⟩) n c) (show 59≠4 by decide)).trans g4_4
 have g5_55:=(Za (v:=.slice (some ⟨B,0,none⟩) n c) (show 59≠55 by decide)).trans g4_55
 have g5_56:=(Za (v:=.slice (some ⟨B,0,none⟩) n c) (show 59≠56 by decide)).trans g4_56
 have g5_57:=(Za (v:=.slice (some ⟨B,0,none⟩) n c) (show 59≠57 by decide)).trans g4_57
 have g5_58:=(Za (v:=.slice (some ⟨B,0,none⟩) n c) (show 59≠58 by decide)).trans g4_58
 generalize a4.put (some 59) (.slice (some ⟨B,0,none⟩) n c)=a5 at *
 refine wpAnyH_take (i:=5) (oi:=AL 5) (v:=.int .i64 (i:Int)) (by kernel_rfl) (by kernel_rfl) (by kernel_rfl) (by kernel_rfl) (fun _ _ _ h=>nomatch h.1) (Ja (x:=4) (by kernel_rfl) (by kernel_rfl) g5_4) hS ?_
 rw[show(AL 5).dst=some 60 from by kernel_rfl]
 have s6:=s5.put (d:=60) (by decide) (.int .i64 (i:Int))
 have g6_60:(a5.put (some 60) (.int .i64 (i:Int))).eval (.tmp 60) = .int .i64 (i:Int):=Zj (by rw[s5.size,hts];decide)
 have g6_1:=(Za (v:=.int .i64 (i:Int)) (show 60≠1 by decide)).trans g5_1
 have g6_4:=(Za (v:=.int .i64 (i:Int)) (show 60≠4 by decide)).trans g5_4
 have g6_55:=(Za (v:=.int .i64 (i:Int)) (show 60≠55 by decide)).trans g5_55
 have g6_56:=(Za (v:=.int .i64 (i:Int)) (show 60≠56 by decide)).trans g5_56
 have g6_57:=(Za (v:=.int .i64 (i:Int)) (show 60≠57 by decide)).trans g5_57
 have g6_58:=(Za (v:=.int .i64 (i:Int)) (show 60≠58 by decide)).trans g5_58
 have g6_59:=(Za (v:=.int .i64 (i:Int)) (show 60≠59 by decide)).trans g5_59
 generalize a5.put (some 60) (.int .i64 (i:Int))=a6 at *
 refine wpAnyH_take (i:=6) (oi:=AL 6) (v:=.pointer (some ⟨B,0+i*10,none⟩)) (by kernel_rfl) (by kernel_rfl) (by kernel_rfl) (by kernel_rfl) (fun _ _ _ h=>nomatch h.1) ((Z8 B 0 (i*10))▸SK (t:=26) (x:=59) (y:=60) (sz:=10) (by kernel_rfl) (by kernel_rfl) (by kernel_rfl) g6_59 g6_60 hin) hS ?_
 rw[show(AL 6).dst=some 61 from by kernel_rfl]
 have s7:=s6.put (d:=61) (by decide) (.pointer (some ⟨B,0+i*10,none⟩))
 have g7_61:(a6.put (some 61) (.pointer (some ⟨B,0+i*10,none⟩))).eval (.tmp 61) = .pointer (some ⟨B,0+i*10,none⟩):=Zj (by rw[s6.size,hts];decide)
 have g7_1:=(Za (v:=.pointer (some ⟨B,0+i*10,none⟩)) (show 61≠1 by decide)).trans g6_1
 have g7_4:=(Za (v:=.pointer (some ⟨B,0+i*10,none⟩)) (show 61≠4 by decide)).trans g6_4
 have g7_55:=(Za (v:=.pointer (some ⟨B,0+i*10,none⟩)) (show 61≠55 by decide)).trans g6_55
 have g7_56:=(Za (v:=.pointer (some ⟨B,0+i*10,none⟩)) (show 61≠56 by decide)).trans g6_56
 have g7_57:=(Za (v:=.pointer (some ⟨B,0+i*10,none⟩)) (show 61≠57 by decide)).trans g6_57
 have g7_58:=(Za (v:=.pointer (some ⟨B,0+i*10,none⟩)) (show 61≠58 by decide)).trans g6_58
 have g7_59:=(Za (v:=.pointer (some ⟨B,0+i*10,none⟩)) (show 61≠59 by decide)).trans g6_59
 have g7_60:=(Za (v:=.pointer (some ⟨B,0+i*10,none⟩)) (show 61≠60 by decide)).trans g6_60
 generalize a6.put (some 61) (.pointer (some ⟨B,0+i*10,none⟩))=a7 at *
 refine wpAnyH_all (rs:=[7]) (by kernel_rfl) (by simp) (fun j hj=> ?_)
 obtain rfl:j=7:=by simpa using hj
 refine FL (o:=AL 7) (t:=28) (sz:=10) (x:=61) (by kernel_rfl) (by kernel_rfl) (by kernel_rfl) (by kernel_rfl) hlen g7_61 (by rw[Nat.zero_add];exact Z9 ((congrArg (·[B]?) hh).trans hB) _ _) ⟨hS,?_⟩
 rw[show(AL 7).dst=some 62 from by kernel_rfl]
 have s8:=s7.put (d:=62) (by decide) (.agg ((cs.toList.drop (i*10)).take 10).toArray)
 have g8_62:(a7.put (some 62) (.agg ((cs.toList.drop (i*10)).take 10).toArray)).eval (.tmp 62) = .agg ((cs.toList.drop (i*10)).take 10).toArray:=Zj (by rw[s7.size,hts];decide)
 have g8_1:=(Za (v:=.agg ((cs.toList.drop (i*10)).take 10).toArray) (show 62≠1 by decide)).trans g7_1
 have g8_4:=(Za (v:=.agg ((cs.toList.drop (i*10)).take 10).toArray) (show 62≠4 by decide)).trans g7_4
 have g8_55:=(Za (v:=.agg ((cs.toList.drop (i*10)).take 10).toArray) (show 62≠55 by decide)).trans g7_55
 have g8_56:=(Za (v:=.agg ((cs.toList.drop (i*10)).take 10).toArray) (show 62≠56 by decide)).trans g7_56
 have g8_57:=(Za (v:=.agg ((cs.toList.drop (i*10)).take 10).toArray) (show 62≠57 by decide)).trans g7_57
 have g8_58:=(Za (v:=.agg ((cs.toList.drop (i*10)).take 10).toArray) (show 62≠58 by decide)).trans g7_58
 have g8_59:=(Za (v:=.agg ((cs.toList.drop (i*10)).take 10).toArray) (show 62≠59 by decide)).trans g7_59
 have g8_60:=(Za (v:=.agg ((cs.toList.drop (i*10)).take 10).toArray) (show 62≠60 by decide)).trans g7_60
 have g8_61:=(Za (v:=.agg ((cs.toList.drop (i*10)).take 10).toArray) (show 62≠61 by decide)).trans g7_61
 generalize a7.put (some 62) (.agg ((cs.toList.drop (i*10)).take 10).toArray)=a8 at *
 refine wpAnyH_all (rs:=[8]) (by kernel_rfl) (by simp) (fun j hj=> ?_)
 obtain rfl:j=8:=by simpa using hj
 refine Rn (o:=AL 8) (f:=71) (xs:=#[.tmp 62]) (ts:=#[28]) (by kernel_rfl) (by kernel_rfl) (by kernel_rfl) Tryz.func71 (by kernel_rfl) (by kernel_rfl) (vs:=#[(.agg ((cs.toList.drop (i*10)).take 10).toArray)]) (by simp only[List.map_toArray,List.map_cons,List.map_nil,g8_62]) hcall ?_
 intro e w2 hr
 obtain⟨vs,rfl,hvl,hv1,hb2,hB2,hK⟩:=hR e w2 hr
 have hS2:w2.cell? ⟨Bt,9,none⟩=some (.slice (some ⟨B,0,none⟩) n c):=by simp[World.cell?,hb2,hb,hk]
 refine⟨_,rfl,hS2,?_⟩
 rw[show(AL 8).dst=some 63 from by kernel_rfl]
 have s9:=s8.put (d:=63) (by decide) (.agg vs.toArray)
 have g9_63:(a8.put (some 63) (.agg vs.toArray)).eval (.tmp 63) = .agg vs.toArray:=Zj (by rw[s8.size,hts];decide)
 have g9_1:=(Za (v:=.agg vs.toArray) (show 63≠1 by decide)).trans g8_1
 have g9_4:=(Za (v:=.agg vs.toArray) (show 63≠4 by decide)).trans g8_4
 have g9_55:=(Za (v:=.agg vs.toArray) (show 63≠55 by decide)).trans g8_55
 have g9_56:=(Za (v:=.agg vs.toArray) (show 63≠56 by decide)).trans g8_56
 have g9_57:=(Za (v:=.agg vs.toArray) (show 63≠57 by decide)).trans g8_57
 have g9_58:=(Za (v:=.agg vs.toArray) (show 63≠58 by decide)).trans g8_58
 have g9_59:=(Za (v:=.agg vs.toArray) (show 63≠59 by decide)).trans g8_59
 have g9_60:=(Za (v:=.agg vs.toArray) (show 63≠60 by decide)).trans g8_60
 have g9_61:=(Za (v:=.agg vs.toArray) (show 63≠61 by decide)).trans g8_61
 have g9_62:=(Za (v:=.agg vs.toArray) (show 63≠62 by decide)).trans g8_62
 generalize a8.put (some 63) (.agg vs.toArray)=a9 at *
 refine wpAnyH_take (i:=9) (oi:=AL 9) (v:=.pointer (some ⟨B,0+i*10,none⟩)) (by kernel_rfl) (by kernel_rfl) (by kernel_rfl) (by kernel_rfl) (fun _ _ _ h=>nomatch h.1) ((Z8 B 0 (i*10))▸SK (t:=26) (x:=56) (y:=57) (sz:=10) (by kernel_rfl) (by kernel_rfl) (by kernel_rfl) g9_56 g9_57 hin) hS2 ?_
 rw[show(AL 9).dst=some 64 from by kernel_rfl]
 have s10:=s9.put (d:=64) (by decide) (.pointer (some ⟨B,0+i*10,none⟩))
 have g10_64:(a9.put (some 64) (.pointer (some ⟨B,0+i*10,none⟩))).eval (.tmp 64) = .pointer (some ⟨B,0+i*10,none⟩):=Zj (by rw[s9.size,hts];decide)
 have g10_1:=(Za (v:=.pointer (some ⟨B,0+i*10,none⟩)) (show 64≠1 by decide)).trans g9_1
 have g10_4:=(Za (v:=.pointer (some ⟨B,0+i*10,none⟩)) (show 64≠4 by decide)).trans g9_4
 have g10_55:=(Za (v:=.pointer (some ⟨B,0+i*10,none⟩)) (show 64≠55 by decide)).trans g9_55
 have g10_56:=(Za (v:=.pointer (some ⟨B,0+i*10,none⟩)) (show 64≠56 by decide)).trans g9_56
 have g10_57:=(Za (v:=.pointer (some ⟨B,0+i*10,none⟩)) (show 64≠57 by decide)).trans g9_57
 have g10_58:=(Za (v:=.pointer (some ⟨B,0+i*10,none⟩)) (show 64≠58 by decide)).trans g9_58
 have g10_59:=(Za (v:=.pointer (some ⟨B,0+i*10,none⟩)) (show 64≠59 by decide)).trans g9_59
 have g10_60:=(Za (v:=.pointer (some ⟨B,0+i*10,none⟩)) (show 64≠60 by decide)).trans g9_60
 have g10_61:=(Za (v:=.pointer (some ⟨B,0+i*10,none⟩)) (show 64≠61 by decide)).trans g9_61
 have g10_62:=(Za (v:=.pointer (some ⟨B,0+i*10,none⟩)) (show 64≠62 by decide)).trans g9_62
 have g10_63:=(Za (v:=.pointer (some ⟨B,0+i*10,none⟩)) (show 64≠63 by decide)).trans g9_63
 generalize a9.put (some 64) (.pointer (some ⟨B,0+i*10,none⟩))=a10 at *
 refine wpAnyH_all (rs:=[10]) (by kernel_rfl) (by simp) (fun j hj=> ?_)
 obtain rfl:j=10:=by simpa using hj
 refine CO (o:=AL 10) (t:=28) (x:=64) (y:=63) (by kernel_rfl) (by kernel_rfl) (by kernel_rfl) g10_64 g10_63 (Pf (sz:=10) (by kernel_rfl) hvl (hB2.trans hB) (by rw[Nat.zero_add];have:=Nat.mul_le_mul_right 10 (show i+1<=n from hin);omega) hv1) ⟨?_,?_⟩
 ·rw[<- hS2];simp only[World.cell?,setRow_other _ B Bt _ hne]
 ·rw[show(AL 10).dst=none from by kernel_rfl]
  refine wpAnyH_done (by kernel_rfl) ⟨rfl,?_⟩ _
  rw[Nat.zero_add]
  exact hK _ s10
noncomputable def raO:Array Oper:=Q4 (Tryz.f70.body.getD .skip) 13
noncomputable def DU(i:Nat):Oper:=raO.getD i default
set_option maxHeartbeats 2000000 in
theorem raR{K:Act->World->Prop}{R:Ending->World->Prop}{a:Act}{w:World}{Bt B c i n:Nat}{ct cs:Array Value}{T0:TypeId}(x1:Value)(x2:Value)(hb:w.heap[Bt]? = some (.cells ct T0 (0,0)))(hk:ct[9]? = some (.slice (some ⟨B,0,none⟩) n c))(hB:w.heap[B]? = some (.cells cs 28 (0,0)))(hne:Bt≠B)(hin:i<n)(hsz:n*10<=cs.size)
  (hbox:a.eval (.tmp 3) = .pointer (some ⟨Bt,0,none⟩)) (hidx:a.eval (.tmp 10) = .int .i64 (i:Int)) (hx1:a.eval (.tmp 1)=x1) (hx2:a.eval (.tmp 2)=x2) (hts:a.tmps.size=82) (hcall:Calls Tryz.prog 70 #[(.agg ((cs.toList.drop (i*10)).take 10).toArray),x1,x2] {w with drawn:=w.drawn+1} R)
  (hR : ∀ e w',R e w'-> ∃ vs:List Value,e = .returned (.agg vs.toArray)∧vs.length=10∧Z6 vs∧w'.heap[Bt]? = w.heap[Bt]? ∧w'.heap[B]? = w.heap[B]? ∧ ∀ a',SameT [56,57,58,59,60,61,62,63,64,65,66,67] a a'->K a' (w'.setRow B (splice cs.toList (i*10) vs).toArray)) :
  (Code.region 13 raO true).wp Tryz.prog (fun e a w=>e = .normal∧K a w) a w:=by
 have hS0:w.cell? ⟨Bt,9,none⟩=some (.slice (some ⟨B,0,none⟩) n c):=by simp[World.cell?,hb,hk]
 have hlen:((cs.toList.drop (i*10)).take 10).length=10:=by simp;omega
 have s0:SameT [56,57,58,59,60,61,62,63,64,65,66,67] a a:=.refl _ _
 refine wp_region_held (S:=fun w=>w.cell? ⟨Bt,9,none⟩=some (.slice (some ⟨B,0,none⟩) n c)) (by kernel_rfl) ?_
 rw[show raO.size=13 from by kernel_rfl]
 generalize hwd:({w with drawn:=w.drawn+1}:World)=wd at hcall ⊢
 have hh:wd.heap=w.heap:=by rw[<- hwd]
 have hS:wd.cell? ⟨Bt,9,none⟩=some (.slice (some ⟨B,0,none⟩) n c):=by rw[<- hS0];simp[World.cell?,hh]
 refine wpAnyH_take (i:=0) (oi:=DU 0) (v:=.pointer (some ⟨Bt,0+9,none⟩)) (by kernel_rfl) (by kernel_rfl) (by kernel_rfl) (by kernel_rfl) (fun _ _ _ h=>nomatch h.1) ((Z8 Bt 0 9)▸SQ (s:=28) (x:=3) (n:=7) (off:=9) (by kernel_rfl) (by kernel_rfl) (by kernel_rfl) hbox) hS ?_
 rw[show(DU 0).dst=some 56 from by kernel_rfl]
 have s1:=s0.put (d:=56) (by decide) (.pointer (some ⟨Bt,0+9,none⟩))
 have g1_56:(a.put (some 56) (.pointer (some ⟨Bt,0+9,none⟩))).eval (.tmp 56) = .pointer (some ⟨Bt,0+9,none⟩):=Zj (by rw[s0.size,hts];decide)
 have g1_3:=(Za (v:=.pointer (some ⟨Bt,0+9,none⟩)) (show 56≠3 by decide)).trans hbox
 have g1_10:=(Za (v:=.pointer (some ⟨Bt,0+9,none⟩)) (show 56≠10 by decide)).trans hidx
 have g1_1:=(Za (v:=.pointer (some ⟨Bt,0+9,none⟩)) (show 56≠1 by decide)).trans hx1
 have g1_2:=(Za (v:=.pointer (some ⟨Bt,0+9,none⟩)) (show 56≠2 by decide)).trans hx2
 generalize a.put (some 56) (.pointer (some ⟨Bt,0+9,none⟩))=a1 at *
 refine wpAnyH_take (i:=1) (oi:=DU 1) (v:=.slice (some ⟨B,0,none⟩) n c) (by kernel_rfl) (by kernel_rfl) (by kernel_rfl) (by kernel_rfl) (fun _ _ _ h=>nomatch h.1) (TD (t:=26) (x:=56) (sz:=1) (by kernel_rfl) (by kernel_rfl) (by kernel_rfl) g1_56 (fun w h=>(by rw[Nat.zero_add];exact h))) hS ?_
 rw[show(DU 1).dst=some 57 from by kernel_rfl]
 have s2:=s1.put (d:=57) (by decide) (.slice (some ⟨B,0,none⟩) n c)
 have g2_57:(a1.put (some 57) (.slice (some ⟨B,0,none⟩) n c)).eval (.tmp 57) = .slice (some ⟨B,0,none⟩) n c:=Zj (by rw[s1.size,hts];decide)
 have g2_3:=(Za (v:=.slice (some ⟨B,0,none⟩) n c) (show 57≠3 by decide)).trans g1_3
 have g2_10:=(Za (v:=.slice (some ⟨B,0,none⟩) n c) (show 57≠10 by decide)).trans g1_10
 have g2_1:=(Za (v:=.slice (some ⟨B,0,none⟩) n c) (show 57≠1 by decide)).trans g1_1
 have g2_2:=(Za (v:=.slice (some ⟨B,0,none⟩) n c) (show 57≠2 by decide)).trans g1_2
 have g2_56:=(Za (v:=.slice (some ⟨B,0,none⟩) n c) (show 57≠56 by decide)).trans g1_56
 generalize a1.put (some 57) (.slice (some ⟨B,0,none⟩) n c)=a2 at *
 refine wpAnyH_take (i:=2) (oi:=DU 2) (v:=.int .i64 (i:Int)) (by kernel_rfl) (by kernel_rfl) (by kernel_rfl) (by kernel_rfl) (fun _ _ _ h=>nomatch h.1) (Ja (x:=10) (by kernel_rfl) (by kernel_rfl) g2_10) hS ?_
 rw[show(DU 2).dst=some 58 from by kernel_rfl]
 have s3:=s2.put (d:=58) (by decide) (.int .i64 (i:Int))
 have g3_58:(a2.put (some 58) (.int .i64 (i:Int))).eval (.tmp 58) = .int .i64 (i:Int):=Zj (by rw[s2.size,hts];decide)
 have g3_3:=(Za (v:=.int .i64 (i:Int)) (show 58≠3 by decide)).trans g2_3
 have g3_10:=(Za (v:=.int .i64 (i:Int)) (show 58≠10 by decide)).trans g2_10
 have g3_1:=(Za (v:=.int .i64 (i:Int)) (show 58≠1 by decide)).trans g2_1
 have g3_2:=(Za (v:=.int .i64 (i:Int)) (show 58≠2 by decide)).trans g2_2
 have g3_56:=(Za (v:=.int .i64 (i:Int)) (show 58≠56 by decide)).trans g2_56
 have g3_57:=(Za (v:=.int .i64 (i:Int)) (show 58≠57 by decide)).trans g2_57
 generalize a2.put (some 58) (.int .i64 (i:Int))=a3 at *
 refine wpAnyH_take (i:=3) (oi:=DU 3) (v:=.pointer (some ⟨Bt,0+9,none⟩)) (by kernel_rfl) (by kernel_rfl) (by kernel_rfl) (by kernel_rfl) (fun _ _ _ h=>nomatch h.1) ((Z8 Bt 0 9)▸SQ (s:=28) (x:=3) (n:=7) (off:=9) (by kernel_rfl) (by kernel_rfl) (by kernel_rfl) g3_3) hS ?_
 rw[show(DU 3).dst=some 59 from by kernel_rfl]
 have s4:=s3.put (d:=59) (by decide) (.pointer (some ⟨Bt,0+9,none⟩))
 have g4_59:(a3.put (some 59) (.pointer (some ⟨Bt,0+9,none⟩))).eval (.tmp 59) = .pointer (some ⟨Bt,0+9,none⟩):=Zj (by rw[s3.size,hts];decide)
 have g4_3:=(Za (v:=.pointer (some ⟨Bt,0+9,none⟩)) (show 59≠3 by decide)).trans g3_3
 have g4_10:=(Za (v:=.pointer (some ⟨Bt,0+9,none⟩)) (show 59≠10 by decide)).trans g3_10
 have g4_1:=(Za (v:=.pointer (some ⟨Bt,0+9,none⟩)) (show 59≠1 by decide)).trans g3_1
 have g4_2:=(Za (v:=.pointer (some ⟨Bt,0+9,none⟩)) (show 59≠2 by decide)).trans g3_2
 have g4_56:=(Za (v:=.pointer (some ⟨Bt,0+9,none⟩)) (show 59≠56 by decide)).trans g3_56
 have g4_57:=(Za (v:=.pointer (some ⟨Bt,0+9,none⟩)) (show 59≠57 by decide)).trans g3_57
 have g4_58:=(Za (v:=.pointer (some ⟨Bt,0+9,none⟩)) (show 59≠58 by decide)).trans g3_58
 generalize a3.put (some 59) (.pointer (some ⟨Bt,0+9,none⟩))=a4 at *
 refine wpAnyH_take (i:=4) (oi:=DU 4) (v:=.slice (some ⟨B,0,none⟩) n c) (by kernel_rfl) (by kernel_rfl) (by kernel_rfl) (by kernel_rfl) (fun _ _ _ h=>nomatch h.1) (TD (t:=26) (x:=59) (sz:=1) (by kernel_rfl) (by kernel_rfl) (by kernel_rfl) g4_59 (fun w h=>(by rw[Nat.zero_add];exact h))) hS ?_
 rw[show(DU 4).dst=some 60 from by kernel_rfl]
 have s5:=s4.put (d:=60) (by decide) (.slice (some ⟨B,0,none⟩) n c)
 have g5_60:(a4.put (some 60) (.slice (some ⟨B,0,none⟩) n c)).eval (.tmp 60) = .slice (some ⟨B,0,none⟩) n c:=Zj (by rw[s4.size,hts];decide)
 have g5_3:=(Za (v:=.slice (some ⟨B,0,none⟩) n c) (show 60≠3 by decide)).trans g4_3
 have g5_10:=(Za (v:=.slice (some ⟨B,0,none⟩) n c) (show 60≠10 by decide)).trans g4_10
 have g5_1:=(Za (v:=.slice (some ⟨B,0,none⟩) n c) (show 60≠1 by decide)).trans g4_1
 have g5_2:=(Za (v:=.slice (some ⟨B,0,none⟩) n c) (show 60≠2 by decide)).trans g4_2
 have g5_56:=(Za (v:=.slice (some ⟨B,0,none⟩) n c) (show 60≠56 by decide)).trans g4_56
 have g5_57:=(Za (v:=.slice (some ⟨B,0,none⟩) n c) (show 60≠57 by decide)).trans g4_57
 have g5_58:=(Za (v:=.slice (some ⟨B,0,none⟩) n c) (show 60≠58 by decide)).trans g4_58
 have g5_59:=(Za (v:=.slice (some ⟨B,0,none⟩) n c) (show 60≠59 by decide)).trans g4_59
 generalize a4.put (some 60) (.slice (some ⟨B,0,none⟩) n c)=a5 at *
 refine wpAnyH_take (i:=5) (oi:=DU 5) (v:=.int .i64 (i:Int)) (by kernel_rfl) (by kernel_rfl) (by kernel_rfl) (by kernel_rfl) (fun _ _ _ h=>nomatch h.1) (Ja (x:=10) (by kernel_rfl) (by kernel_rfl) g5_10) hS ?_
 rw[show(DU 5).dst=some 61 from by kernel_rfl]
 have s6:=s5.put (d:=61) (by decide) (.int .i64 (i:Int))
 have g6_61:(a5.put (some 61) (.int .i64 (i:Int))).eval (.tmp 61) = .int .i64 (i:Int):=Zj (by rw[s5.size,hts];decide)
 have g6_3:=(Za (v:=.int .i64 (i:Int)) (show 61≠3 by decide)).trans g5_3
 have g6_10:=(Za (v:=.int .i64 (i:Int)) (show 61≠10 by decide)).trans g5_10
 have g6_1:=(Za (v:=.int .i64 (i:Int)) (show 61≠1 by decide)).trans g5_1
 have g6_2:=(Za (v:=.int .i64 (i:Int)) (show 61≠2 by decide)).trans g5_2
 have g6_56:=(Za (v:=.int .i64 (i:Int)) (show 61≠56 by decide)).trans g5_56
 have g6_57:=(Za (v:=.int .i64 (i:Int)) (show 61≠57 by decide)).trans g5_57
 have g6_58:=(Za (v:=.int .i64 (i:Int)) (show 61≠58 by decide)).trans g5_58
 have g6_59:=(Za (v:=.int .i64 (i:Int)) (show 61≠59 by decide)).trans g5_59
 have g6_60:=(Za (v:=.int .i64 (i:Int)) (show 61≠60 by decide)).trans g5_60
 generalize a5.put (some 61) (.int .i64 (i:Int))=a6 at *
 refine wpAnyH_take (i:=6) (oi:=DU 6) (v:=.pointer (some ⟨B,0+i*10,none⟩)) (by kernel_rfl) (by kernel_rfl) (by kernel_rfl) (by kernel_rfl) (fun _ _ _ h=>nomatch h.1) ((Z8 B 0 (i*10))▸SK (t:=26) (x:=60) (y:=61) (sz:=10) (by kernel_rfl) (by kernel_rfl) (by kernel_rfl) g6_60 g6_61 hin) hS ?_
 rw[show(DU 6).dst=some 62 from by kernel_rfl]
 have s7:=s6.put (d:=62) (by decide) (.pointer (some ⟨B,0+i*10,none⟩))
 have g7_62:(a6.put (some 62) (.pointer (some ⟨B,0+i*10,none⟩))).eval (.tmp 62) = .pointer (some ⟨B,0+i*10,none⟩):=Zj (by rw[s6.size,hts];decide)
 have g7_3:=(Za (v:=.pointer (some ⟨B,0+i*10,none⟩)) (show 62≠3 by decide)).trans g6_3
 have g7_10:=(Za (v:=.pointer (some ⟨B,0+i*10,none⟩)) (show 62≠10 by decide)).trans g6_10
 have g7_1:=(Za (v:=.pointer (some ⟨B,0+i*10,none⟩)) (show 62≠1 by decide)).trans g6_1
 have g7_2:=(Za (v:=.pointer (some ⟨B,0+i*10,none⟩)) (show 62≠2 by decide)).trans g6_2
 have g7_56:=(Za (v:=.pointer (some ⟨B,0+i*10,none⟩)) (show 62≠56 by decide)).trans g6_56
 have g7_57:=(Za (v:=.pointer (some ⟨B,0+i*10,none⟩)) (show 62≠57 by decide)).trans g6_57
 have g7_58:=(Za (v:=.pointer (some ⟨B,0+i*10,none⟩)) (show 62≠58 by decide)).trans g6_58
 have g7_59:=(Za (v:=.pointer (some ⟨B,0+i*10,none⟩)) (show 62≠59 by decide)).trans g6_59
 have g7_60:=(Za (v:=.pointer (some ⟨B,0+i*10,none⟩)) (show 62≠60 by decide)).trans g6_60
 have g7_61:=(Za (v:=.pointer (some ⟨B,0+i*10,none⟩)) (show 62≠61 by decide)).trans g6_61
 generalize a6.put (some 62) (.pointer (some ⟨B,0+i*10,none⟩))=a7 at *
 refine wpAnyH_take (i:=8) (oi:=DU 8) (v:=x1) (by kernel_rfl) (by kernel_rfl) (by kernel_rfl) (by kernel_rfl) (fun _ _ _ h=>nomatch h.1) (Ja (x:=1) (by kernel_rfl) (by kernel_rfl) g7_1) hS ?_
 rw[show(DU 8).dst=some 64 from by kernel_rfl]
 have s8:=s7.put (d:=64) (by decide) (x1)
 have g8_64:(a7.put (some 64) (x1)).eval (.tmp 64)=x1:=Zj (by rw[s7.size,hts];decide)
 have g8_3:=(Za (v:=x1) (show 64≠3 by decide)).trans g7_3
 have g8_10:=(Za (v:=x1) (show 64≠10 by decide)).trans g7_10
 have g8_1:=(Za (v:=x1) (show 64≠1 by decide)).trans g7_1
 have g8_2:=(Za (v:=x1) (show 64≠2 by decide)).trans g7_2
 have g8_56:=(Za (v:=x1) (show 64≠56 by decide)).trans g7_56
 have g8_57:=(Za (v:=x1) (show 64≠57 by decide)).trans g7_57
 have g8_58:=(Za (v:=x1) (show 64≠58 by decide)).trans g7_58
 have g8_59:=(Za (v:=x1) (show 64≠59 by decide)).trans g7_59
 have g8_60:=(Za (v:=x1) (show 64≠60 by decide)).trans g7_60
 have g8_61:=(Za (v:=x1) (show 64≠61 by decide)).trans g7_61
 have g8_62:=(Za (v:=x1) (show 64≠62 by decide)).trans g7_62
 generalize a7.put (some 64) (x1)=a8 at *
 refine wpAnyH_take (i:=9) (oi:=DU 9) (v:=x2) (by kernel_rfl) (by kernel_rfl) (by kernel_rfl) (by kernel_rfl) (fun _ _ _ h=>nomatch h.1) (Ja (x:=2) (by kernel_rfl) (by kernel_rfl) g8_2) hS ?_
 rw[show(DU 9).dst=some 65 from by kernel_rfl]
 have s9:=s8.put (d:=65) (by decide) (x2)
 have g9_65:(a8.put (some 65) (x2)).eval (.tmp 65)=x2:=Zj (by rw[s8.size,hts];decide)
 have g9_3:=(Za (v:=x2) (show 65≠3 by decide)).trans g8_3
 have g9_10:=(Za (v:=x2) (show 65≠10 by decide)).trans g8_10
 have g9_1:=(Za (v:=x2) (show 65≠1 by decide)).trans g8_1
 have g9_2:=(Za (v:=x2) (show 65≠2 by decide)).trans g8_2
 have g9_56:=(Za (v:=x2) (show 65≠56 by decide)).trans g8_56
 have g9_57:=(Za (v:=x2) (show 65≠57 by decide)).trans g8_57
 have g9_58:=(Za (v:=x2) (show 65≠58 by decide)).trans g8_58
 have g9_59:=(Za (v:=x2) (show 65≠59 by decide)).trans g8_59
 have g9_60:=(Za (v:=x2) (show 65≠60 by decide)).trans g8_60
 have g9_61:=(Za (v:=x2) (show 65≠61 by decide)).trans g8_61
 have g9_62:=(Za (v:=x2) (show 65≠62 by decide)).trans g8_62
 have g9_64:=(Za (v:=x2) (show 65≠64 by decide)).trans g8_64
 generalize a8.put (some 65) (x2)=a9 at *
 refine wpAnyH_all (rs:=[7]) (by kernel_rfl) (by simp) (fun j hj=> ?_)
 obtain rfl:j=7:=by simpa using hj
 refine FL (o:=DU 7) (t:=28) (sz:=10) (x:=62) (by kernel_rfl) (by kernel_rfl) (by kernel_rfl) (by kernel_rfl) hlen g9_62 (by rw[Nat.zero_add];exact Z9 ((congrArg (·[B]?) hh).trans hB) _ _) ⟨hS,?_⟩
 rw[show(DU 7).dst=some 63 from by kernel_rfl]
 have s10:=s9.put (d:=63) (by decide) (.agg ((cs.toList.drop (i*10)).take 10).toArray)
 have g10_63:(a9.put (some 63) (.agg ((cs.toList.drop (i*10)).take 10).toArray)).eval (.tmp 63) = .agg ((cs.toList.drop (i*10)).take 10).toArray:=Zj (by rw[s9.size,hts];decide)
 have g10_3:=(Za (v:=.agg ((cs.toList.drop (i*10)).take 10).toArray) (show 63≠3 by decide)).trans g9_3
 have g10_10:=(Za (v:=.agg ((cs.toList.drop (i*10)).take 10).toArray) (show 63≠10 by decide)).trans g9_10
 have g10_1:=(Za (v:=.agg ((cs.toList.drop (i*10)).take 10).toArray) (show 63≠1 by decide)).trans g9_1
 have g10_2:=(Za (v:=.agg ((cs.toList.drop (i*10)).take 10).toArray) (show 63≠2 by decide)).trans g9_2
 have g10_56:=(Za (v:=.agg ((cs.toList.drop (i*10)).take 10).toArray) (show 63≠56 by decide)).trans g9_56
 have g10_57:=(Za (v:=.agg ((cs.toList.drop (i*10)).take 10).toArray) (show 63≠57 by decide)).trans g9_57
 have g10_58:=(Za (v:=.agg ((cs.toList.drop (i*10)).take 10).toArray) (show 63≠58 by decide)).trans g9_58
 have g10_59:=(Za (v:=.agg ((cs.toList.drop (i*10)).take 10).toArray) (show 63≠59 by decide)).trans g9_59
 have g10_60:=(Za (v:=.agg ((cs.toList.drop (i*10)).take 10).toArray) (show 63≠60 by decide)).trans g9_60
 have g10_61:=(Za (v:=.agg ((cs.toList.drop (i*10)).take 10).toArray) (show 63≠61 by decide)).trans g9_61
 have g10_62:=(Za (v:=.agg ((cs.toList.drop (i*10)).take 10).toArray) (show 63≠62 by decide)).trans g9_62
 have g10_64:=(Za (v:=.agg ((cs.toList.drop (i*10)).take 10).toArray) (show 63≠64 by decide)).trans g9_64
 have g10_65:=(Za (v:=.agg ((cs.toList.drop (i*10)).take 10).toArray) (show 63≠65 by decide)).trans g9_65
 generalize a9.put (some 63) (.agg ((cs.toList.drop (i*10)).take 10).toArray)=a10 at *
 refine wpAnyH_all (rs:=[10]) (by kernel_rfl) (by simp) (fun j hj=> ?_)
 obtain rfl:j=10:=by simpa using hj
 refine Rn (o:=DU 10) (f:=70) (xs:=#[.tmp 63,.tmp 64,.tmp 65]) (ts:=#[28,80,78]) (by kernel_rfl) (by kernel_rfl) (by kernel_rfl) Tryz.func70 (by kernel_rfl) (by kernel_rfl) (vs:=#[(.agg ((cs.toList.drop (i*10)).take 10).toArray),x1,x2]) (by simp only[List.map_toArray,List.map_cons,List.map_nil,g10_63,g10_64,g10_65]) hcall ?_
 intro e w2 hr
 obtain⟨vs,rfl,hvl,hv1,hb2,hB2,hK⟩:=hR e w2 hr
 have hS2:w2.cell? ⟨Bt,9,none⟩=some (.slice (some ⟨B,0,none⟩) n c):=by simp[World.cell?,hb2,hb,hk]
 refine⟨_,rfl,hS2,?_⟩
 rw[show(DU 10).dst=some 66 from by kernel_rfl]
 have s11:=s10.put (d:=66) (by decide) (.agg vs.toArray)
 have g11_66:(a10.put (some 66) (.agg vs.toArray)).eval (.tmp 66) = .agg vs.toArray:=Zj (by rw[s10.size,hts];decide)
 have g11_3:=(Za (v:=.agg vs.toArray) (show 66≠3 by decide)).trans g10_3
 have g11_10:=(Za (v:=.agg vs.toArray) (show 66≠10 by decide)).trans g10_10
 have g11_1:=(Za (v:=.agg vs.toArray) (show 66≠1 by decide)).trans g10_1
 have g11_2:=(Za (v:=.agg vs.toArray) (show 66≠2 by decide)).trans g10_2
 have g11_56:=(Za (v:=.agg vs.toArray) (show 66≠56 by decide)).trans g10_56
 have g11_57:=(Za (v:=.agg vs.toArray) (show 66≠57 by decide)).trans g10_57
 have g11_58:=(Za (v:=.agg vs.toArray) (show 66≠58 by decide)).trans g10_58
 have g11_59:=(Za (v:=.agg vs.toArray) (show 66≠59 by decide)).trans g10_59
 have g11_60:=(Za (v:=.agg vs.toArray) (show 66≠60 by decide)).trans g10_60
 have g11_61:=(Za (v:=.agg vs.toArray) (show 66≠61 by decide)).trans g10_61
 have g11_62:=(Za (v:=.agg vs.toArray) (show 66≠62 by decide)).trans g10_62
 have g11_64:=(Za (v:=.agg vs.toArray) (show 66≠64 by decide)).trans g10_64
 have g11_65:=(Za (v:=.agg vs.toArray) (show 66≠65 by decide)).trans g10_65
 have g11_63:=(Za (v:=.agg vs.toArray) (show 66≠63 by decide)).trans g10_63
 generalize a10.put (some 66) (.agg vs.toArray)=a11 at *
 refine wpAnyH_take (i:=11) (oi:=DU 11) (v:=.pointer (some ⟨B,0+i*10,none⟩)) (by kernel_rfl) (by kernel_rfl) (by kernel_rfl) (by kernel_rfl) (fun _ _ _ h=>nomatch h.1) ((Z8 B 0 (i*10))▸SK (t:=26) (x:=57) (y:=58) (sz:=10) (by kernel_rfl) (by kernel_rfl) (by kernel_rfl) g11_57 g11_58 hin) hS2 ?_
 rw[show(DU 11).dst=some 67 from by kernel_rfl]
 have s12:=s11.put (d:=67) (by decide) (.pointer (some ⟨B,0+i*10,none⟩))
 have g12_67:(a11.put (some 67) (.pointer (some ⟨B,0+i*10,none⟩))).eval (.tmp 67) = .pointer (some ⟨B,0+i*10,none⟩):=Zj (by rw[s11.size,hts];decide)
 have g12_3:=(Za (v:=.pointer (some ⟨B,0+i*10,none⟩)) (show 67≠3 by decide)).trans g11_3
 have g12_10:=(Za (v:=.pointer (some ⟨B,0+i*10,none⟩)) (show 67≠10 by decide)).trans g11_10
 have g12_1:=(Za (v:=.pointer (some ⟨B,0+i*10,none⟩)) (show 67≠1 by decide)).trans g11_1
 have g12_2:=(Za (v:=.pointer (some ⟨B,0+i*10,none⟩)) (show 67≠2 by decide)).trans g11_2
 have g12_56:=(Za (v:=.pointer (some ⟨B,0+i*10,none⟩)) (show 67≠56 by decide)).trans g11_56
 have g12_57:=(Za (v:=.pointer (some ⟨B,0+i*10,none⟩)) (show 67≠57 by decide)).trans g11_57
 have g12_58:=(Za (v:=.pointer (some ⟨B,0+i*10,none⟩)) (show 67≠58 by decide)).trans g11_58
 have g12_59:=(Za (v:=.pointer (some ⟨B,0+i*10,none⟩)) (show 67≠59 by decide)).trans g11_59
 have g12_60:=(Za (v:=.pointer (some ⟨B,0+i*10,none⟩)) (show 67≠60 by decide)).trans g11_60
 have g12_61:=(Za (v:=.pointer (some ⟨B,0+i*10,none⟩)) (show 67≠61 by decide)).trans g11_61
 have g12_62:=(Za (v:=.pointer (some ⟨B,0+i*10,none⟩)) (show 67≠62 by decide)).trans g11_62
 have g12_64:=(Za (v:=.pointer (some ⟨B,0+i*10,none⟩)) (show 67≠64 by decide)).trans g11_64
 have g12_65:=(Za (v:=.pointer (some ⟨B,0+i*10,none⟩)) (show 67≠65 by decide)).trans g11_65
 have g12_63:=(Za (v:=.pointer (some ⟨B,0+i*10,none⟩)) (show 67≠63 by decide)).trans g11_63
 have g12_66:=(Za (v:=.pointer (some ⟨B,0+i*10,none⟩)) (show 67≠66 by decide)).trans g11_66
 generalize a11.put (some 67) (.pointer (some ⟨B,0+i*10,none⟩))=a12 at *
 refine wpAnyH_all (rs:=[12]) (by kernel_rfl) (by simp) (fun j hj=> ?_)
 obtain rfl:j=12:=by simpa using hj
 refine CO (o:=DU 12) (t:=28) (x:=67) (y:=66) (by kernel_rfl) (by kernel_rfl) (by kernel_rfl) g12_67 g12_66 (Pf (sz:=10) (by kernel_rfl) hvl (hB2.trans hB) (by rw[Nat.zero_add];have:=Nat.mul_le_mul_right 10 (show i+1<=n from hin);omega) hv1) ⟨?_,?_⟩
 ·rw[<- hS2];simp only[World.cell?,setRow_other _ B Bt _ hne]
 ·rw[show(DU 12).dst=none from by kernel_rfl]
  refine wpAnyH_done (by kernel_rfl) ⟨rfl,?_⟩ _
  rw[Nat.zero_add]
  exact hK _ s12
noncomputable def rbO:Array Oper:=Q4 (Tryz.f70.body.getD .skip) 14
noncomputable def DX(i:Nat):Oper:=rbO.getD i default
set_option maxHeartbeats 2000000 in
theorem rbR{K:Act->World->Prop}{R:Ending->World->Prop}{a:Act}{w:World}{Bt B c i n:Nat}{ct cs:Array Value}{T0:TypeId}(x9:Value)(x2:Value)(hb:w.heap[Bt]? = some (.cells ct T0 (0,0)))(hk:ct[9]? = some (.slice (some ⟨B,0,none⟩) n c))(hB:w.heap[B]? = some (.cells cs 28 (0,0)))(hne:Bt≠B)(hin:i<n)(hsz:n*10<=cs.size)
  (hbox:a.eval (.tmp 3) = .pointer (some ⟨Bt,0,none⟩)) (hidx:a.eval (.tmp 10) = .int .i64 (i:Int)) (hx9:a.eval (.tmp 9)=x9) (hx2:a.eval (.tmp 2)=x2) (hts:a.tmps.size=82) (hcall:Calls Tryz.prog 70 #[(.agg ((cs.toList.drop (i*10)).take 10).toArray),x9,x2] {w with drawn:=w.drawn+1} R)
  (hR : ∀ e w',R e w'-> ∃ vs:List Value,e = .returned (.agg vs.toArray)∧vs.length=10∧Z6 vs∧w'.heap[Bt]? = w.heap[Bt]? ∧w'.heap[B]? = w.heap[B]? ∧ ∀ a',SameT [68,69,70,71,72,73,74,75,76,77,78,79] a a'->K a' (w'.setRow B (splice cs.toList (i*10) vs).toArray)) :
  (Code.region 14 rbO true).wp Tryz.prog (fun e a w=>e = .normal∧K a w) a w:=by
 have hS0:w.cell? ⟨Bt,9,none⟩=some (.slice (some ⟨B,0,none⟩) n c):=by simp[World.cell?,hb,hk]
 have hlen:((cs.toList.drop (i*10)).take 10).length=10:=by simp;omega
 have s0:SameT [68,69,70,71,72,73,74,75,76,77,78,79] a a:=.refl _ _
 refine wp_region_held (S:=fun w=>w.cell? ⟨Bt,9,none⟩=some (.slice (some ⟨B,0,none⟩) n c)) (by kernel_rfl) ?_
 rw[show rbO.size=13 from by kernel_rfl]
 generalize hwd:({w with drawn:=w.drawn+1}:World)=wd at hcall ⊢
 have hh:wd.heap=w.heap:=by rw[<- hwd]
 have hS:wd.cell? ⟨Bt,9,none⟩=some (.slice (some ⟨B,0,none⟩) n c):=by rw[<- hS0];simp[World.cell?,hh]
 refine wpAnyH_take (i:=0) (oi:=DX 0) (v:=.pointer (some ⟨Bt,0+9,none⟩)) (by kernel_rfl) (by kernel_rfl) (by kernel_rfl) (by kernel_rfl) (fun _ _ _ h=>nomatch h.1) ((Z8 Bt 0 9)▸SQ (s:=28) (x:=3) (n:=7) (off:=9) (by kernel_rfl) (by kernel_rfl) (by kernel_rfl) hbox) hS ?_
 rw[show(DX 0).dst=some 68 from by kernel_rfl]
 have s1:=s0.put (d:=68) (by decide) (.pointer (some ⟨Bt,0+9,none⟩))
 have g1_68:(a.put (some 68) (.pointer (some ⟨Bt,0+9,none⟩))).eval (.tmp 68) = .pointer (some ⟨Bt,0+9,none⟩):=Zj (by rw[s0.size,hts];decide)
 have g1_3:=(Za (v:=.pointer (some ⟨Bt,0+9,none⟩)) (show 68≠3 by decide)).trans hbox
 have g1_10:=(Za (v:=.pointer (some ⟨Bt,0+9,none⟩)) (show 68≠10 by decide)).trans hidx
 have g1_9:=(Za (v:=.pointer (some ⟨Bt,0+9,none⟩)) (show 68≠9 by decide)).trans hx9
 have g1_2:=(Za (v:=.pointer (some ⟨Bt,0+9,none⟩)) (show 68≠2 by decide)).trans hx2
 generalize a.put (some 68) (.pointer (some ⟨Bt,0+9,none⟩))=a1 at *
 refine wpAnyH_take (i:=1) (oi:=DX 1) (v:=.slice (some ⟨B,0,none⟩) n c) (by kernel_rfl) (by kernel_rfl) (by kernel_rfl) (by kernel_rfl) (fun _ _ _ h=>nomatch h.1) (TD (t:=26) (x:=68) (sz:=1) (by kernel_rfl) (by kernel_rfl) (by kernel_rfl) g1_68 (fun w h=>(by rw[Nat.zero_add];exact h))) hS ?_
 rw[show(DX 1).dst=some 69 from by kernel_rfl]
 have s2:=s1.put (d:=69) (by decide) (.slice (some ⟨B,0,none⟩) n c)
 have g2_69:(a1.put (some 69) (.slice (some ⟨B,0,none⟩) n c)).eval (.tmp 69) = .slice (some ⟨B,0,none⟩) n c:=Zj (by rw[s1.size,hts];decide)
 have g2_3:=(Za (v:=.slice (some ⟨B,0,none⟩) n c) (show 69≠3 by decide)).trans g1_3
 have g2_10:=(Za (v:=.slice (some ⟨B,0,none⟩) n c) (show 69≠10 by decide)).trans g1_10
 have g2_9:=(Za (v:=.slice (some ⟨B,0,none⟩) n c) (show 69≠9 by decide)).trans g1_9
 have g2_2:=(Za (v:=.slice (some ⟨B,0,none⟩) n c) (show 69≠2 by decide)).trans g1_2
 have g2_68:=(Za (v:=.slice (some ⟨B,0,none⟩) n c) (show 69≠68 by decide)).trans g1_68
 generalize a1.put (some 69) (.slice (some ⟨B,0,none⟩) n c)=a2 at *
 refine wpAnyH_take (i:=2) (oi:=DX 2) (v:=.int .i64 (i:Int)) (by kernel_rfl) (by kernel_rfl) (by kernel_rfl) (by kernel_rfl) (fun _ _ _ h=>nomatch h.1) (Ja (x:=10) (by kernel_rfl) (by kernel_rfl) g2_10) hS ?_
 rw[show(DX 2).dst=some 70 from by kernel_rfl]
 have s3:=s2.put (d:=70) (by decide) (.int .i64 (i:Int))
 have g3_70:(a2.put (some 70) (.int .i64 (i:Int))).eval (.tmp 70) = .int .i64 (i:Int):=Zj (by rw[s2.size,hts];decide)
 have g3_3:=(Za (v:=.int .i64 (i:Int)) (show 70≠3 by decide)).trans g2_3
 have g3_10:=(Za (v:=.int .i64 (i:Int)) (show 70≠10 by decide)).trans g2_10
 have g3_9:=(Za (v:=.int .i64 (i:Int)) (show 70≠9 by decide)).trans g2_9
 have g3_2:=(Za (v:=.int .i64 (i:Int)) (show 70≠2 by decide)).trans g2_2
 have g3_68:=(Za (v:=.int .i64 (i:Int)) (show 70≠68 by decide)).trans g2_68
 have g3_69:=(Za (v:=.int .i64 (i:Int)) (show 70≠69 by decide)).trans g2_69
 generalize a2.put (some 70) (.int .i64 (i:Int))=a3 at *
 refine wpAnyH_take (i:=3) (oi:=DX 3) (v:=.pointer (some ⟨Bt,0+9,none⟩)) (by kernel_rfl) (by kernel_rfl) (by kernel_rfl) (by kernel_rfl) (fun _ _ _ h=>nomatch h.1) ((Z8 Bt 0 9)▸SQ (s:=28) (x:=3) (n:=7) (off:=9) (by kernel_rfl) (by kernel_rfl) (by kernel_rfl) g3_3) hS ?_
 rw[show(DX 3).dst=some 71 from by kernel_rfl]
 have s4:=s3.put (d:=71) (by decide) (.pointer (some ⟨Bt,0+9,none⟩))
 have g4_71:(a3.put (some 71) (.pointer (some ⟨Bt,0+9,none⟩))).eval (.tmp 71) = .pointer (some ⟨Bt,0+9,none⟩):=Zj (by rw[s3.size,hts];decide)
 have g4_3:=(Za (v:=.pointer (some ⟨Bt,0+9,none⟩)) (show 71≠3 by decide)).trans g3_3
 have g4_10:=(Za (v:=.pointer (some ⟨Bt,0+9,none⟩)) (show 71≠10 by decide)).trans g3_10
 have g4_9:=(Za (v:=.pointer (some ⟨Bt,0+9,none⟩)) (show 71≠9 by decide)).trans g3_9
 have g4_2:=(Za (v:=.pointer (some ⟨Bt,0+9,none⟩)) (show 71≠2 by decide)).trans g3_2
 have g4_68:=(Za (v:=.pointer (some ⟨Bt,0+9,none⟩)) (show 71≠68 by decide)).trans g3_68
 have g4_69:=(Za (v:=.pointer (some ⟨Bt,0+9,none⟩)) (show 71≠69 by decide)).trans g3_69
 have g4_70:=(Za (v:=.pointer (some ⟨Bt,0+9,none⟩)) (show 71≠70 by decide)).trans g3_70
 generalize a3.put (some 71) (.pointer (some ⟨Bt,0+9,none⟩))=a4 at *
 refine wpAnyH_take (i:=4) (oi:=DX 4) (v:=.slice (some ⟨B,0,none⟩) n c) (by kernel_rfl) (by kernel_rfl) (by kernel_rfl) (by kernel_rfl) (fun _ _ _ h=>nomatch h.1) (TD (t:=26) (x:=71) (sz:=1) (by kernel_rfl) (by kernel_rfl) (by kernel_rfl) g4_71 (fun w h=>(by rw[Nat.zero_add];exact h))) hS ?_
 rw[show(DX 4).dst=some 72 from by kernel_rfl]
 have s5:=s4.put (d:=72) (by decide) (.slice (some ⟨B,0,none⟩) n c)
 have g5_72:(a4.put (some 72) (.slice (some ⟨B,0,none⟩) n c)).eval (.tmp 72) = .slice (some ⟨B,0,none⟩) n c:=Zj (by rw[s4.size,hts];decide)
 have g5_3:=(Za (v:=.slice (some ⟨B,0,none⟩) n c) (show 72≠3 by decide)).trans g4_3
 have g5_10:=(Za (v:=.slice (some ⟨B,0,none⟩) n c) (show 72≠10 by decide)).trans g4_10
 have g5_9:=(Za (v:=.slice (some ⟨B,0,none⟩) n c) (show 72≠9 by decide)).trans g4_9
 have g5_2:=(Za (v:=.slice (some ⟨B,0,none⟩) n c) (show 72≠2 by decide)).trans g4_2
 have g5_68:=(Za (v:=.slice (some ⟨B,0,none⟩) n c) (show 72≠68 by decide)).trans g4_68
 have g5_69:=(Za (v:=.slice (some ⟨B,0,none⟩) n c) (show 72≠69 by decide)).trans g4_69
 have g5_70:=(Za (v:=.slice (some ⟨B,0,none⟩) n c) (show 72≠70 by decide)).trans g4_70
 have g5_71:=(Za (v:=.slice (some ⟨B,0,none⟩) n c) (show 72≠71 by decide)).trans g4_71
 generalize a4.put (some 72) (.slice (some ⟨B,0,none⟩) n c)=a5 at *
 refine wpAnyH_take (i:=5) (oi:=DX 5) (v:=.int .i64 (i:Int)) (by kernel_rfl) (by kernel_rfl) (by kernel_rfl) (by kernel_rfl) (fun _ _ _ h=>nomatch h.1) (Ja (x:=10) (by kernel_rfl) (by kernel_rfl) g5_10) hS ?_
 rw[show(DX 5).dst=some 73 from by kernel_rfl]
 have s6:=s5.put (d:=73) (by decide) (.int .i64 (i:Int))
 have g6_73:(a5.put (some 73) (.int .i64 (i:Int))).eval (.tmp 73) = .int .i64 (i:Int):=Zj (by rw[s5.size,hts];decide)
 have g6_3:=(Za (v:=.int .i64 (i:Int)) (show 73≠3 by decide)).trans g5_3
 have g6_10:=(Za (v:=.int .i64 (i:Int)) (show 73≠10 by decide)).trans g5_10
 have g6_9:=(Za (v:=.int .i64 (i:Int)) (show 73≠9 by decide)).trans g5_9
 have g6_2:=(Za (v:=.int .i64 (i:Int)) (show 73≠2 by decide)).trans g5_2
 have g6_68:=(Za (v:=.int .i64 (i:Int)) (show 73≠68 by decide)).trans g5_68
 have g6_69:=(Za (v:=.int .i64 (i:Int)) (show 73≠69 by decide)).trans g5_69
 have g6_70:=(Za (v:=.int .i64 (i:Int)) (show 73≠70 by decide)).trans g5_70
 have g6_71:=(Za (v:=.int .i64 (i:Int)) (show 73≠71 by decide)).trans g5_71
 have g6_72:=(Za (v:=.int .i64 (i:Int)) (show 73≠72 by decide)).trans g5_72
 generalize a5.put (some 73) (.int .i64 (i:Int))=a6 at *
 refine wpAnyH_take (i:=6) (oi:=DX 6) (v:=.pointer (some ⟨B,0+i*10,none⟩)) (by kernel_rfl) (by kernel_rfl) (by kernel_rfl) (by kernel_rfl) (fun _ _ _ h=>nomatch h.1) ((Z8 B 0 (i*10))▸SK (t:=26) (x:=72) (y:=73) (sz:=10) (by kernel_rfl) (by kernel_rfl) (by kernel_rfl) g6_72 g6_73 hin) hS ?_
 rw[show(DX 6).dst=some 74 from by kernel_rfl]
 have s7:=s6.put (d:=74) (by decide) (.pointer (some ⟨B,0+i*10,none⟩))
 have g7_74:(a6.put (some 74) (.pointer (some ⟨B,0+i*10,none⟩))).eval (.tmp 74) = .pointer (some ⟨B,0+i*10,none⟩):=Zj (by rw[s6.size,hts];decide)
 have g7_3:=(Za (v:=.pointer (some ⟨B,0+i*10,none⟩)) (show 74≠3 by decide)).trans g6_3
 have g7_10:=(Za (v:=.pointer (some ⟨B,0+i*10,none⟩)) (show 74≠10 by decide)).trans g6_10
 have g7_9:=(Za (v:=.pointer (some ⟨B,0+i*10,none⟩)) (show 74≠9 by decide)).trans g6_9
 have g7_2:=(Za (v:=.pointer (some ⟨B,0+i*10,none⟩)) (show 74≠2 by decide)).trans g6_2
 have g7_68:=(Za (v:=.pointer (some ⟨B,0+i*10,none⟩)) (show 74≠68 by decide)).trans g6_68
 have g7_69:=(Za (v:=.pointer (some ⟨B,0+i*10,none⟩)) (show 74≠69 by decide)).trans g6_69
 have g7_70:=(Za (v:=.pointer (some ⟨B,0+i*10,none⟩)) (show 74≠70 by decide)).trans g6_70
 have g7_71:=(Za (v:=.pointer (some ⟨B,0+i*10,none⟩)) (show 74≠71 by decide)).trans g6_71
 have g7_72:=(Za (v:=.pointer (some ⟨B,0+i*10,none⟩)) (show 74≠72 by decide)).trans g6_72
 have g7_73:=(Za (v:=.pointer (some ⟨B,0+i*10,none⟩)) (show 74≠73 by decide)).trans g6_73
 generalize a6.put (some 74) (.pointer (some ⟨B,0+i*10,none⟩))=a7 at *
 refine wpAnyH_take (i:=8) (oi:=DX 8) (v:=x9) (by kernel_rfl) (by kernel_rfl) (by kernel_rfl) (by kernel_rfl) (fun _ _ _ h=>nomatch h.1) (Ja (x:=9) (by kernel_rfl) (by kernel_rfl) g7_9) hS ?_
 rw[show(DX 8).dst=some 76 from by kernel_rfl]
 have s8:=s7.put (d:=76) (by decide) (x9)
 have g8_76:(a7.put (some 76) (x9)).eval (.tmp 76)=x9:=Zj (by rw[s7.size,hts];decide)
 have g8_3:=(Za (v:=x9) (show 76≠3 by decide)).trans g7_3
 have g8_10:=(Za (v:=x9) (show 76≠10 by decide)).trans g7_10
 have g8_9:=(Za (v:=x9) (show 76≠9 by decide)).trans g7_9
 have g8_2:=(Za (v:=x9) (show 76≠2 by decide)).trans g7_2
 have g8_68:=(Za (v:=x9) (show 76≠68 by decide)).trans g7_68
 have g8_69:=(Za (v:=x9) (show 76≠69 by decide)).trans g7_69
 have g8_70:=(Za (v:=x9) (show 76≠70 by decide)).trans g7_70
 have g8_71:=(Za (v:=x9) (show 76≠71 by decide)).trans g7_71
 have g8_72:=(Za (v:=x9) (show 76≠72 by decide)).trans g7_72
 have g8_73:=(Za (v:=x9) (show 76≠73 by decide)).trans g7_73
 have g8_74:=(Za (v:=x9) (show 76≠74 by decide)).trans g7_74
 generalize a7.put (some 76) (x9)=a8 at *
 refine wpAnyH_take (i:=9) (oi:=DX 9) (v:=x2) (by kernel_rfl) (by kernel_rfl) (by kernel_rfl) (by kernel_rfl) (fun _ _ _ h=>nomatch h.1) (Ja (x:=2) (by kernel_rfl) (by kernel_rfl) g8_2) hS ?_
 rw[show(DX 9).dst=some 77 from by kernel_rfl]
 have s9:=s8.put (d:=77) (by decide) (x2)
 have g9_77:(a8.put (some 77) (x2)).eval (.tmp 77)=x2:=Zj (by rw[s8.size,hts];decide)
 have g9_3:=(Za (v:=x2) (show 77≠3 by decide)).trans g8_3
 have g9_10:=(Za (v:=x2) (show 77≠10 by decide)).trans g8_10
 have g9_9:=(Za (v:=x2) (show 77≠9 by decide)).trans g8_9
 have g9_2:=(Za (v:=x2) (show 77≠2 by decide)).trans g8_2
 have g9_68:=(Za (v:=x2) (show 77≠68 by decide)).trans g8_68
 have g9_69:=(Za (v:=x2) (show 77≠69 by decide)).trans g8_69
 have g9_70:=(Za (v:=x2) (show 77≠70 by decide)).trans g8_70
 have g9_71:=(Za (v:=x2) (show 77≠71 by decide)).trans g8_71
 have g9_72:=(Za (v:=x2) (show 77≠72 by decide)).trans g8_72
 have g9_73:=(Za (v:=x2) (show 77≠73 by decide)).trans g8_73
 have g9_74:=(Za (v:=x2) (show 77≠74 by decide)).trans g8_74
 have g9_76:=(Za (v:=x2) (show 77≠76 by decide)).trans g8_76
 generalize a8.put (some 77) (x2)=a9 at *
 refine wpAnyH_all (rs:=[7]) (by kernel_rfl) (by simp) (fun j hj=> ?_)
 obtain rfl:j=7:=by simpa using hj
 refine FL (o:=DX 7) (t:=28) (sz:=10) (x:=74) (by kernel_rfl) (by kernel_rfl) (by kernel_rfl) (by kernel_rfl) hlen g9_74 (by rw[Nat.zero_add];exact Z9 ((congrArg (·[B]?) hh).trans hB) _ _) ⟨hS,?_⟩
 rw[show(DX 7).dst=some 75 from by kernel_rfl]
 have s10:=s9.put (d:=75) (by decide) (.agg ((cs.toList.drop (i*10)).take 10).toArray)
 have g10_75:(a9.put (some 75) (.agg ((cs.toList.drop (i*10)).take 10).toArray)).eval (.tmp 75) = .agg ((cs.toList.drop (i*10)).take 10).toArray:=Zj (by rw[s9.size,hts];decide)
 have g10_3:=(Za (v:=.agg ((cs.toList.drop (i*10)).take 10).toArray) (show 75≠3 by decide)).trans g9_3
 have g10_10:=(Za (v:=.agg ((cs.toList.drop (i*10)).take 10).toArray) (show 75≠10 by decide)).trans g9_10
 have g10_9:=(Za (v:=.agg ((cs.toList.drop (i*10)).take 10).toArray) (show 75≠9 by decide)).trans g9_9
 have g10_2:=(Za (v:=.agg ((cs.toList.drop (i*10)).take 10).toArray) (show 75≠2 by decide)).trans g9_2
 have g10_68:=(Za (v:=.agg ((cs.toList.drop (i*10)).take 10).toArray) (show 75≠68 by decide)).trans g9_68
 have g10_69:=(Za (v:=.agg ((cs.toList.drop (i*10)).take 10).toArray) (show 75≠69 by decide)).trans g9_69
 have g10_70:=(Za (v:=.agg ((cs.toList.drop (i*10)).take 10).toArray) (show 75≠70 by decide)).trans g9_70
 have g10_71:=(Za (v:=.agg ((cs.toList.drop (i*10)).take 10).toArray) (show 75≠71 by decide)).trans g9_71
 have g10_72:=(Za (v:=.agg ((cs.toList.drop (i*10)).take 10).toArray) (show 75≠72 by decide)).trans g9_72
 have g10_73:=(Za (v:=.agg ((cs.toList.drop (i*10)).take 10).toArray) (show 75≠73 by decide)).trans g9_73
 have g10_74:=(Za (v:=.agg ((cs.toList.drop (i*10)).take 10).toArray) (show 75≠74 by decide)).trans g9_74
 have g10_76:=(Za (v:=.agg ((cs.toList.drop (i*10)).take 10).toArray) (show 75≠76 by decide)).trans g9_76
 have g10_77:=(Za (v:=.agg ((cs.toList.drop (i*10)).take 10).toArray) (show 75≠77 by decide)).trans g9_77
 generalize a9.put (some 75) (.agg ((cs.toList.drop (i*10)).take 10).toArray)=a10 at *
 refine wpAnyH_all (rs:=[10]) (by kernel_rfl) (by simp) (fun j hj=> ?_)
 obtain rfl:j=10:=by simpa using hj
 refine Rn (o:=DX 10) (f:=70) (xs:=#[.tmp 75,.tmp 76,.tmp 77]) (ts:=#[28,80,78]) (by kernel_rfl) (by kernel_rfl) (by kernel_rfl) Tryz.func70 (by kernel_rfl) (by kernel_rfl) (vs:=#[(.agg ((cs.toList.drop (i*10)).take 10).toArray),x9,x2]) (by simp only[List.map_toArray,List.map_cons,List.map_nil,g10_75,g10_76,g10_77]) hcall ?_
 intro e w2 hr
 obtain⟨vs,rfl,hvl,hv1,hb2,hB2,hK⟩:=hR e w2 hr
 have hS2:w2.cell? ⟨Bt,9,none⟩=some (.slice (some ⟨B,0,none⟩) n c):=by simp[World.cell?,hb2,hb,hk]
 refine⟨_,rfl,hS2,?_⟩
 rw[show(DX 10).dst=some 78 from by kernel_rfl]
 have s11:=s10.put (d:=78) (by decide) (.agg vs.toArray)
 have g11_78:(a10.put (some 78) (.agg vs.toArray)).eval (.tmp 78) = .agg vs.toArray:=Zj (by rw[s10.size,hts];decide)
 have g11_3:=(Za (v:=.agg vs.toArray) (show 78≠3 by decide)).trans g10_3
 have g11_10:=(Za (v:=.agg vs.toArray) (show 78≠10 by decide)).trans g10_10
 have g11_9:=(Za (v:=.agg vs.toArray) (show 78≠9 by decide)).trans g10_9
 have g11_2:=(Za (v:=.agg vs.toArray) (show 78≠2 by decide)).trans g10_2
 have g11_68:=(Za (v:=.agg vs.toArray) (show 78≠68 by decide)).trans g10_68
 have g11_69:=(Za (v:=.agg vs.toArray) (show 78≠69 by decide)).trans g10_69
 have g11_70:=(Za (v:=.agg vs.toArray) (show 78≠70 by decide)).trans g10_70
 have g11_71:=(Za (v:=.agg vs.toArray) (show 78≠71 by decide)).trans g10_71
 have g11_72:=(Za (v:=.agg vs.toArray) (show 78≠72 by decide)).trans g10_72
 have g11_73:=(Za (v:=.agg vs.toArray) (show 78≠73 by decide)).trans g10_73
 have g11_74:=(Za (v:=.agg vs.toArray) (show 78≠74 by decide)).trans g10_74
 have g11_76:=(Za (v:=.agg vs.toArray) (show 78≠76 by decide)).trans g10_76
 have g11_77:=(Za (v:=.agg vs.toArray) (show 78≠77 by decide)).trans g10_77
 have g11_75:=(Za (v:=.agg vs.toArray) (show 78≠75 by decide)).trans g10_75
 generalize a10.put (some 78) (.agg vs.toArray)=a11 at *
 refine wpAnyH_take (i:=11) (oi:=DX 11) (v:=.pointer (some ⟨B,0+i*10,none⟩)) (by kernel_rfl) (by kernel_rfl) (by kernel_rfl) (by kernel_rfl) (fun _ _ _ h=>nomatch h.1) ((Z8 B 0 (i*10))▸SK (t:=26) (x:=69) (y:=70) (sz:=10) (by kernel_rfl) (by kernel_rfl) (by kernel_rfl) g11_69 g11_70 hin) hS2 ?_
 rw[show(DX 11).dst=some 79 from by kernel_rfl]
 have s12:=s11.put (d:=79) (by decide) (.pointer (some ⟨B,0+i*10,none⟩))
 have g12_79:(a11.put (some 79) (.pointer (some ⟨B,0+i*10,none⟩))).eval (.tmp 79) = .pointer (some ⟨B,0+i*10,none⟩):=Zj (by rw[s11.size,hts];decide)
 have g12_3:=(Za (v:=.pointer (some ⟨B,0+i*10,none⟩)) (show 79≠3 by decide)).trans g11_3
 have g12_10:=(Za (v:=.pointer (some ⟨B,0+i*10,none⟩)) (show 79≠10 by decide)).trans g11_10
 have g12_9:=(Za (v:=.pointer (some ⟨B,0+i*10,none⟩)) (show 79≠9 by decide)).trans g11_9
 have g12_2:=(Za (v:=.pointer (some ⟨B,0+i*10,none⟩)) (show 79≠2 by decide)).trans g11_2
 have g12_68:=(Za (v:=.pointer (some ⟨B,0+i*10,none⟩)) (show 79≠68 by decide)).trans g11_68
 have g12_69:=(Za (v:=.pointer (some ⟨B,0+i*10,none⟩)) (show 79≠69 by decide)).trans g11_69
 have g12_70:=(Za (v:=.pointer (some ⟨B,0+i*10,none⟩)) (show 79≠70 by decide)).trans g11_70
 have g12_71:=(Za (v:=.pointer (some ⟨B,0+i*10,none⟩)) (show 79≠71 by decide)).trans g11_71
 have g12_72:=(Za (v:=.pointer (some ⟨B,0+i*10,none⟩)) (show 79≠72 by decide)).trans g11_72
 have g12_73:=(Za (v:=.pointer (some ⟨B,0+i*10,none⟩)) (show 79≠73 by decide)).trans g11_73
 have g12_74:=(Za (v:=.pointer (some ⟨B,0+i*10,none⟩)) (show 79≠74 by decide)).trans g11_74
 have g12_76:=(Za (v:=.pointer (some ⟨B,0+i*10,none⟩)) (show 79≠76 by decide)).trans g11_76
 have g12_77:=(Za (v:=.pointer (some ⟨B,0+i*10,none⟩)) (show 79≠77 by decide)).trans g11_77
 have g12_75:=(Za (v:=.pointer (some ⟨B,0+i*10,none⟩)) (show 79≠75 by decide)).trans g11_75
 have g12_78:=(Za (v:=.pointer (some ⟨B,0+i*10,none⟩)) (show 79≠78 by decide)).trans g11_78
 generalize a11.put (some 79) (.pointer (some ⟨B,0+i*10,none⟩))=a12 at *
 refine wpAnyH_all (rs:=[12]) (by kernel_rfl) (by simp) (fun j hj=> ?_)
 obtain rfl:j=12:=by simpa using hj
 refine CO (o:=DX 12) (t:=28) (x:=79) (y:=78) (by kernel_rfl) (by kernel_rfl) (by kernel_rfl) g12_79 g12_78 (Pf (sz:=10) (by kernel_rfl) hvl (hB2.trans hB) (by rw[Nat.zero_add];have:=Nat.mul_le_mul_right 10 (show i+1<=n from hin);omega) hv1) ⟨?_,?_⟩
 ·rw[<- hS2];simp only[World.cell?,setRow_other _ B Bt _ hne]
 ·rw[show(DX 12).dst=none from by kernel_rfl]
  refine wpAnyH_done (by kernel_rfl) ⟨rfl,?_⟩ _
  rw[Nat.zero_add]
  exact hK _ s12
end Go.Proofs.YtgdebdgkofkeeaaGreatDoor
namespace Go.Proofs.YtgdebdgkofkeeaaGreatDoor
open Go.RowKit Go.Lib Go.Pl
theorem c8l:(Tryz.prog.info? 89).map (fun i=>(i.zero,i.size,i.bytes))=some (some (.agg #[.string ByteArray.empty,.int .i64 0]),2,24):=by kernel_rfl
theorem FB:Tryz.prog.underlying 60=some (.slice 89):=by kernel_rfl
theorem FJ(n c:Nat)(w:World):Calls Tryz.prog 95 #[.slice none n c] w fun e w'=>e = .returned (.slice none 0 0)∧w'=w:=by
 have q22 : ∀ (w:World) (a:Option Addr) (n c n' c':Nat),(binOp .eql 60 (.slice a n c) (.slice none n' c')).run Tryz.prog w = .ok (.bool a.isNone) w:=fun w a n c n' c'=>Lib.run_eql_slice_nil w _ _ a n c n' c' FB
 go_enter Tryz.func95,Tryz.ntmps95
 go_wp2
 go_ret
 exact⟨rfl,rfl⟩
theorem M3(a:Addr)(c:Nat)(w:World):Calls Tryz.prog 95 #[.slice (some a) 0 c] w fun e w'=>(∃ g,e = .returned (.slice (some g) 0 0))∧Below w.heap.size w w':=by
 have q22 : ∀ (w:World) (a:Option Addr) (n c n' c':Nat),(binOp .eql 60 (.slice a n c) (.slice none n' c')).run Tryz.prog w = .ok (.bool a.isNone) w:=fun w a n c n' c'=>Lib.run_eql_slice_nil w _ _ a n c n' c' FB
 obtain⟨i0,hi,hz0,hz1,hz2⟩:=info_parts c8l
 go_enter Tryz.func95,Tryz.ntmps95
 go_wp2_with (at_builtin;refine Lib.wpList_append_run _ rfl _ _ _ _ rfl _ _ rfl rfl _ _ (YI FB hi (Nat.le_refl _)) ?_)
 go_ret
 exact⟨⟨_,rfl⟩,(Below.refl _ w).alloc (Nat.le_refl _) _⟩
theorem NG(a:Addr)(n c:Nat)(news:List Value)(w:World)(h0:0<n)(hn:n<=2000000)(hl:news.length=n*2)(hc : ∀ j u,news[j]? = some u->w.cell? (a.add j)=some u)(h1 : ∀ u∈news,u.oneCell'=true):
  Calls Tryz.prog 95 #[.slice (some a) n c] w fun e w'=> ∃ v',e = .returned v'∧w'.ownsRow w.heap.size 89 2 v' n news∧Below w.heap.size w w':=by
 have q22 : ∀ (w:World) (a:Option Addr) (n c n' c':Nat),(binOp .eql 60 (.slice a n c) (.slice none n' c')).run Tryz.prog w = .ok (.bool a.isNone) w:=fun w a n c n' c'=>Lib.run_eql_slice_nil w _ _ a n c n' c' FB
 obtain⟨i0,hi,hz0,hz1,hz2⟩:=info_parts c8l
 have A:Aside (∀ j u,news[j]? = some u->w.cell? (a.add j)=some u):=hc
 clear hc
 go_enter Tryz.func95,Tryz.ntmps95
 go_wp2_with (at_builtin;refine wpList_append_own _ rfl _ _ 60 rfl w.heap.size 89 i0 (.agg #[.string ByteArray.empty,.int .i64 0]) 2 24 FB hi hz0 hz1 hz2 rfl (by decide) _ _ _ rfl (World.ownsRow_made w #[] 0 (Nat.le_refl _) (Nat.zero_le _) rfl) a n c news rfl ?qc1 ?qc2 ?qc3 ?qc4 ?qc5 ?qc6 ?_)
 case qc1=>exact hl
 case qc2=>intro j u hj;exact Lib.cell?_alloc_some _ (A.out j u hj)
 case qc3=>exact h1
 case qc4=>unfold maxLen;omega
 case qc5=>omega
 case qc6=>simp
 intro v' w1 hown hgrow hnil
 go_wp2
 go_ret
 refine⟨v',rfl,by simpa using hown,?_⟩
 exact((Below.refl _ w).alloc (Nat.le_refl _) _).grown hgrow (by simp) (by intro k hk;simp[Value.ownBlock]at hk;omega)
theorem d2t:CloneC Tryz.prog 95 89 2:=⟨FJ,M3,NG⟩
theorem c6u:(Tryz.prog.info? 62).map (fun i=>(i.zero,i.size,i.bytes))=some (some (.agg #[.int .i64 0,.slice none 0 0]),2,32):=by kernel_rfl
theorem LV:Tryz.prog.underlying 25=some (.slice 62):=by kernel_rfl
theorem OH(n c:Nat)(w:World):Calls Tryz.prog 94 #[.slice none n c] w fun e w'=>e = .returned (.slice none 0 0)∧w'=w:=by
 have q22 : ∀ (w:World) (a:Option Addr) (n c n' c':Nat),(binOp .eql 25 (.slice a n c) (.slice none n' c')).run Tryz.prog w = .ok (.bool a.isNone) w:=fun w a n c n' c'=>Lib.run_eql_slice_nil w _ _ a n c n' c' LV
 go_enter Tryz.func94,Tryz.ntmps94
 go_wp2
 go_ret
 exact⟨rfl,rfl⟩
theorem LD(a:Addr)(c:Nat)(w:World):Calls Tryz.prog 94 #[.slice (some a) 0 c] w fun e w'=>(∃ g,e = .returned (.slice (some g) 0 0))∧Below w.heap.size w w':=by
 have q22 : ∀ (w:World) (a:Option Addr) (n c n' c':Nat),(binOp .eql 25 (.slice a n c) (.slice none n' c')).run Tryz.prog w = .ok (.bool a.isNone) w:=fun w a n c n' c'=>Lib.run_eql_slice_nil w _ _ a n c n' c' LV
 obtain⟨i0,hi,hz0,hz1,hz2⟩:=info_parts c6u
 go_enter Tryz.func94,Tryz.ntmps94
 go_wp2_with (at_builtin;refine Lib.wpList_append_run _ rfl _ _ _ _ rfl _ _ rfl rfl _ _ (YI LV hi (Nat.le_refl _)) ?_)
 go_ret
 exact⟨⟨_,rfl⟩,(Below.refl _ w).alloc (Nat.le_refl _) _⟩
theorem MN(a:Addr)(n c:Nat)(news:List Value)(w:World)(h0:0<n)(hn:n<=2000000)(hl:news.length=n*2)(hc : ∀ j u,news[j]? = some u->w.cell? (a.add j)=some u)(h1 : ∀ u∈news,u.oneCell'=true):
  Calls Tryz.prog 94 #[.slice (some a) n c] w fun e w'=> ∃ v',e = .returned v'∧w'.ownsRow w.heap.size 62 2 v' n news∧Below w.heap.size w w':=by
 have q22 : ∀ (w:World) (a:Option Addr) (n c n' c':Nat),(binOp .eql 25 (.slice a n c) (.slice none n' c')).run Tryz.prog w = .ok (.bool a.isNone) w:=fun w a n c n' c'=>Lib.run_eql_slice_nil w _ _ a n c n' c' LV
 obtain⟨i0,hi,hz0,hz1,hz2⟩:=info_parts c6u
 have A:Aside (∀ j u,news[j]? = some u->w.cell? (a.add j)=some u):=hc
 clear hc
 go_enter Tryz.func94,Tryz.ntmps94
 go_wp2_with (at_builtin;refine wpList_append_own _ rfl _ _ 25 rfl w.heap.size 62 i0 (.agg #[.int .i64 0,.slice none 0 0]) 2 32 LV hi hz0 hz1 hz2 rfl (by decide) _ _ _ rfl (World.ownsRow_made w #[] 0 (Nat.le_refl _) (Nat.zero_le _) rfl) a n c news rfl ?qc1 ?qc2 ?qc3 ?qc4 ?qc5 ?qc6 ?_)
 case qc1=>exact hl
 case qc2=>intro j u hj;exact Lib.cell?_alloc_some _ (A.out j u hj)
 case qc3=>exact h1
 case qc4=>unfold maxLen;omega
 case qc5=>omega
 case qc6=>simp
 intro v' w1 hown hgrow hnil
 go_wp2
 go_ret
 refine⟨v',rfl,by simpa using hown,?_⟩
 exact((Below.refl _ w).alloc (Nat.le_refl _) _).grown hgrow (by simp) (by intro k hk;simp[Value.ownBlock]at hk;omega)
theorem b4q:CloneC Tryz.prog 94 62 2:=⟨OH,LD,MN⟩
theorem c8g:(Tryz.prog.info? 28).map (fun i=>(i.zero,i.size,i.bytes))=some (some (.agg #[.int .i64 0,.int .i64 0,.string ByteArray.empty,.int .i64 0,.string ByteArray.empty,.slice none 0 0,.slice none 0 0,.slice none 0 0,.slice none 0 0,.slice none 0 0]),10,176):=by kernel_rfl
theorem MO:Tryz.prog.underlying 26=some (.slice 28):=by kernel_rfl
theorem FZ(n c:Nat)(w:World):Calls Tryz.prog 96 #[.slice none n c] w fun e w'=>e = .returned (.slice none 0 0)∧w'=w:=by
 have q22 : ∀ (w:World) (a:Option Addr) (n c n' c':Nat),(binOp .eql 26 (.slice a n c) (.slice none n' c')).run Tryz.prog w = .ok (.bool a.isNone) w:=fun w a n c n' c'=>Lib.run_eql_slice_nil w _ _ a n c n' c' MO
 go_enter Tryz.func96,Tryz.ntmps96
 go_wp2
 go_ret
 exact⟨rfl,rfl⟩
theorem Fy(a:Addr)(c:Nat)(w:World):Calls Tryz.prog 96 #[.slice (some a) 0 c] w fun e w'=>(∃ g,e = .returned (.slice (some g) 0 0))∧Below w.heap.size w w':=by
 have q22 : ∀ (w:World) (a:Option Addr) (n c n' c':Nat),(binOp .eql 26 (.slice a n c) (.slice none n' c')).run Tryz.prog w = .ok (.bool a.isNone) w:=fun w a n c n' c'=>Lib.run_eql_slice_nil w _ _ a n c n' c' MO
 obtain⟨i0,hi,hz0,hz1,hz2⟩:=info_parts c8g
 go_enter Tryz.func96,Tryz.ntmps96
 go_wp2_with (at_builtin;refine Lib.wpList_append_run _ rfl _ _ _ _ rfl _ _ rfl rfl _ _ (YI MO hi (Nat.le_refl _)) ?_)
 go_ret
 exact⟨⟨_,rfl⟩,(Below.refl _ w).alloc (Nat.le_refl _) _⟩
theorem NQ(a:Addr)(n c:Nat)(news:List Value)(w:World)(h0:0<n)(hn:n<=2000000)(hl:news.length=n*10)(hc : ∀ j u,news[j]? = some u->w.cell? (a.add j)=some u)(h1 : ∀ u∈news,u.oneCell'=true):
  Calls Tryz.prog 96 #[.slice (some a) n c] w fun e w'=> ∃ v',e = .returned v'∧w'.ownsRow w.heap.size 28 10 v' n news∧Below w.heap.size w w':=by
 have q22 : ∀ (w:World) (a:Option Addr) (n c n' c':Nat),(binOp .eql 26 (.slice a n c) (.slice none n' c')).run Tryz.prog w = .ok (.bool a.isNone) w:=fun w a n c n' c'=>Lib.run_eql_slice_nil w _ _ a n c n' c' MO
 obtain⟨i0,hi,hz0,hz1,hz2⟩:=info_parts c8g
 have A:Aside (∀ j u,news[j]? = some u->w.cell? (a.add j)=some u):=hc
 clear hc
 go_enter Tryz.func96,Tryz.ntmps96
 go_wp2_with (at_builtin;refine wpList_append_own _ rfl _ _ 26 rfl w.heap.size 28 i0 (.agg #[.int .i64 0,.int .i64 0,.string ByteArray.empty,.int .i64 0,.string ByteArray.empty,.slice none 0 0,.slice none 0 0,.slice none 0 0,.slice none 0 0,.slice none 0 0]) 10 176 MO hi hz0 hz1 hz2 rfl (by decide) _ _ _ rfl (World.ownsRow_made w #[] 0 (Nat.le_refl _) (Nat.zero_le _) rfl) a n c news rfl ?qc1 ?qc2 ?qc3 ?qc4 ?qc5 ?qc6 ?_)
 case qc1=>exact hl
 case qc2=>intro j u hj;exact Lib.cell?_alloc_some _ (A.out j u hj)
 case qc3=>exact h1
 case qc4=>unfold maxLen;omega
 case qc5=>omega
 case qc6=>simp
 intro v' w1 hown hgrow hnil
 go_wp2
 go_ret
 refine⟨v',rfl,by simpa using hown,?_⟩
 exact((Below.refl _ w).alloc (Nat.le_refl _) _).grown hgrow (by simp) (by intro k hk;simp[Value.ownBlock]at hk;omega)
theorem b0i:CloneC Tryz.prog 96 28 10:=⟨FZ,Fy,NQ⟩
end Go.Proofs.YtgdebdgkofkeeaaGreatDoor
namespace Go.Proofs.YtgdebdgkofkeeaaGreatDoor
open Go.RowKit Go.Pl
open Enc (enc dec is)
open EncL (encL decL isL)
set_option maxRecDepth 100000
def H8(Φ:Zv)(w:World)(t:Tm)(e:Ending)(w':World):Prop:=
 ∃ (vs:List Value) (Φ':Zv) (X:Nat->Prop) (u:Value),e = .returned (.agg vs.toArray)∧vs.length=10∧Z6 vs∧Wd Φ' vs.toArray 0 t.n∧vs[9]? = some u∧OwnK Φ' w' X u t.kids∧Φ.le Φ'∧Yn Φ' w'∧Below w.heap.size w w' ∧
  (∀ b cs,Φ' b=some cs->Φ b=some cs∨w.heap.size<=b)∧ ∀ b,X b->w.heap.size<=b
structure CpW (W0:World) (Φ0:Zv) (n:Nd) (ks:List Tm) (Bt Br B c T Tr:Nat) (i:Nat) (Φ:Zv) (Xs:Nat->Nat->Prop) (us:Nat->Value) (ct cr cs:Array Value) (w:World):Prop where
 le:Φ0.le Φ
 phi:Yn Φ w
 dom : ∀ b cs,Φ b=some cs->Φ0 b=some cs∨W0.heap.size<=b
 below:Below W0.heap.size W0 w
 hBt:W0.heap.size<=Bt
 hBr:W0.heap.size<=Br
 hB:W0.heap.size<=B
 ne1:Bt≠Br
 ne2:Bt≠B
 ne3:Br≠B
 pBt:Φ Bt=none
 pBr:Φ Br=none
 pB:Φ B=none
 bt:w.heap[Bt]? = some (.cells ct T (0,0))
 cts:ct.size=10
 ct1:Z6 ct.toList
 nd:Wd Φ ct 0 n
 kid:ct[9]? = some (.slice (some ⟨B,0,none⟩) ks.length c)
 br:w.heap[Br]? = some (.cells cr Tr (0,0))
 crs:cr.size=10
 row:w.heap[B]? = some (.cells cs 28 (0,0))
 css:cs.size=c*10
 len:ks.length<=c
 ones:Z6 (cs.toList.take (ks.length*10))
 done : ∀ (j:Nat) k,j<i->ks[j]? = some k->Wd Φ cs (j*10) k.n∧cs[j*10+9]? = some (us j)∧OwnK Φ w (Xs j) (us j) k.kids∧ ∀ b,Xs j b->W0.heap.size<=b∧b≠Bt∧b≠Br∧b≠B
 apart : ∀ j j',j<i->j'<i->j≠j'-> ∀ b,Xs j b-> ¬ Xs j' b
 todo : ∀ (j:Nat) k,i<=j->ks[j]? = some k->XT Φ ((cs.toList.drop (j*10)).take 10) (enc k:PV).cells
theorem Yw{w:World}{B:Nat}{o:Obj}(h:w.heap[B]? = some o):B<w.heap.size:=(Array.getElem?_eq_some_iff.1 h).1
theorem b0o{cs:List Value}{m i:Nat}(h:Z6 (cs.take (m*10)))(hi:i<m):Z6 ((cs.drop (i*10)).take 10):=by
 intro v hv
 refine h v ?_
 have e:(cs.drop (i*10)).take 10=((cs.take (m*10)).drop (i*10)).take 10:=by
  rw[List.drop_take,List.take_take]
  congr 1
  have:=Nat.mul_le_mul_right 10 (show i+1<=m from hi)
  omega
 rw[e]at hv
 exact List.mem_of_mem_drop (List.mem_of_mem_take hv)
theorem CpW.cell{W0:World}{Φ0:Zv}{n:Nd}{ks:List Tm}{Bt Br B c T Tr i:Nat}{Φ:Zv}{Xs:Nat->Nat->Prop}{us:Nat->Value}{ct cr cs:Array Value}{w:World}(h:CpW W0 Φ0 n ks Bt Br B c T Tr i Φ Xs us ct cr cs w){k:Tm}(hk:ks[i]? = some k){w1:World}(e:w1.heap=w.heap):
  RP Φ (.agg ((cs.toList.drop (i*10)).take 10).toArray) (enc k):=by
 have hi:i<ks.length:=(List.getElem?_eq_some_iff.1 hk).1
 have h1:=h.todo i k (Nat.le_refl _) hk
 obtain⟨kn,kk⟩:=k
 rw[Zx]at h1 ⊢
 refine .agg _ _ (by simpa [PV.cells]using h1.1) (fun v hv=>b0o h.ones hi v (by simpa using hv)) fun j v x hv hx=>h1.2 j v x (by simpa using hv) hx
theorem CpW.next{W0:World}{Φ0:Zv}{n:Nd}{ks:List Tm}{Bt Br B c T Tr i:Nat}{Φ:Zv}{Xs:Nat->Nat->Prop}{us:Nat->Value}{ct cr cs:Array Value}{w:World}(h:CpW W0 Φ0 n ks Bt Br B c T Tr i Φ Xs us ct cr cs w){k:Tm}(hk:ks[i]? = some k){w1 w2:World}(e:w1.heap=w.heap)
  (e1:w1.os=w.os) (e2:w1.tape=w.tape) (e3:w1.output=w.output) {vs:List Value} {Φ':Zv} {X:Nat->Prop} {u:Value} (hl:vs.length=10) (h1:Z6 vs) (hn:Wd Φ' vs.toArray 0 k.n) (hu:vs[9]? = some u) (ho:OwnK Φ' w2 X u k.kids) (hle:Φ.le Φ') (hp:Yn Φ' w2)
  (hb:Below w1.heap.size w1 w2) (hd : ∀ b cs,Φ' b=some cs->Φ b=some cs∨w1.heap.size<=b) (hX : ∀ b,X b->w1.heap.size<=b) :
  CpW W0 Φ0 n ks Bt Br B c T Tr (i+1) Φ' (fun j=>if j=i then X else Xs j) (fun j=>if j=i then u else us j) ct cr (splice cs.toList (i*10) vs).toArray (w2.setRow B (splice cs.toList (i*10) vs).toArray):=by
 have hi:i<ks.length:=(List.getElem?_eq_some_iff.1 hk).1
 have hsz:w1.heap.size=w.heap.size:=by rw[e]
 have hmul:i*10+10<=cs.size:=by
  have:=Nat.mul_le_mul_right 10 (show i+1<=ks.length from hi)
  have:=Nat.mul_le_mul_right 10 h.len
  have:=h.css
  omega
 have hW:W0.heap.size<=w.heap.size:=h.below.size
 have up : ∀ b,b<w.heap.size->w2.heap[b]? = w.heap[b]? :=fun b hb'=>(hb.block b (by rw[hsz];exact hb')).trans (by rw[e])
 have nn : ∀ b,b<w.heap.size->Φ b=none->Φ' b=none:=fun b hb' hn=>by
  cases hq:Φ' b with
  | none=>rfl
  | some q=>
   rcases hd b q hq with h1|h1
   ·rw[hn]at h1;cases h1
   ·rw[hsz]at h1;omega
 have lBt:=Yw h.bt
 have lBr:=Yw h.br
 have lB:=Yw h.row
 have row2:w2.heap[B]? = some (.cells cs 28 (0,0)):=(up B lB).trans h.row
 have hsl:(splice cs.toList (i*10) vs).length=cs.size:=by rw[Xa (by rw[hl];simpa using hmul)];simp
 have oth : ∀ b,b≠B->(w2.setRow B (splice cs.toList (i*10) vs).toArray).heap[b]? = w2.heap[b]? :=fun b hne=>setRow_other w2 B b _ hne
 have get : ∀ j,(splice cs.toList (i*10) vs).toArray[j]? = if j<i*10 then cs[j]? else if j<i*10+10 then vs[j - i*10]? else cs[j]? :=fun j=>by
  rw[List.getElem?_toArray,Xu (by rw[hl];simpa using hmul),hl]
  simp
 refine⟨h.le.trans hle,fun b q hq=> ?_,fun b q hq=> ?_,?_,h.hBt,h.hBr,h.hB,h.ne1,h.ne2,h.ne3,nn _ lBt h.pBt,nn _ lBr h.pBr,nn _ lB h.pB,(oth _ h.ne2).trans ((up _ lBt).trans h.bt),h.cts,h.ct1,h.nd.mono hle,h.kid,(oth _ h.ne3).trans ((up _ lBr).trans h.br),h.crs,
  setRow_heap w2 B cs _ _ _ row2,by simp only[List.size_toArray,hsl];exact h.css,h.len,?_,?_,?_,?_⟩
 ·obtain⟨T',fz,hh⟩:=hp b q hq
  have hne:b≠B:=fun e=>by rw[e,nn _ lB h.pB]at hq;cases hq
  exact⟨T',fz,(oth b hne).trans hh⟩
 ·rcases hd b q hq with h1|h1
  ·exact h.dom b q h1
  ·exact .inr (by omega)
 ·refine⟨?_,?_,?_,?_,fun b hb'=> ?_⟩
  ·rw[setRow_os];exact hb.os.trans (e1.trans h.below.os)
  ·rw[setRow_tape];exact hb.tape.trans (e2.trans h.below.tape)
  ·rw[setRow_output];exact hb.output.trans (e3.trans h.below.output)
  ·rw[setRow_size];have:=hb.size;omega
  ·have:=h.hB
   exact(oth b (by omega)).trans ((up b (by omega)).trans (h.below.block b hb'))
 ·intro v hv
  rw[Ch (by rw[hl];have:=Nat.mul_le_mul_right 10 (show i+1<=ks.length from hi);omega) (by have:=Nat.mul_le_mul_right 10 h.len;have:=h.css;simp;omega)]at hv
  rcases AA hv with hv|hv
  ·exact h.ones v hv
  ·exact h1 v hv
 ·intro j x hj hx
  by_cases e:j=i
  ·subst e
   rw[hk]at hx
   cases hx
   simp only[if_pos]
   refine⟨fun q p hp'=> ?_,?_,?_,fun b hb'=> ?_⟩
   ·obtain⟨v,q1,q2,q3⟩:=hn q p hp'
    have hq:q<9:=(List.getElem?_eq_some_iff.1 hp').1
    refine⟨v,?_,q2,q3⟩
    rw[get,if_neg (by omega),if_pos (by omega),Nat.add_sub_cancel_left]
    rw[Nat.zero_add]at q1
    simpa using q1
   ·rw[get,if_neg (by omega),if_pos (by omega),Nat.add_sub_cancel_left]
    exact hu
   ·refine ho.mono (.refl _) (fun b hb'=>(ho.out b hb').2.1) fun b hb'=>oth b ?_
    have:=hX b hb'
    omega
   ·have:=hX b hb'
    omega
  ·have hj':j<i:=by omega
   obtain⟨q1,q2,q3,q4⟩:=h.done j x hj' hx
   have hmj:j*10+10<=i*10:=by have:=Nat.mul_le_mul_right 10 (show j+1<=i from hj');omega
   simp only[if_neg e]
   refine⟨fun q p hp'=> ?_,?_,q3.mono hle (fun b hb'=>nn b (q3.out b hb').1 (q3.out b hb').2.1) fun b hb'=>(oth b (q4 b hb').2.2.2).trans (up b (q3.out b hb').1),q4⟩
   ·obtain⟨v,r1,r2,r3⟩:=(q1.mono hle) q p hp'
    have hq:q<9:=(List.getElem?_eq_some_iff.1 hp').1
    exact⟨v,by rw[get,if_pos (by omega)];exact r1,r2,r3⟩
   ·rw[get,if_pos (by omega)]
    exact q2
 ·intro j j' hj hj' hne b hb' hb2
  by_cases e:j=i
  ·rw[if_pos e]at hb'
   rw[if_neg (fun e'=>hne (e.trans e'.symm))]at hb2
   have hj2:j'<i:=by omega
   have hj3:j'<ks.length:=by omega
   have:=((h.done j' _ hj2 (List.getElem?_eq_getElem hj3)).2.2.1.out b hb2).1
   have:=hX b hb'
   omega
  ·rw[if_neg e]at hb'
   by_cases e':j'=i
   ·rw[if_pos e']at hb2
    have hj2:j<i:=by omega
    have hj3:j<ks.length:=by omega
    have:=((h.done j _ hj2 (List.getElem?_eq_getElem hj3)).2.2.1.out b hb').1
    have:=hX b hb2
    omega
   ·rw[if_neg e']at hb2
    exact h.apart j j' (by omega) (by omega) hne b hb' hb2
 ·intro j x hj hx
  have hjl:j<ks.length:=(List.getElem?_eq_some_iff.1 hx).1
  have hmj:i*10+10<=j*10:=by have:=Nat.mul_le_mul_right 10 (show i+1<=j from hj);omega
  have e:((splice cs.toList (i*10) vs).toArray.toList.drop (j*10)).take 10=(cs.toList.drop (j*10)).take 10:=by
   apply List.ext_getElem?
   intro q
   rw[List.getElem?_take,List.getElem?_take]
   split
   ·rw[List.getElem?_drop,List.getElem?_drop,Array.getElem?_toList,Array.getElem?_toList,get,if_neg (by omega),if_neg (by omega)]
   ·rfl
  rw[e]
  exact(h.todo j x (by omega) hx).mono hle
noncomputable def cpB:Code:=Tryz.f71.body.getD .skip
noncomputable def cO(i:Nat):Array Oper:=Q4 cpB i
noncomputable def cX(i k:Nat):Oper:=(cO i).getD k default
def c7l:Code->Bool
 | .seq (.seq (.region 10 _ _) _) _=>true
 | _=>false
noncomputable def O4:Code:=(Code.region 11 (cO 11) false).seq ((Code.cond (.tmp 53) .skip (.exit 2)).seq ((Code.block 3 ((Code.region 12 (cO 12) false).seq (Code.region 13 cpO true))).seq (Code.region 14 (cO 14) false)))
noncomputable def GK:Code:=((Code.region 10 (cO 10) false).seq (.block 2 (.loop O4))).seq ((Code.region 15 (cO 15) false).seq .ret)
theorem c2u:XI Tryz.prog c7l Tryz.f71 0=some GK:=by kernel_rfl
abbrev cpN(Φ0:Zv)(W0:World)(t:Tm):Act->World->Prop:=bodyPost Tryz.prog Tryz.f71 (H8 Φ0 W0 t) .ret
theorem a2c{a:Act}{w:World}{Bt Br T Tr:Nat}{ct cr:Array Value}(h1:a.eval (.tmp 1) = .pointer (some ⟨Bt,0,none⟩))(h2:a.eval (.tmp 2) = .pointer (some ⟨Br,0,none⟩))(hs:a.tmps.size=67)(hd:a.defers=[])(hb:w.heap[Bt]? = some (.cells ct T (0,0)))
  (hr:w.heap[Br]? = some (.cells cr Tr (0,0))) (hct:ct.size=10) (hcr:cr.size=10) (ho:Z6 ct.toList) {R:Ending->World->Prop} (hR:R (.returned (.agg ct)) (w.setRow Br ct)) :
  ((Code.region 15 (cO 15) false).seq .ret).wp Tryz.prog (fun e a w=>e = .ret∧bodyPost Tryz.prog Tryz.f71 R .ret a w) a w:=by
 refine wp_seq (b4g (o:=cX 15 0) (o1:=cX 15 1) (t:=28) (x:=1) (y:=2) (d:=66) (by kernel_rfl) (by kernel_rfl) (by kernel_rfl) (by kernel_rfl) (by kernel_rfl) (by kernel_rfl) (by kernel_rfl) (by kernel_rfl) h1 h2 (by decide) hb hr hct hcr ho (by omega) (wp_ret ⟨rfl,hd,_,?_,hR⟩))
 refine Ao (b:=2) (t:=28) (Br:=Br) (sz:=10) (T:=Tr) (z:=(0,0)) (by kernel_rfl) ?_ (by kernel_rfl) (setRow_heap w Br cr ct Tr (0,0) hr) hct
 exact(Za (a:=a) (d:=66) (t:=2) (by decide)).trans h2
theorem c3p{Φ0:Zv}{W0:World}{n:Nd}{ks:List Tm}{Bt Br B c T Tr:Nat}{Φ:Zv}{Xs:Nat->Nat->Prop}{us:Nat->Value}{ct cr cs:Array Value}{a:Act}{w:World}(hne:ks≠[])(hlen:ks.length<=1048576)(hL:GlobOK Φ0)
  (ih : ∀ k∈ks,∀ (Φ:Zv) (w:World) (v:Value),GlobOK Φ->Yn Φ w->RP Φ v (enc k)->Calls Tryz.prog 71 #[v] w (H8 Φ w k)) (h:CpW W0 Φ0 n ks Bt Br B c T Tr 0 Φ Xs us ct cr cs w)
  (h1:a.eval (.tmp 1) = .pointer (some ⟨Bt,0,none⟩)) (h2:a.eval (.tmp 2) = .pointer (some ⟨Br,0,none⟩)) (hs:a.tmps.size=67) (hd:a.defers=[]):GK.wp Tryz.prog (fun e a w=>e = .ret∧cpN Φ0 W0 (.mk n ks) a w) a w:=by
 unfold GK
 refine wp_seq (wp_seq (a2d (p:=some ⟨B,0,none⟩) (n:=ks.length) (c:=c) (o:=cX 10 0) (o1:=cX 10 1) (o2:=cX 10 2) (o3:=cX 10 3) (s:=28) (t:=26) (b:=1) (f:=7) (off:=9) (d1:=49) (d2:=50) (d3:=51) (d4:=52) (by kernel_rfl) (by kernel_rfl) (by kernel_rfl) (by kernel_rfl) (by kernel_rfl) (by kernel_rfl) (by kernel_rfl) (by kernel_rfl) (by kernel_rfl)
  (by kernel_rfl) (by kernel_rfl) (by kernel_rfl) (by kernel_rfl) (by kernel_rfl) (by kernel_rfl) (by kernel_rfl) h1 (by simp[World.cell?,h.bt,h.kid]) (by omega) (by omega) ?_))
 generalize ha1:(((a.put (some 49) (.pointer (some ⟨Bt,9,none⟩))).put (some 50) (.slice (some ⟨B,0,none⟩) ks.length c)).put (some 51) (.int .i64 (ks.length:Int))).put (some 52) (.int .i64 0)=a1
 have e1:a1.eval (.tmp 1) = .pointer (some ⟨Bt,0,none⟩):=by rw[<- ha1,Za (by decide),Za (by decide),Za (by decide),Za (by decide)];exact h1
 have e2:a1.eval (.tmp 2) = .pointer (some ⟨Br,0,none⟩):=by rw[<- ha1,Za (by decide),Za (by decide),Za (by decide),Za (by decide)];exact h2
 have e51:a1.eval (.tmp 51) = .int .i64 (ks.length:Int):=by rw[<- ha1,Za (by decide)];exact Zj (by simp[Act.put];omega)
 have e52:a1.eval (.tmp 52) = .int .i64 ((0:Nat):Int):=by rw[<- ha1];exact Zj (by simp[Act.put];omega)
 have es:a1.tmps.size=67:=by rw[<- ha1];simp[Act.put];omega
 have ed:a1.defers=[]:=by rw[<- ha1];exact hd
 clear ha1 h1 h2 hs hd
 refine wp_block (wp_loop_ghost (fun(z:Nat) (a:Act) (w:World)=> ∃ (i:Nat) (Φ:Zv) (Xs:Nat->Nat->Prop) (us:Nat->Value) (cs:Array Value),z=ks.length - i∧i<=ks.length∧CpW W0 Φ0 n ks Bt Br B c T Tr i Φ Xs us ct cr cs w∧a.eval (.tmp 1) = .pointer (some ⟨Bt,0,none⟩)∧a.eval (.tmp 2) = .pointer (some ⟨Br,0,none⟩) ∧
  a.eval (.tmp 51) = .int .i64 (ks.length:Int)∧a.eval (.tmp 52) = .int .i64 (i:Int)∧a.tmps.size=67∧a.defers=[]) _ ⟨0,Φ,Xs,us,cs,rfl,Nat.zero_le _,h,e1,e2,e51,e52,es,ed⟩ ?_)
 clear h e1 e2 e51 e52 es ed Xs us cs a1 a w
 rintro z a w ⟨i,Φi,Xs,us,cs,rfl,hi,h,e1,e2,e51,e52,es,ed⟩
 unfold O4
 refine wp_seq (a2s (o:=cX 11 0) (op:=.lss) (t:=3) (t':=3) (d:=53) (x:=.tmp 52) (y:=.tmp 51) (b:=decide ((i:Int)<(ks.length:Int))) (by kernel_rfl) (by kernel_rfl) (by kernel_rfl) (by kernel_rfl) e52 e51 (.inl ⟨rfl,rfl⟩) ?_)
 have s1:SameT [53] a (a.put (some 53) (.bool (decide ((i:Int)<(ks.length:Int))))):=(SameT.refl _ _).put (by simp) _
 have e53:(a.put (some 53) (.bool (decide ((i:Int)<(ks.length:Int))))).eval (.tmp 53) = .bool (decide ((i:Int)<(ks.length:Int))):=Zj (by omega)
 generalize a.put (some 53) (.bool (decide ((i:Int)<(ks.length:Int))))=a1 at s1 e53 ⊢
 by_cases hlt:i<ks.length
 ·have hb:decide ((i:Int)<(ks.length:Int))=true:=by simpa using hlt
  rw[hb]at e53
  refine wp_seq (wp_cond (t:=true) e53 (wp_skip ?_))
  refine wp_seq (wp_block (wp_seq (c6t (o:=cX 12 0) (o1:=cX 12 1) (d:=54) (e:=4) (x:=52) (by kernel_rfl) (by kernel_rfl) (by kernel_rfl) (by kernel_rfl) (by kernel_rfl) (by kernel_rfl) (by kernel_rfl) ((s1.eval (by decide)).trans e52) (by rw[s1.size];omega) ?_)))
  generalize ha2:(a1.put (some 54) (.int .i64 (i:Int))).put (some 4) (.int .i64 (i:Int))=a2
  have s2:SameT [53,54,4] a a2:=by
   have s1':SameT [53,54,4] a a1:=⟨s1.size,s1.defers,fun t ht=>s1.tmp t (by simp at ht ⊢;omega)⟩
   rw[<- ha2]
   exact(s1'.put (by simp) _).put (by simp) _
  have f4:a2.eval (.tmp 4) = .int .i64 (i:Int):=by rw[<- ha2];exact Zj (by simp[Act.put,s1.size];omega)
  obtain⟨k,hk⟩ : ∃ k,ks[i]? = some k:=⟨_,List.getElem?_eq_getElem hlt⟩
  have hmem:k∈ks:=List.mem_of_getElem? hk
  have hcs:ks.length*10<=cs.size:=by rw[h.css];exact Nat.mul_le_mul_right 10 h.len
  refine wp_mono (cpR (a:=a2) (w:=w) (K:=fun a' w'=>SameT [55,56,57,58,59,60,61,62,63,64] a2 a'∧ ∃ Φ' Xs' us' cs',CpW W0 Φ0 n ks Bt Br B c T Tr (i+1) Φ' Xs' us' ct cr cs' w') h.bt h.kid h.row h.ne2 hlt hcs ((s2.eval (by decide)).trans e1) f4 (by rw[s2.size];exact es)
   (ih k hmem Φi {w with drawn:=w.drawn+1} _ (hL.mono h.le) h.phi (h.cell hk rfl)) ?_) ?_
  ·rintro e w' ⟨vs,Φ',X,u,rfl,q1,q2,q3,q4,q5,q6,q7,q8,q9,q10⟩
   refine⟨vs,rfl,q1,q2,q8.block Bt (Yw h.bt),q8.block B (Yw h.row),fun a' hs'=>⟨hs',_,_,_,_,h.next hk (w1:={w with drawn:=w.drawn+1}) rfl rfl rfl rfl q1 q2 q3 q4 q5 q6 q7 q8 q9 q10⟩⟩
  ·rintro e a3 w3 ⟨rfl,s3,Φ',Xs',us',cs',h'⟩
   have g52:a3.eval (.tmp 52) = .int .i64 (i:Int):=(s3.eval (by decide)).trans ((s2.eval (by decide)).trans e52)
   have es3:a3.tmps.size=67:=by rw[s3.size,s2.size,es]
   refine c6z (o:=cX 14 0) (o1:=cX 14 1) (t:=3) (t':=3) (d:=65) (x:=52) (by kernel_rfl) (by kernel_rfl) (by kernel_rfl) (by kernel_rfl) (by kernel_rfl) (by kernel_rfl) (by kernel_rfl) g52 (by omega) ?_
   rw[next (show i<9223372036854775807 by omega)]
   refine⟨ks.length - (i+1),by omega,i+1,Φ',Xs',us',cs',rfl,hlt,h',?_,?_,?_,?_,by simp[Act.put];omega,by show a3.defers=[];rw[s3.defers,s2.defers,ed]⟩
   ·rw[Za (by decide),Za (by decide)];exact(s3.eval (by decide)).trans ((s2.eval (by decide)).trans e1)
   ·rw[Za (by decide),Za (by decide)];exact(s3.eval (by decide)).trans ((s2.eval (by decide)).trans e2)
   ·rw[Za (by decide),Za (by decide)];exact(s3.eval (by decide)).trans ((s2.eval (by decide)).trans e51)
   ·exact Zj (by simp[Act.put];omega)
 ·have hb:decide ((i:Int)<(ks.length:Int))=false:=by simpa using hlt
  rw[hb]at e53
  refine wp_seq (wp_cond (t:=false) e53 (wp_exit ?_))
  have hii:i=ks.length:=by omega
  subst hii
  have g1:=(s1.eval (t:=1) (by decide)).trans e1
  have g2:=(s1.eval (t:=2) (by decide)).trans e2
  refine a2c g1 g2 (by rw[s1.size];exact es) (by rw[s1.defers];exact ed) h.bt h.br h.cts h.crs h.ct1 ?_
  have oth : ∀ b,b≠Br->(w.setRow Br ct).heap[b]? = w.heap[b]? :=fun b hne'=>setRow_other w Br b _ hne'
  refine⟨ct.toList,Φi,fun b=>b=B ∨ ∃ j,j<ks.length∧Xs j b,.slice (some ⟨B,0,none⟩) ks.length c,by simp,by simpa using h.cts,h.ct1,by simpa using h.nd,by simpa using h.kid,?_,h.le,?_,?_,h.dom,?_⟩
  ·refine .row _ B c cs ks Xs us ⟨hne,(oth B (Ne.symm h.ne3)).trans h.row,h.css,h.len,h.pB,fun b=>.rfl,fun j k hk=>(h.done j k (List.getElem?_eq_some_iff.1 hk).1 hk).1,fun j hj=> ?_,h.apart,fun j hj hb'=>((h.done j _ hj (List.getElem?_eq_getElem hj)).2.2.2 B hb').2.2.2 rfl⟩ fun j k hk=> ?_
   ·obtain⟨q1,q2,q3,q4⟩:=h.done j _ hj (List.getElem?_eq_getElem hj)
    exact⟨q2,q3.one⟩
   ·obtain⟨q1,q2,q3,q4⟩:=h.done j k (List.getElem?_eq_some_iff.1 hk).1 hk
    exact q3.mono (.refl _) (fun b hb'=>(q3.out b hb').2.1) fun b hb'=>oth b (q4 b hb').2.2.1
  ·intro b q hq
   obtain⟨T',fz,hh⟩:=h.phi b q hq
   have hneb:b≠Br:=fun e=>by rw[e,h.pBr]at hq;cases hq
   exact⟨T',fz,(oth b hneb).trans hh⟩
  ·refine⟨?_,?_,?_,?_,fun b hb'=> ?_⟩
   ·rw[setRow_os];exact h.below.os
   ·rw[setRow_tape];exact h.below.tape
   ·rw[setRow_output];exact h.below.output
   ·rw[setRow_size];exact h.below.size
   ·have:=h.hBr
    exact(oth b (by omega)).trans (h.below.block b hb')
  ·rintro b (rfl|⟨j,hj,hb'⟩)
   ·exact h.hB
   ·exact((h.done j _ hj (List.getElem?_eq_getElem hj)).2.2.2 b hb').1
theorem DK{Φ0 Φ:Zv}{W0 w:World}{μ:Mu}{σ:Zp}(h:Go.Pl.Good (ZZ (fun _ _=>none) Φ0 [] W0) μ Φ σ w):Below W0.heap.size W0 w∧(∀ b cs,Φ b=some cs->Φ0 b=some cs∨W0.heap.size<=b)∧ ∀ l o,σ[l]? = some (.obj o)->W0.heap.size<=blk μ l o:=by
 refine⟨⟨h.os,h.tape,h.output,h.size,fun b hb=>h.frame b hb (by rintro⟨l,o,ho,_⟩;simp at ho)⟩,fun b cs hc=> ?_,fun l o ho=> ?_⟩
 ·rcases h.dom b cs hc with h1|h1|h1
  ·exact .inl h1
  ·exact .inr h1
  ·obtain⟨l,o,ho,_⟩:=h1;simp at ho
 ·rcases h.own l o ho with h1|h1
  ·exact h1
  ·obtain⟨l,o,ho,_⟩:=h1;simp at ho
theorem c2s{σ:Zp}{l n ty sz:Nat}{xs:List PV}(h:σ[l]? = some (.obj (.row false ty sz xs)))(hn:xs.length=n):(frz (.row l n 0 n)).run σ=some (.sl sz false xs,σ.set l (.obj (.row true ty sz xs))):=by
 subst hn
 simp[frz,HM.run,h]
theorem RL.getAt{μ:Mu}{Φ:Zv}{cs:List Value}{xs:List AV}(h:RL μ Φ cs xs){j:Nat}{x:AV}(hx:xs[j]? = some x): ∃ v,cs[j]? = some v∧R μ Φ v x:=h.at_ hx
theorem b8w{Φ0:Zv}{W0:World}{n:Nd}{ks:List Tm}{st:St}{a:Act}{w:World}(hR:Go.Pl.cpR n ks 0 st)(hr:XU (ZZ (fun _ _=>none) Φ0 [] W0) st a w):
  ∃ (Bt Br T Tr:Nat) (Φ:Zv) (ct cr:Array Value),Φ0.le Φ∧Yn Φ w∧(∀ b cs,Φ b=some cs->Φ0 b=some cs∨W0.heap.size<=b)∧Below W0.heap.size W0 w∧W0.heap.size<=Bt∧W0.heap.size<=Br∧Bt≠Br∧Φ Bt=none∧Φ Br=none∧w.heap[Bt]? = some (.cells ct T (0,0))∧ct.size=10∧Z6 ct.toList∧Wd Φ ct 0 n ∧
   w.heap[Br]? = some (.cells cr Tr (0,0))∧cr.size=10∧a.eval (.tmp 1) = .pointer (some ⟨Bt,0,none⟩)∧a.eval (.tmp 2) = .pointer (some ⟨Br,0,none⟩)∧a.tmps.size=67∧a.defers=[] ∧
   ((ks=[]∧ ∃ p c,ct[9]? = some (.slice p 0 c))∨(ks≠[]∧ ∃ B c cs,ct[9]? = some (.slice (some ⟨B,0,none⟩) ks.length c)∧W0.heap.size<=B∧Bt≠B∧Br≠B∧Φ B=none∧w.heap[B]? = some (.cells cs 28 (0,0))∧cs.size=c*10∧ks.length<=c∧Z6 (cs.toList.take (ks.length*10)) ∧
    XT Φ (cs.toList.take (ks.length*10)) (flat (ks.map enc)))):=by
 obtain⟨_,henv,SZ,KD,b,rest,hh,hS,hK⟩:=hR
 obtain⟨env,σ⟩:=st
 simp only at henv hh hS hK
 subst henv
 obtain⟨μ,Φ1,hg,he,hd⟩:=hr
 have h0:σ[0]? = some (.obj (.box (b2y n SZ++[KD]))):=by rw[hh];rfl
 have h1:σ[1]? = some (.obj (.box cpZ)):=by rw[hh];rfl
 obtain⟨Bt,C0,S0,T,ct,m0,b1,b2,b3,b4⟩:=hg.obj 0 _ h0
 obtain⟨v7,hv7,hr7⟩:=RL.getAt b2 (j:=7) (x:=SZ) rfl
 -- the list of sizes is plain data from here on
 obtain⟨Φ,σ',hle,hg',hsz,hkeep⟩ : ∃ Φ σ',Φ1.le Φ∧Go.Pl.Good (ZZ (fun _ _=>none) Φ0 [] W0) μ Φ σ' w∧RP Φ v7 (enc n.sizes)∧(∀ l o,σ[l]? = some (.obj o)->(b=true->l≠2)->σ'[l]? = some (.obj o)):=by
  rcases hS with ⟨rfl,rfl⟩|⟨rfl,rfl,h2⟩
  ·exact⟨Φ1,σ,.refl _,hg,Z0 hr7,fun l o h _=>h⟩
  ·obtain⟨Φ',f1,f2,f3⟩:=Dz _ (c2s h2 (List.length_map _)) hg hr7
   refine⟨Φ',_,f1,f2,f3,fun l o h hl=> ?_⟩
   rw[List.getElem?_set_ne (Ne.symm (hl rfl))]
   exact h
 have h0':=hkeep 0 _ h0 (fun _=>by decide)
 have h1':=hkeep 1 _ h1 (fun _=>by decide)
 obtain⟨Bt',C0',S0',T',ct',m0',c1,c2,c3,c4⟩:=hg'.obj 0 _ h0'
 rw[m0]at m0'
 cases m0'
 rw[b1]at c1
 cases c1
 obtain⟨Br,C1,S1,Tr,cr,m1,d1,d2,d3,d4⟩:=hg'.obj 1 _ h1'
 obtain⟨g1,g2,g3⟩:=DK hg'
 have k0:blk μ 0 (.box (b2y n SZ++[KD]))=Bt:=by simp[blk,m0]
 have k1:blk μ 1 (.box cpZ)=Br:=by simp[blk,m1]
 have hBt:W0.heap.size<=Bt:=by have:=g3 0 _ h0';rwa [k0]at this
 have hBr:W0.heap.size<=Br:=by have:=g3 1 _ h1';rwa [k1]at this
 have hne:Bt≠Br:=by have:=hg'.apart 0 1 _ _ (by decide) h0' h1';rwa [k0,k1]at this
 obtain⟨e67,eat⟩:=Be he
 have t1:a.eval (.tmp 1) = .pointer (some ⟨Bt,0,none⟩):=by
  obtain⟨v,hv,hr⟩:=eat 1 (.ptr 0 0) (by decide) rfl
  cases hr with
  | ptr _ _ B C S h=>rw[m0]at h;cases h;simp[Act.eval,Array.getD_eq_getD_getElem?,hv]
 have t2:a.eval (.tmp 2) = .pointer (some ⟨Br,0,none⟩):=by
  obtain⟨v,hv,hr⟩:=eat 2 (.ptr 1 0) (by decide) rfl
  cases hr with
  | ptr _ _ B C S h=>rw[m1]at h;cases h;simp[Act.eval,Array.getD_eq_getD_getElem?,hv]
 have hcs:ct.size=10:=by have:=c2.1;simpa [b2y]using this
 have hrs:cr.size=10:=by have:=d2.1;simpa [cpZ]using this
 have hnd:Wd Φ ct 0 n:=by
  intro i p hp
  have hi:i<9:=(List.getElem?_eq_some_iff.1 hp).1
  by_cases e:i=7
  ·subst e
   obtain rfl:enc n.sizes=p:=by simpa [EX]using hp
   refine⟨v7,by simpa using hv7,c3 v7 (List.mem_of_getElem? (by simpa using hv7)),hsz⟩
  ·have hx:(b2y n SZ++[KD])[i]? = some (.pv p):=by
    match i,hi,e,hp with
    | 0,_,_,hp|1,_,_,hp|2,_,_,hp|3,_,_,hp|4,_,_,hp|5,_,_,hp|6,_,_,hp|8,_,_,hp=>simp[EX]at hp;subst hp;rfl
   obtain⟨v,hv,hr⟩:=RL.getAt c2 hx
   exact⟨v,by simpa using hv,c3 v (List.mem_of_getElem? hv),Z0 hr⟩
 refine⟨Bt,Br,T,Tr,Φ,ct,cr,hg'.Φle,hg'.phi,g2,g1,hBt,hBr,hne,c4,d4,b1,hcs,c3,hnd,d1,hrs,t1,t2,e67,hd,?_⟩
 obtain⟨v9,hv9,hr9⟩:=RL.getAt c2 (j:=9) (x:=KD) rfl
 rcases hK with ⟨rfl,rfl⟩|⟨hk,rfl,h3⟩
 ·refine .inl ⟨rfl,?_⟩
  have hr9:=Z0 hr9
  obtain⟨p,c,rfl⟩ : ∃ p c,v9 = .slice p 0 c:=by
   generalize hq:(enc ([]:List Tm):PV)=q at hr9
   cases hr9 with
   | sl0 a c=>exact⟨_,_,rfl⟩
   | sl b off cs c sz t xs=> 
    have:xs=[]:=by cases hq;rfl
    subst this;exact⟨_,_,rfl⟩
   | raw=>cases hq
   | _=>cases hq
  exact⟨p,c,by simpa using hv9⟩
 ·have h3':=hkeep _ _ h3 (fun hb=>by rw[hb];decide)
  obtain⟨B,C,cs,m3,m3n,r1,r2,r3,r4,r5,r6,r7,r8⟩:=hg'.obj _ _ h3'
  rw[List.length_map]at m3 r3 r6 r7
  have hl2:(2:Nat)<=(if b=true then 3 else 2):=by split <;> decide
  have k3:blk μ (if b=true then 3 else 2) (.row false 28 10 (ks.map enc))=B:=by simp only[blk,List.length_map,m3]
  have hB:W0.heap.size<=B:=by have:=g3 _ _ h3';rwa [k3]at this
  have n1:Bt≠B:=by have:=hg'.apart 0 _ _ _ (by omega) h0' h3';rwa [k0,k3]at this
  have n2:Br≠B:=by have:=hg'.apart 1 _ _ _ (by omega) h1' h3';rwa [k1,k3]at this
  refine .inr ⟨hk,B,C,cs,?_,hB,n1,n2,r8,r1.other (by decide),r2,r3,r7,r6⟩
  cases hr9 with
  | row _ _ _ _ B' C' S' q h h1 h2 h3 ha=>
   rw[m3]at h
   cases h
   have:=ha (.inr rfl)
   subst this
   simpa using hv9
theorem c1d{Φ Φ0:Zv}{W0:World}{n:Nd}{Bt Br T Tr c:Nat}{p:Option Addr}{ct cr:Array Value}{a:Act}{w:World}(hle:Φ0.le Φ)(hp:Yn Φ w)(hdm : ∀ b cs,Φ b=some cs->Φ0 b=some cs∨W0.heap.size<=b)(hb:Below W0.heap.size W0 w)(hBr:W0.heap.size<=Br)(pBr:Φ Br=none)
  (bt:w.heap[Bt]? = some (.cells ct T (0,0))) (cts:ct.size=10) (ct1:Z6 ct.toList) (nd:Wd Φ ct 0 n) (br:w.heap[Br]? = some (.cells cr Tr (0,0))) (crs:cr.size=10) (kid:ct[9]? = some (.slice p 0 c))
  (h1:a.eval (.tmp 1) = .pointer (some ⟨Bt,0,none⟩)) (h2:a.eval (.tmp 2) = .pointer (some ⟨Br,0,none⟩)) (hs:a.tmps.size=67) (hd:a.defers=[]):GK.wp Tryz.prog (fun e a w=>e = .ret∧cpN Φ0 W0 (.mk n []) a w) a w:=by
 unfold GK
 refine wp_seq (wp_seq (a2d (p:=p) (n:=0) (c:=c) (o:=cX 10 0) (o1:=cX 10 1) (o2:=cX 10 2) (o3:=cX 10 3) (s:=28) (t:=26) (b:=1) (f:=7) (off:=9) (d1:=49) (d2:=50) (d3:=51) (d4:=52) (by kernel_rfl) (by kernel_rfl) (by kernel_rfl) (by kernel_rfl) (by kernel_rfl) (by kernel_rfl) (by kernel_rfl) (by kernel_rfl) (by kernel_rfl)
  (by kernel_rfl) (by kernel_rfl) (by kernel_rfl) (by kernel_rfl) (by kernel_rfl) (by kernel_rfl) (by kernel_rfl) h1 (by simp[World.cell?,bt,kid]) (by omega) (by omega) ?_))
 generalize ha1:(((a.put (some 49) (.pointer (some ⟨Bt,9,none⟩))).put (some 50) (.slice p 0 c)).put (some 51) (.int .i64 ((0:Nat):Int))).put (some 52) (.int .i64 0)=a1
 have e1:a1.eval (.tmp 1) = .pointer (some ⟨Bt,0,none⟩):=by rw[<- ha1,Za (by decide),Za (by decide),Za (by decide),Za (by decide)];exact h1
 have e2:a1.eval (.tmp 2) = .pointer (some ⟨Br,0,none⟩):=by rw[<- ha1,Za (by decide),Za (by decide),Za (by decide),Za (by decide)];exact h2
 have e51:a1.eval (.tmp 51) = .int .i64 ((0:Nat):Int):=by rw[<- ha1,Za (by decide)];exact Zj (by simp[Act.put];omega)
 have e52:a1.eval (.tmp 52) = .int .i64 ((0:Nat):Int):=by rw[<- ha1];exact Zj (by simp[Act.put];omega)
 have es:a1.tmps.size=67:=by rw[<- ha1];simp[Act.put];omega
 have ed:a1.defers=[]:=by rw[<- ha1];exact hd
 refine wp_block (wp_loop_ghost (fun(z:Nat) (a:Act) (w':World)=>a1=a∧w=w') 0 ⟨rfl,rfl⟩ ?_)
 rintro z _ _ ⟨rfl,rfl⟩
 unfold O4
 refine wp_seq (a2s (o:=cX 11 0) (op:=.lss) (t:=3) (t':=3) (d:=53) (x:=.tmp 52) (y:=.tmp 51) (b:=decide (((0:Nat):Int)<((0:Nat):Int))) (by kernel_rfl) (by kernel_rfl) (by kernel_rfl) (by kernel_rfl) e52 e51 (.inl ⟨rfl,rfl⟩) ?_)
 refine wp_seq (wp_cond (t:=false) (Zj (by omega)) (wp_exit ?_))
 refine a2c (a:=_) ((Za (by decide)).trans e1) ((Za (by decide)).trans e2) (by simp[Act.put];omega) ed bt br cts crs ct1 ?_
 have oth : ∀ b,b≠Br->(w.setRow Br ct).heap[b]? = w.heap[b]? :=fun b hne'=>setRow_other w Br b _ hne'
 refine⟨ct.toList,Φ,fun _=>False,.slice p 0 c,by simp,by simpa using cts,ct1,by simpa using nd,by simpa using kid,.nil _ _ _ (fun _ h=>h),hle,?_,?_,hdm,fun b h=>h.elim⟩
 ·intro b q hq
  obtain⟨T',fz,hh⟩:=hp b q hq
  have hneb:b≠Br:=fun e=>by rw[e,pBr]at hq;cases hq
  exact⟨T',fz,(oth b hneb).trans hh⟩
 ·refine⟨?_,?_,?_,?_,fun b hb'=> ?_⟩
  ·rw[setRow_os];exact hb.os
  ·rw[setRow_tape];exact hb.tape
  ·rw[setRow_output];exact hb.output
  ·rw[setRow_size];exact hb.size
  ·exact(oth b (by omega)).trans (hb.block b hb')
theorem Cy:Zr Tryz.prog 93 (fun x:List Int×Unit=>decide (x.1.length<=2000000)) (fun x:List Int×Unit=>x.1):=VZ (α:=Int) (by decide) (Vi b3y (by decide))
theorem Gd:Zr Tryz.prog 95 (fun x:List Coef×Unit=>decide (x.1.length<=2000000)) (fun x:List Coef×Unit=>x.1):=VZ (α:=Coef) (by decide) (Vi d2t (by decide))
theorem Mc:Zr Tryz.prog 94 (fun x:List Lin×Unit=>x.1.isEmpty) (fun x:List Lin×Unit=>x.1):=(VZ (α:=Lin) (by decide) (Vi b4q (by decide))).weaken (fun a h=>by rw[List.isEmpty_iff]at h;rw[h];rfl) (fun _ _=>rfl)
theorem a1n:Zr Tryz.prog 96 (fun x:List Tm×Unit=>x.1.isEmpty) (fun x:List Tm×Unit=>x.1):=(VZ (α:=Tm) (by decide) (Vi b0i (by decide))).weaken (fun a h=>by rw[List.isEmpty_iff]at h;rw[h];rfl) (fun _ _=>rfl)
theorem Fu:ZN Tryz.prog 94 (Yl 2) (XO 62 2):=Av (Vi b4q (by decide))
theorem a1x:ZN Tryz.prog 96 (Yl 10) (XO 28 10):=Av (Vi b0i (by decide))
set_option maxHeartbeats 1000000 in
theorem a5k: ∀ (m:Nat) (t:Tm),SizeOf.sizeOf t<m->tW t=true-> ∀ (Φ:Zv) (w:World) (v:Value),GlobOK Φ->Yn Φ w->RP Φ v (enc t)->Calls Tryz.prog 71 #[v] w (H8 Φ w t):=by
 intro m
 induction m with
 | zero=>intro t h;omega
 | succ m ih=>
  intro t ht hw Φ w v hL hp hv
  obtain⟨n,ks⟩:=t
  have tail : ∀ st' a' w',Go.Pl.cpR n ks 0 st'->XU (ZZ (fun _ _=>none) Φ [] w) st' a' w'->GK.wp Tryz.prog (fun e a w'=>e = .ret∧cpN Φ w (.mk n ks) a w') a' w':=by
   intro st' a' w' hR hr
   obtain⟨Bt,Br,T,Tr,Φ1,ct,cr,q1,q2,q3,q4,q5,q6,q7,q8,q9,q10,q11,q12,q13,q14,q15,q16,q17,q18,q19,q20⟩:=b8w hR hr
   rcases q20 with ⟨rfl,p,c,hk⟩|⟨hne,B,c,cs,hk,r1,r2,r3,r4,r5,r6,r7,r8,r9⟩
   ·exact c1d q1 q2 q3 q4 q6 q9 q10 q11 q12 q13 q14 q15 hk q16 q17 q18 q19
   ·refine c3p (Xs:=fun _ _=>False) (us:=fun _=>undef) hne (by have:=(Yo hw).1;omega) hL (fun k hk Φ w v h1 h2 h3=>ih k (by have:=F7 (n:=n) hk;omega) ((Yo hw).2 k hk) Φ w v h1 h2 h3)
     ⟨q1,q2,q3,q4,q5,q6,r1,q7,r2,r3,q8,q9,r4,q10,q11,q12,q13,hk,q14,q15,r5,r6,r7,r8,fun j k h=>by omega,fun j j' h=>by omega,fun j k _ hj=> ?_⟩ q16 q17 q18 q19
    have hjl:j<ks.length:=(List.getElem?_eq_some_iff.1 hj).1
    have hs : ∀ x∈ks.map (enc:Tm->PV),x.cells.length=10:=fun x hx=>by
     obtain⟨k,_,rfl⟩:=List.mem_map.1 hx
     exact J3 k
    have hy:(ks.map (enc:Tm->PV))[j]? = some (enc k):=by rw[List.getElem?_map,hj];rfl
    have e:=J5 hs hy
    have e2:(cs.toList.drop (j*10)).take 10=((cs.toList.take (ks.length*10)).drop (j*10)).take 10:=by
     rw[List.drop_take,List.take_take]
     congr 1
     have:=Nat.mul_le_mul_right 10 (show j+1<=ks.length from hjl)
     omega
    rw[e2,<- e]
    exact(r9.drop _).take _
  have key : ∀ {T:ZE} {ic:IC} (hT:ZO Tryz.prog T) (hic:Bw Tryz.prog c7l Tryz.f71=some ic) (hrun:Zu T (Vt fun m S=>Go.Pl.cpR n ks 0 S∧m=0) 0 (fun _=>False) (.inl ic) [] (Ef n ks)),Calls Tryz.prog 71 #[v] w (H8 Φ w (.mk n ks)):=by
   intro T ic hT hic hrun
   obtain⟨cd,hb,htr⟩:=Gm hic
   refine calls_of_wp Tryz.func71 hb ?_
   have hE:YQ (fun _ _=>none) Φ (#[v]++Array.replicate 66 undef) (Ef n ks).env:=by
    show RL _ _ _ _
    rw[Array.toList_append,Array.toList_replicate]
    refine RL.append ?_ (Yx _)
    rw[Zx]at hv
    exact RL.cons (.pv _ _ hv) RL.nil
   have h:=Ar (st:=Ef n ks) (a:={tmps:=#[v]++Array.replicate 66 undef,defers:=[]}) (N:=cpN Φ w (.mk n ks)) (R:=fun m S=>Go.Pl.cpR n ks 0 S∧m=0) hT (by kernel_rfl) htr hrun (Vj hL hp) hE rfl (fun i cd hx st' a' w' hR hr=>by
    obtain⟨hR,rfl⟩:=hR
    rw[c2u]at hx
    cases hx
    exact tail st' a' w' hR hr)
   exact wp_mono h fun e a w' h=>by obtain⟨rfl,h⟩:=h;exact h
  have hRR : ∀ S,Go.Pl.cpR n ks 0 S->(Go.Pl.cpR n ks 0 S∧(0:Nat)=0):=fun S h=>⟨h,rfl⟩
  by_cases hs:n.sizes=[]
  ·by_cases hk:ks=[]
   ·exact key (T:=Gw) (ic:=KY) (Zl (Va Tryz.func93 (by kernel_rfl) Cy) (Zl (Va Tryz.func94 (by kernel_rfl) Mc) (Zl (Va Tryz.func95 (by kernel_rfl) Gd) (Zl (Va Tryz.func96 (by kernel_rfl) a1n) Zf)))) (by kernel_rfl) (d5s hw hs hk hRR)
   ·exact key (T:=Dj) (ic:=Ky) (Zl (Va Tryz.func93 (by kernel_rfl) Cy) (Zl (Va Tryz.func94 (by kernel_rfl) Mc) (Zl (Va Tryz.func95 (by kernel_rfl) Gd) (Zl (Va Tryz.func96 (by kernel_rfl) a1x) Zf)))) (by kernel_rfl) (d6c hw hs hk hRR)
  ·by_cases hk:ks=[]
   ·exact key (T:=QB) (ic:=VL) (Zl (Va Tryz.func93 (by kernel_rfl) Cy) (Zl (Va Tryz.func94 (by kernel_rfl) Fu) (Zl (Va Tryz.func95 (by kernel_rfl) Gd) (Zl (Va Tryz.func96 (by kernel_rfl) a1n) Zf)))) (by kernel_rfl) (d5b hw hs hk hRR)
   ·exact key (T:=Qq) (ic:=Ws) (Zl (Va Tryz.func93 (by kernel_rfl) Cy) (Zl (Va Tryz.func94 (by kernel_rfl) Fu) (Zl (Va Tryz.func95 (by kernel_rfl) Gd) (Zl (Va Tryz.func96 (by kernel_rfl) a1x) Zf)))) (by kernel_rfl) (d8d hw hs hk hRR)
end Go.Proofs.YtgdebdgkofkeeaaGreatDoor
namespace Go.Proofs.YtgdebdgkofkeeaaGreatDoor
open Go.RowKit Go.Pl
open Enc (enc dec is)
open EncL (encL decL isL)
set_option maxRecDepth 100000
structure Env3 (Φ:Zv) (w:World) (M K Tk:Nat) (m:List (Str×Str)) (c:Nat) (tk:List Str):Prop where
 map : ∃ mes ck,w.heap[M]? = some (.map mes ck)∧mes.size=(Yj m).length∧(∀ (j:Nat) e p,mes[j]? = some e->(Yj m)[j]? = some p->RP Φ e.key p.1∧RP Φ e.val p.2)∧AU mes ck
 num : ∃ T,w.heap[K]? = some (.cells #[.int .i64 (c:Int)] T (0,0))
 tak : ∃ tv T,w.heap[Tk]? = some (.cells #[tv] T (0,0))∧RP Φ tv (enc tk)∧tv.oneCell'=true
 pM:Φ M=none
 pK:Φ K=none
 pT:Φ Tk=none
 n1:M≠K
 n2:M≠Tk
 n3:K≠Tk
def μ3(M K Tk:Nat):Mu:=fun l n=>if n=0 then(if l=0 then some (M,0,0)else if l=1 then some (K,0,0)else if l=2 then some (Tk,0,0)else none)else none
def os3(m:List (Str×Str))(c:Nat)(tk:List Str):List AObj:=[.map (Yj m),.box [.pv (.int .i64 (c:Int))],.box [.pv (enc tk)]]
theorem Env3.lt{Φ:Zv}{w:World}{M K Tk:Nat}{m:List (Str×Str)}{c:Nat}{tk:List Str}(h:Env3 Φ w M K Tk m c tk):M<w.heap.size∧K<w.heap.size∧Tk<w.heap.size:=by
 obtain⟨_,_,h1,_⟩:=h.map
 obtain⟨_,h2⟩:=h.num
 obtain⟨_,_,h3,_⟩:=h.tak
 exact⟨Yw h1,Yw h2,Yw h3⟩
theorem Env3.mono{Φ Φ':Zv}{w w':World}{M K Tk:Nat}{m:List (Str×Str)}{c:Nat}{tk:List Str}(h:Env3 Φ w M K Tk m c tk)(hle:Φ.le Φ')(hn:Φ' M=none∧Φ' K=none∧Φ' Tk=none)(hw:w'.heap[M]? = w.heap[M]? ∧w'.heap[K]? = w.heap[K]? ∧w'.heap[Tk]? = w.heap[Tk]?):Env3 Φ' w' M K Tk m c tk:=by
 obtain⟨mes,ck,h1,h2,h3,h4⟩:=h.map
 obtain⟨T,h5⟩:=h.num
 obtain⟨tv,T',h6,h7,h8⟩:=h.tak
 exact⟨⟨mes,ck,hw.1.trans h1,h2,fun j e p he hp=>⟨(h3 j e p he hp).1.mono hle,(h3 j e p he hp).2.mono hle⟩,h4⟩,⟨T,hw.2.1.trans h5⟩,⟨tv,T',hw.2.2.trans h6,h7.mono hle,h8⟩,hn.1,hn.2.1,hn.2.2,h.n1,h.n2,h.n3⟩
theorem Pw{m:List (Str×Str)}{c:Nat}{tk:List Str}{l:Nat}{o:AObj}(h:(YD (os3 m c tk))[l]? = some (.obj o)):(l=0∧o = .map (Yj m))∨(l=1∧o = .box [.pv (.int .i64 (c:Int))])∨(l=2∧o = .box [.pv (enc tk)]):=by
 match l,h with
 | 0,h=>cases h;exact .inl ⟨rfl,rfl⟩
 | 1,h=>cases h;exact .inr (.inl ⟨rfl,rfl⟩)
 | 2,h=>cases h;exact .inr (.inr ⟨rfl,rfl⟩)
 | l+3,h=>simp[YD,os3]at h
theorem Env3.good{Φ:Zv}{w:World}{M K Tk:Nat}{m:List (Str×Str)}{c:Nat}{tk:List Str}(h:Env3 Φ w M K Tk m c tk)(hL:GlobOK Φ)(hp:Yn Φ w):Go.Pl.Good (ZZ (μ3 M K Tk) Φ (YD (os3 m c tk)) w) (μ3 M K Tk) Φ (YD (os3 m c tk)) w:=by
 obtain⟨mes,ck,h1,h2,h3,h4⟩:=h.map
 obtain⟨T,h5⟩:=h.num
 obtain⟨tv,T',h6,h7,h8⟩:=h.tak
 refine⟨hp,fun l o ho=> ?_,fun l l' o o' hne ho ho'=> ?_,fun l n hl=> ?_,fun l o ho=>.inr ⟨l,o,ho,rfl⟩,rfl,rfl,rfl,Nat.le_refl _,fun _ _ _=>rfl,.refl _,.refl _,fun b cs h=>.inl h,hL⟩
 ·rcases Pw ho with ⟨rfl,rfl⟩|⟨rfl,rfl⟩|⟨rfl,rfl⟩
  ·exact⟨M,0,0,mes,ck,rfl,h1,h2,h3,h.pM,h4⟩
  ·exact⟨K,0,0,T,_,rfl,h5,RL.cons (.pv _ _ (.int _ _)) RL.nil,fun v hv=>by simp at hv;subst hv;rfl,h.pK⟩
  ·exact⟨Tk,0,0,T',_,rfl,h6,RL.cons (.pv _ _ h7) RL.nil,fun v hv=>by simp at hv;subst hv;exact h8,h.pT⟩
 ·have:=h.n1;have:=h.n2;have:=h.n3
  rcases Pw ho with ⟨rfl,rfl⟩|⟨rfl,rfl⟩|⟨rfl,rfl⟩ <;> rcases Pw ho' with ⟨rfl,rfl⟩|⟨rfl,rfl⟩|⟨rfl,rfl⟩ <;> first|exact absurd rfl hne|(simp[blk,μ3];omega)
 ·by_cases e:3<=l
  ·unfold μ3
   rw[if_neg (show ¬ l=0 by omega),if_neg (show ¬ l=1 by omega),if_neg (show ¬ l=2 by omega)]
   split <;> rfl
  ·exfalso
   have:l=0∨l=1∨l=2:=by omega
   rcases this with rfl|rfl|rfl <;> (rcases hl with hl|hl <;> cases hl)
def KH(Φ:Zv)(w:World)(X:Nat->Prop)(u:Value)(M K Tk:Nat)(m σ:List (Str×Str))(c:Nat)(tk:List Str)(t:Tm)(e:Ending)(w':World):Prop:=
 ∃ (vs:List Value) (Φ':Zv),e = .returned (.agg vs.toArray)∧vs.length=10∧Z6 vs∧Wd Φ' vs.toArray 0 (Y9 tk σ c t).1.n∧vs[9]? = some u∧OwnK Φ' w' X u (Y9 tk σ c t).1.kids∧Env3 Φ' w' M K Tk m (Y9 tk σ c t).2 tk∧Φ.le Φ'∧Yn Φ' w' ∧
  (∀ b cs,Φ' b=some cs->Φ b=some cs∨w.heap.size<=b)∧(∀ b,b<w.heap.size-> ¬ X b->b≠M->b≠K->b≠Tk->w'.heap[b]? = w.heap[b]?)∧w'.os=w.os∧w'.tape=w.tape∧w'.output=w.output∧w.heap.size<=w'.heap.size
abbrev X4(K Tk:Nat):Value:=.func (.func 67) #[] #[.pointer (some ⟨K,0,none⟩),.pointer (some ⟨Tk,0,none⟩)]
structure RenPre (Φ:Zv) (w:World) (X:Nat->Prop) (u:Value) (M K Tk:Nat) (m σ:List (Str×Str)) (c:Nat) (tk:List Str) (t:Tm) (cs:List Value):Prop where
 glob:GlobOK Φ
 phi:Yn Φ w
 len:cs.length=10
 ones:Z6 cs
 nd:Wd Φ cs.toArray 0 t.n
 kid:cs[9]? = some u
 own:OwnK Φ w X u t.kids
 env:Env3 Φ w M K Tk m c tk
 out : ∀ b,X b->b≠M∧b≠K∧b≠Tk
 same:Jb m σ
 tkl:tk.length<=1048576
 cnt:c+Zk t*(tk.length+1)<=4611686018427387904
 small:tW t=true
noncomputable def rnB:Code:=Tryz.f70.body.getD .skip
noncomputable def nO(i:Nat):Array Oper:=Q4 rnB i
noncomputable def nX(i k:Nat):Oper:=(nO i).getD k default
def c8v:Code->Bool
 | .seq (.seq (.region 9 _ _) _) _=>true
 | _=>false
noncomputable def EH:Code:=(Code.region 10 (nO 10) false).seq ((Code.cond (.tmp 52) .skip (.exit 0)).seq ((Code.block 1 ((Code.region 11 (nO 11) false).seq ((Code.region 12 (nO 12) false).seq (Code.cond (.tmp 55) (Code.region 13 raO true) (Code.region 14 rbO true))))).seq (Code.region 15 (nO 15) false)))
noncomputable def Bz:Code:=((Code.region 9 (nO 9) false).seq (.block 0 (.loop EH))).seq ((Code.region 16 (nO 16) false).seq .ret)
theorem c5e:XI Tryz.prog c8v Tryz.f70 0=some Bz:=by kernel_rfl
structure RnW (W0:World) (Φ0:Zv) (X:Nat->Prop) (M K Tk:Nat) (m:List (Str×Str)) (tk:List Str) (Mi:Nat) (mi:List (Str×Str)) (Bt Br T Tr:Nat) (ct cr:Array Value) (Φ:Zv) (u:Value) (L:List Tm) (c:Nat) (w:World):Prop where
 le:Φ0.le Φ
 phi:Yn Φ w
 dom : ∀ b cs,Φ b=some cs->Φ0 b=some cs∨W0.heap.size<=b
 frame : ∀ b,b<W0.heap.size-> ¬ X b->b≠M->b≠K->b≠Tk->w.heap[b]? = W0.heap[b]?
 os:w.os=W0.os
 tape:w.tape=W0.tape
 output:w.output=W0.output
 size:W0.heap.size<=w.heap.size
 env:Env3 Φ w M K Tk m c tk
 envI:Env3 Φ w Mi K Tk mi c tk
 hM:M<W0.heap.size∧K<W0.heap.size∧Tk<W0.heap.size
 hMi:(Mi=M∧mi=m)∨W0.heap.size<=Mi
 hBt:W0.heap.size<=Bt
 hBr:W0.heap.size<=Br
 ne1:Bt≠Br
 neM:Bt≠Mi∧Br≠Mi
 pBt:Φ Bt=none
 pBr:Φ Br=none
 bt:w.heap[Bt]? = some (.cells ct T (0,0))
 br:w.heap[Br]? = some (.cells cr Tr (0,0))
 own:OwnK Φ w X u L
theorem Env3.mix{Φ Φ':Zv}{w w':World}{M Mo K Tk:Nat}{m mo:List (Str×Str)}{c c':Nat}{tk:List Str}(h:Env3 Φ' w' M K Tk m c' tk)(k:Env3 Φ w Mo K Tk mo c tk)(hle:Φ.le Φ')(hn:Φ' Mo=none)(hw:w'.heap[Mo]? = w.heap[Mo]?):Env3 Φ' w' Mo K Tk mo c' tk:=by
 obtain⟨mes,ck,h1,h2,h3,h4⟩:=k.map
 exact⟨⟨mes,ck,hw.trans h1,h2,fun j e p he hp=>⟨(h3 j e p he hp).1.mono hle,(h3 j e p he hp).2.mono hle⟩,h4⟩,h.num,h.tak,hn,h.pK,h.pT,k.n1,k.n2,h.n3⟩
theorem RnW.next{W0:World}{Φ0:Zv}{X:Nat->Prop}{M K Tk:Nat}{m:List (Str×Str)}{tk:List Str}{Mi:Nat}{mi:List (Str×Str)}{Bt Br T Tr:Nat}{ct cr:Array Value}{Φ:Zv}{c c' B cap n:Nat}{L:List Tm}{w:World}(h:RnW W0 Φ0 X M K Tk m tk Mi mi Bt Br T Tr ct cr Φ (.slice (some ⟨B,0,none⟩) n cap) L c w)
  (hL0:L.length=n) (hXs : ∀ b,X b->b<W0.heap.size∧b≠M∧b≠K∧b≠Tk) {cs:Array Value} {Xs:Nat->Nat->Prop} {us:Nat->Value} (hr:RowH Φ w X B cap cs L Xs us) (ho : ∀ (j:Nat) k,L[j]? = some k->OwnK Φ w (Xs j) (us j) k.kids) {i:Nat} (hi:i<L.length)
  {w1 w2:World} (e1:w1.heap=w.heap) (e2:w1.os=w.os) (e3:w1.tape=w.tape) (e4:w1.output=w.output) {k:Tm} {vs:List Value} {Φ':Zv} {Mb:Nat} {mb:List (Str×Str)} (hMb:Mb=M∧mb=m∨Mb=Mi∧mb=mi)
  (q1:vs.length=10) (q2:Z6 vs) (q3:Wd Φ' vs.toArray 0 k.n) (q4:vs[9]? = some (us i)) (q5:OwnK Φ' w2 (Xs i) (us i) k.kids) (q6:Env3 Φ' w2 Mb K Tk mb c' tk) (q7:Φ.le Φ') (q8:Yn Φ' w2) (q9 : ∀ b cs,Φ' b=some cs->Φ b=some cs∨w1.heap.size<=b)
  (q10 : ∀ b,b<w1.heap.size-> ¬ Xs i b->b≠Mb->b≠K->b≠Tk->w2.heap[b]? = w1.heap[b]?) (q11:w2.os=w1.os) (q12:w2.tape=w1.tape) (q13:w2.output=w1.output) (q14:w1.heap.size<=w2.heap.size) :
  RnW W0 Φ0 X M K Tk m tk Mi mi Bt Br T Tr ct cr Φ' (.slice (some ⟨B,0,none⟩) n cap) (L.set i k) c' (w2.setRow B (splice cs.toList (i*10) vs).toArray):=by
 have hs1:w1.heap.size=w.heap.size:=by rw[e1]
 have hBX:X B:=(hr.X B).2 (.inl rfl)
 obtain⟨lM,lK,lT⟩:=h.env.lt
 obtain⟨lMi,_,_⟩:=h.envI.lt
 have lBt:=Yw h.bt
 have lBr:=Yw h.br
 have nn : ∀ b,b<w.heap.size->Φ b=none->Φ' b=none:=fun b hb' hn=>by
  cases hq:Φ' b with
  | none=>rfl
  | some q=>
   rcases q9 b q hq with h1|h1
   ·rw[hn]at h1;cases h1
   ·rw[hs1]at h1;omega
 have oth : ∀ b,b≠B->(w2.setRow B (splice cs.toList (i*10) vs).toArray).heap[b]? = w2.heap[b]? :=fun b hne=>setRow_other w2 B b _ hne
 have hXi : ∀ b,Xs i b->X b:=fun b hb=>(hr.X b).2 (.inr ⟨i,hi,hb⟩)
 have hsz:=h.size
 have nMi:Mi≠B:=by
  rcases h.hMi with ⟨h1,_⟩|h1
  ·rw[h1];exact Ne.symm (hXs B hBX).2.1
  ·have:=(hXs B hBX).1;omega
 have nXMi : ¬ Xs i Mi:=fun hx=>by
  rcases h.hMi with ⟨h1,_⟩|h1
  ·exact(hXs Mi (hXi _ hx)).2.1 h1
  ·have:=(hXs Mi (hXi _ hx)).1;omega
 have nMb:Mb≠B:=by
  rcases hMb with ⟨rfl,_⟩|⟨rfl,_⟩
  ·exact Ne.symm (hXs B hBX).2.1
  ·exact nMi
 -- what the call has left
 have up : ∀ b,b<w.heap.size-> ¬ Xs i b->b≠Mb->b≠K->b≠Tk->w2.heap[b]? = w.heap[b]? :=fun b hb h1 h2 h3 h4=>(q10 b (by omega) h1 h2 h3 h4).trans (by rw[e1])
 have rowB:w2.heap[B]? = some (.cells cs 28 (0,0)):=(up B (Yw hr.heap) (hr.top i hi) (Ne.symm nMb) (hXs B hBX).2.2.1 (hXs B hBX).2.2.2).trans hr.heap
 have eM:Env3 Φ' w2 M K Tk m c' tk:=by
  rcases hMb with ⟨rfl,rfl⟩|⟨rfl,rfl⟩
  ·exact q6
  ·rcases h.hMi with ⟨h1,h2⟩|h1
   ·subst h1 h2;exact q6
   ·have:=h.hM.1
    exact q6.mix h.env q7 (nn _ lM h.env.pM) (up M lM (fun hx=>(hXs M (hXi _ hx)).2.1 rfl) (by omega) h.env.n1 h.env.n2)
 have eI:Env3 Φ' w2 Mi K Tk mi c' tk:=by
  rcases hMb with ⟨rfl,rfl⟩|⟨rfl,rfl⟩
  ·rcases h.hMi with ⟨h1,h2⟩|h1
   ·subst h1 h2;exact q6
   ·have:=h.hM.1
    exact q6.mix h.envI q7 (nn _ lMi h.envI.pM) (up Mi lMi nXMi (by omega) h.envI.n1 h.envI.n2)
  ·exact q6
 have hB3:=hXs B hBX
 have oM:(w2.setRow B (splice cs.toList (i*10) vs).toArray).heap[M]? = w2.heap[M]? :=oth _ (Ne.symm hB3.2.1)
 have oK:(w2.setRow B (splice cs.toList (i*10) vs).toArray).heap[K]? = w2.heap[K]? :=oth _ (Ne.symm hB3.2.2.1)
 have oT:(w2.setRow B (splice cs.toList (i*10) vs).toArray).heap[Tk]? = w2.heap[Tk]? :=oth _ (Ne.symm hB3.2.2.2)
 have nBt:Bt≠B:=by have:=h.hBt;omega
 have nBr:Br≠B:=by have:=h.hBr;omega
 have nXt : ∀ b,W0.heap.size<=b-> ¬ Xs i b:=fun b hb hx=>by have:=(hXs b (hXi _ hx)).1;omega
 have hMbt:Bt≠Mb∧Br≠Mb:=by
  rcases hMb with ⟨rfl,_⟩|⟨rfl,_⟩
  ·have:=h.hM.1;have:=h.hBt;have:=h.hBr;omega
  ·exact h.neM
 have hlen:i*10+vs.length<=cs.toList.length:=by
  have h1:=Nat.mul_le_mul_right 10 (show i+1<=L.length from hi)
  have h2:=Nat.mul_le_mul_right 10 hr.len
  have h3:=hr.size
  simp
  omega
 have hsl:(splice cs.toList (i*10) vs).toArray.size=cs.size:=by simpa using Xa hlen
 have get : ∀ j,(splice cs.toList (i*10) vs).toArray[j]? = if j<i*10 then cs[j]? else if j<i*10+10 then vs[j - i*10]? else cs[j]? :=fun j=>by
  rw[List.getElem?_toArray,Xu hlen,q1]
  simp
 refine⟨h.le.trans q7,fun b q hq=> ?_,fun b q hq=> ?_,fun b hb h1 h2 h3 h4=> ?_,?_,?_,?_,?_,eM.mono (.refl _) ⟨eM.pM,eM.pK,eM.pT⟩ ⟨oM,oK,oT⟩,eI.mono (.refl _) ⟨eI.pM,eI.pK,eI.pT⟩ ⟨oth _ nMi,oK,oT⟩,h.hM,h.hMi,h.hBt,h.hBr,h.ne1,h.neM,nn _ lBt h.pBt,nn _ lBr h.pBr,?_,?_,?_⟩
 ·obtain⟨T',fz,hh⟩:=q8 b q hq
  have hne:b≠B:=fun e=>by rw[e,nn _ (Yw hr.heap) hr.phi]at hq;cases hq
  exact⟨T',fz,(oth b hne).trans hh⟩
 ·rcases q9 b q hq with h1|h1
  ·exact h.dom b q h1
  ·exact .inr (by omega)
 ·have hbB:b≠B:=fun e=>h1 (e▸hBX)
  have hbM:b≠Mb:=by
   rcases hMb with ⟨rfl,_⟩|⟨rfl,_⟩
   ·exact h2
   ·rcases h.hMi with ⟨h5,_⟩|h5
    ·rw[h5];exact h2
    ·omega
  exact(oth b hbB).trans ((up b (by omega) (fun hx=>h1 (hXi _ hx)) hbM h3 h4).trans (h.frame b hb h1 h2 h3 h4))
 ·rw[setRow_os];exact q11.trans (e2.trans h.os)
 ·rw[setRow_tape];exact q12.trans (e3.trans h.tape)
 ·rw[setRow_output];exact q13.trans (e4.trans h.output)
 ·rw[setRow_size];omega
 ·exact(oth _ nBt).trans ((up Bt lBt (nXt _ h.hBt) hMbt.1 (by have:=h.hM;have:=h.hBt;omega) (by have:=h.hM;have:=h.hBt;omega)).trans h.bt)
 ·exact(oth _ nBr).trans ((up Br lBr (nXt _ h.hBr) hMbt.2 (by have:=h.hM;have:=h.hBr;omega) (by have:=h.hM;have:=h.hBr;omega)).trans h.br)
 ·have hq5:OwnK Φ' (w2.setRow B (splice cs.toList (i*10) vs).toArray) (Xs i) (us i) k.kids:=q5.mono (.refl _) (fun b hb=>(q5.out b hb).2.1) fun b hb=>oth b fun e=>hr.top i hi (e▸hb)
  have:=OwnK.set (Φ':=Φ') (w':=w2.setRow B (splice cs.toList (i*10) vs).toArray) (Y:=Xs i) (k:=k) (u:=us i) (cs':=(splice cs.toList (i*10) vs).toArray) hr ho hi q7 (fun b hb hn=>⟨nn b (h.own.out b hb).1 (h.own.out b hb).2.1,fun hne=>(oth b hne).trans (up b (h.own.out b hb).1 hn (fun e=>by
    rcases hMb with ⟨rfl,_⟩|⟨rfl,_⟩
    ·exact(hXs b hb).2.1 e
    ·rcases h.hMi with ⟨h5,_⟩|h5
     ·exact(hXs b hb).2.1 (e.trans h5)
     ·have:=(hXs b hb).1;omega) (hXs b hb).2.2.1 (hXs b hb).2.2.2)⟩) (setRow_heap w2 B cs _ _ _ rowB) hsl (fun j hj=>by
    rw[get]
    rcases hj with hj|hj
    ·rw[if_pos hj]
    ·rw[if_neg (by omega),if_neg (by omega)]) (fun q p hp=>by
    obtain⟨v,r1,r2,r3⟩:=q3 q p hp
    have hq:q<9:=(List.getElem?_eq_some_iff.1 hp).1
    rw[Nat.zero_add]at r1
    refine⟨v,?_,r2,r3⟩
    rw[get,if_neg (by omega),if_pos (by omega),Nat.add_sub_cancel_left]
    simpa using r1) (by rw[get,if_neg (by omega),if_pos (by omega),Nat.add_sub_cancel_left];exact q4) q5.one hq5 (fun b hb=>.inl hb)
  rw[hL0]at this
  refine this.congr fun b=>⟨fun hb=> ?_,fun hb=> ?_⟩
  ·by_cases hx:Xs i b
   ·exact .inr hx
   ·exact .inl ⟨hb,hx⟩
  ·rcases hb with hb|hb
   ·exact hb.1
   ·exact hXi b hb
theorem c2w{Φ:Zv}{w:World}{X:Nat->Prop}{B n cap:Nat}{L:List Tm}(h:OwnK Φ w X (.slice (some ⟨B,0,none⟩) n cap) L)(hL:L≠[]):
  L.length=n∧ ∃ cs Xs us,RowH Φ w X B cap cs L Xs us∧ ∀ (j:Nat) k,L[j]? = some k->OwnK Φ w (Xs j) (us j) k.kids:=by
 generalize hu:Value.slice (some ⟨B,0,none⟩) n cap=u at h
 cases h with
 | nil=>exact absurd rfl hL
 | row _ B' c cs _ Xs us hr ho=>
  injection hu with h1 h2 h3
  injection h1 with h1
  injection h1 with h1
  subst h1 h2 h3
  exact⟨rfl,cs,Xs,us,hr,ho⟩
theorem d2j{α:Type}{A r:List α}{k k':α}:(A++k::r).set A.length k'=A++k'::r:=by
 induction A with
 | nil=>rfl
 | cons a A ih=>simp only[List.cons_append,List.length_cons,List.set_cons_succ,ih]
theorem d8s{P:Program}{ops:Array Oper}{Q:Exit->Act->World->Prop}{o o1:Oper}{a:Act}{w:World}{id d e x:Nat}{t t':TypeId}{n:Int}{b:Bool}(h:ops.toList=[o,o1])(hg:o.guard=none)(hg1:o1.guard=none)(hd:o.dst=some d)(hd1:o1.dst=some e)(ho:o.op = .move (.tmp x))(ho1:o1.op = .binOp .eql t (.tmp d) (.const (.int .i64 0)) t')
  (hx:a.eval (.tmp x) = .int .i64 n) (hs:d<a.tmps.size) (hb:b=decide (n=0)) (hQ:Q .normal ((a.put (some d) (.int .i64 n)).put (some e) (.bool b)) w):(Code.region id ops false).wp P Q a w:=by
 refine V5 h (Uw hg (Sr (.inl ho) hx) ?_)
 rw[hd]
 refine Uw hg1 (b8y ho1 (Zj hs) rfl (.inr ⟨rfl,hb⟩)) ?_
 rw[hd1]
 exact hQ
abbrev rnN(Φ:Zv)(w:World)(X:Nat->Prop)(u:Value)(M K Tk:Nat)(m σ:List (Str×Str))(c:Nat)(tk:List Str)(t:Tm):Act->World->Prop:=bodyPost Tryz.prog Tryz.f70 (KH Φ w X u M K Tk m σ c tk t) .ret
theorem a3a{a:Act}{w:World}{Bt Br T Tr:Nat}{ct cr:Array Value}(h1:a.eval (.tmp 3) = .pointer (some ⟨Bt,0,none⟩))(h2:a.eval (.tmp 6) = .pointer (some ⟨Br,0,none⟩))(hs:a.tmps.size=82)(hd:a.defers=[])(hb:w.heap[Bt]? = some (.cells ct T (0,0)))
  (hr:w.heap[Br]? = some (.cells cr Tr (0,0))) (hct:ct.size=10) (hcr:cr.size=10) (ho:Z6 ct.toList) {R:Ending->World->Prop} (hR:R (.returned (.agg ct)) (w.setRow Br ct)) :
  ((Code.region 16 (nO 16) false).seq .ret).wp Tryz.prog (fun e a w=>e = .ret∧bodyPost Tryz.prog Tryz.f70 R .ret a w) a w:=by
 refine wp_seq (b4g (o:=nX 16 0) (o1:=nX 16 1) (t:=28) (x:=3) (y:=6) (d:=81) (by kernel_rfl) (by kernel_rfl) (by kernel_rfl) (by kernel_rfl) (by kernel_rfl) (by kernel_rfl) (by kernel_rfl) (by kernel_rfl) h1 h2 (by decide) hb hr hct hcr ho (by omega) (wp_ret ⟨rfl,hd,_,?_,hR⟩))
 refine Ao (b:=6) (t:=28) (Br:=Br) (sz:=10) (T:=Tr) (z:=(0,0)) (by kernel_rfl) ?_ (by kernel_rfl) (setRow_heap w Br cr ct Tr (0,0) hr) hct
 exact(Za (a:=a) (d:=81) (t:=6) (by decide)).trans h2
set_option maxHeartbeats 2000000 in
theorem c5q{W0:World}{Φ0:Zv}{X:Nat->Prop}{M K Tk:Nat}{m σ:List (Str×Str)}{tk:List Str}{Mi:Nat}{mi τ:List (Str×Str)}{Bt Br T Tr:Nat}{ct cr:Array Value}{Φ:Zv}{c0 cc B cap:Nat}{n':Nd}{t:Tm}{ks:List Tm}{a:Act}{w:World}
  (hne:ks≠[]) (hlen:ks.length<=1048576) (hw : ∀ k∈ks,tW k=true) (hL:GlobOK Φ0) (htk:tk.length<=1048576) (hXs : ∀ b,X b->b<W0.heap.size∧b≠M∧b≠K∧b≠Tk) (hm:Jb m σ) (hmi:Jb mi τ)
  (ih : ∀ k∈ks,∀ (Φ:Zv) (w:World) (X:Nat->Prop) (u:Value) (M:Nat) (m σ:List (Str×Str)) (c:Nat) (cs:List Value),RenPre Φ w X u M K Tk m σ c tk k cs->Calls Tryz.prog 70 #[.agg cs.toArray,.map (some M),X4 K Tk] w (KH Φ w X u M K Tk m σ c tk k))
  (hstd:Y9 tk σ cc t=(.mk n' (Yr tk σ τ 0 c0 ks).1,(Yr tk σ τ 0 c0 ks).2)) (hcnt:c0+Zo ks*(tk.length+1)<=4611686018427387904) (hct:ct.size=10) (hcr:cr.size=10) (ho1:Z6 ct.toList) (hnd:Wd Φ ct 0 n') (hkid:ct[9]? = some (.slice (some ⟨B,0,none⟩) ks.length cap))
  (h:RnW W0 Φ0 X M K Tk m tk Mi mi Bt Br T Tr ct cr Φ (.slice (some ⟨B,0,none⟩) ks.length cap) ks c0 w)
  (h3:a.eval (.tmp 3) = .pointer (some ⟨Bt,0,none⟩)) (h6:a.eval (.tmp 6) = .pointer (some ⟨Br,0,none⟩)) (h1:a.eval (.tmp 1) = .map (some M)) (h2:a.eval (.tmp 2)=X4 K Tk) (h9:a.eval (.tmp 9) = .map (some Mi)) (hs:a.tmps.size=82) (hd:a.defers=[]) :
  Bz.wp Tryz.prog (fun e a w=>e = .ret∧rnN Φ0 W0 X (.slice (some ⟨B,0,none⟩) ks.length cap) M K Tk m σ cc tk t a w) a w:=by
 unfold Bz
 refine wp_seq (wp_seq (a2d (p:=some ⟨B,0,none⟩) (n:=ks.length) (c:=cap) (o:=nX 9 0) (o1:=nX 9 1) (o2:=nX 9 2) (o3:=nX 9 3) (s:=28) (t:=26) (b:=3) (f:=7) (off:=9) (d1:=48) (d2:=49) (d3:=50) (d4:=51) (by kernel_rfl) (by kernel_rfl) (by kernel_rfl) (by kernel_rfl) (by kernel_rfl) (by kernel_rfl) (by kernel_rfl) (by kernel_rfl) (by kernel_rfl)
  (by kernel_rfl) (by kernel_rfl) (by kernel_rfl) (by kernel_rfl) (by kernel_rfl) (by kernel_rfl) (by kernel_rfl) h3 (by simp[World.cell?,h.bt,hkid]) (by omega) (by omega) ?_))
 generalize ha1:(((a.put (some 48) (.pointer (some ⟨Bt,9,none⟩))).put (some 49) (.slice (some ⟨B,0,none⟩) ks.length cap)).put (some 50) (.int .i64 (ks.length:Int))).put (some 51) (.int .i64 0)=a1
 have s0:SameT [48,49,50,51] a a1:=by rw[<- ha1];exact((((SameT.refl _ _).put (by simp) _).put (by simp) _).put (by simp) _).put (by simp) _
 have e50:a1.eval (.tmp 50) = .int .i64 (ks.length:Int):=by rw[<- ha1,Za (by decide)];exact Zj (by simp[Act.put];omega)
 have e51:a1.eval (.tmp 51) = .int .i64 ((0:Nat):Int):=by rw[<- ha1];exact Zj (by simp[Act.put];omega)
 have e3:=(s0.eval (t:=3) (by decide)).trans h3
 have e6:=(s0.eval (t:=6) (by decide)).trans h6
 have e1:=(s0.eval (t:=1) (by decide)).trans h1
 have e2:=(s0.eval (t:=2) (by decide)).trans h2
 have e9:=(s0.eval (t:=9) (by decide)).trans h9
 have es:a1.tmps.size=82:=by rw[s0.size];exact hs
 have ed:a1.defers=[]:=by rw[s0.defers];exact hd
 clear ha1 h1 h2 h3 h6 h9 hs hd s0
 refine wp_block (wp_loop_ghost (fun(z:Nat) (a:Act) (w:World)=> ∃ (i:Nat) (Φi:Zv) (A L:List Tm) (c:Nat),z=ks.length - i∧i<=ks.length∧Φ.le Φi∧RnW W0 Φ0 X M K Tk m tk Mi mi Bt Br T Tr ct cr Φi (.slice (some ⟨B,0,none⟩) ks.length cap) L c w∧L=A++ks.drop i∧A.length=i ∧
   Yr tk σ τ 0 c0 ks=(A++(Yr tk σ τ i c (ks.drop i)).1,(Yr tk σ τ i c (ks.drop i)).2)∧c+Zo (ks.drop i)*(tk.length+1)<=4611686018427387904∧a.eval (.tmp 3) = .pointer (some ⟨Bt,0,none⟩)∧a.eval (.tmp 6) = .pointer (some ⟨Br,0,none⟩)∧a.eval (.tmp 1) = .map (some M)∧a.eval (.tmp 2)=X4 K Tk∧a.eval (.tmp 9) = .map (some Mi) ∧
   a.eval (.tmp 50) = .int .i64 (ks.length:Int)∧a.eval (.tmp 51) = .int .i64 (i:Int)∧a.tmps.size=82∧a.defers=[]) _ ⟨0,Φ,[],ks,c0,rfl,Nat.zero_le _,.refl _,h,rfl,rfl,rfl,by simpa using hcnt,e3,e6,e1,e2,e9,e50,e51,es,ed⟩ ?_)
 clear h e1 e2 e3 e6 e9 e50 e51 es ed a1 a w
 rintro z a w ⟨i,Φi,A,L,c,rfl,hi,hle,h,hLe,hA,hst,hci,e3,e6,e1,e2,e9,e50,e51,es,ed⟩
 unfold EH
 refine wp_seq (a2s (o:=nX 10 0) (op:=.lss) (t:=3) (t':=3) (d:=52) (x:=.tmp 51) (y:=.tmp 50) (b:=decide ((i:Int)<(ks.length:Int))) (by kernel_rfl) (by kernel_rfl) (by kernel_rfl) (by kernel_rfl) e51 e50 (.inl ⟨rfl,rfl⟩) ?_)
 have s1:SameT [52] a (a.put (some 52) (.bool (decide ((i:Int)<(ks.length:Int))))):=(SameT.refl _ _).put (by simp) _
 have e52:(a.put (some 52) (.bool (decide ((i:Int)<(ks.length:Int))))).eval (.tmp 52) = .bool (decide ((i:Int)<(ks.length:Int))):=Zj (by omega)
 generalize a.put (some 52) (.bool (decide ((i:Int)<(ks.length:Int))))=a1 at s1 e52 ⊢
 by_cases hlt:i<ks.length
 ·have hb:decide ((i:Int)<(ks.length:Int))=true:=by simpa using hlt
  rw[hb]at e52
  refine wp_seq (wp_cond (t:=true) e52 (wp_skip ?_))
  refine wp_seq (wp_block (wp_seq (c6t (o:=nX 11 0) (o1:=nX 11 1) (d:=53) (e:=10) (x:=51) (by kernel_rfl) (by kernel_rfl) (by kernel_rfl) (by kernel_rfl) (by kernel_rfl) (by kernel_rfl) (by kernel_rfl) ((s1.eval (by decide)).trans e51) (by rw[s1.size];omega) ?_)))
  generalize ha2:(a1.put (some 53) (.int .i64 (i:Int))).put (some 10) (.int .i64 (i:Int))=a2
  have s2:SameT [52,53,10] a a2:=by
   have s1':SameT [52,53,10] a a1:=⟨s1.size,s1.defers,fun t ht=>s1.tmp t (by simp at ht ⊢;omega)⟩
   rw[<- ha2]
   exact(s1'.put (by simp) _).put (by simp) _
  have f10:a2.eval (.tmp 10) = .int .i64 (i:Int):=by rw[<- ha2];exact Zj (by simp[Act.put,s1.size];omega)
  refine wp_seq (d8s (o:=nX 12 0) (o1:=nX 12 1) (d:=54) (e:=55) (x:=10) (t:=3) (t':=3) (b:=decide ((i:Int)=0)) (by kernel_rfl) (by kernel_rfl) (by kernel_rfl) (by kernel_rfl) (by kernel_rfl) (by kernel_rfl) (by kernel_rfl) f10 (by rw[s2.size];omega) rfl ?_)
  generalize ha3:(a2.put (some 54) (.int .i64 (i:Int))).put (some 55) (.bool (decide ((i:Int)=0)))=a3
  have s3:SameT [52,53,10,54,55] a a3:=by
   have s2':SameT [52,53,10,54,55] a a2:=⟨s2.size,s2.defers,fun t ht=>s2.tmp t (by simp at ht ⊢;omega)⟩
   rw[<- ha3]
   exact(s2'.put (by simp) _).put (by simp) _
  have g10:a3.eval (.tmp 10) = .int .i64 (i:Int):=by rw[<- ha3,Za (by decide),Za (by decide)];exact f10
  have g55:a3.eval (.tmp 55) = .bool (decide ((i:Int)=0)):=by rw[<- ha3];exact Zj (by simp[Act.put,s2.size];omega)
  have g3:=(s3.eval (t:=3) (by decide)).trans e3
  have g1:=(s3.eval (t:=1) (by decide)).trans e1
  have g2:=(s3.eval (t:=2) (by decide)).trans e2
  have g9:=(s3.eval (t:=9) (by decide)).trans e9
  have gs:a3.tmps.size=82:=by rw[s3.size];exact es
  clear ha2 ha3 f10 s2 s1 e52
  have hLl:L.length=ks.length:=by rw[hLe,List.length_append,List.length_drop];omega
  have hLne:L≠[]:=fun e=>by rw[e]at hLl;simp at hLl;omega
  obtain⟨_,cs,Xs,us,hr,ho⟩:=c2w h.own hLne
  have hdrop:ks.drop i=ks[i]::ks.drop (i+1):=List.drop_eq_getElem_cons hlt
  generalize hk:ks[i]=k at hdrop
  have hmem:k∈ks:=hk▸List.getElem_mem hlt
  have hLi:L[i]? = some k:=by rw[hLe,hdrop,List.getElem?_append_right (by omega),hA,Nat.sub_self];rfl
  have hLs : ∀ k',L.set i k'=(A++[k'])++ks.drop (i+1):=fun k'=>by rw[hLe,hdrop,<- hA,d2j,List.append_assoc];rfl
  have hcs:ks.length*10<=cs.size:=by rw[hr.size];exact Nat.mul_le_mul_right 10 (by have:=hr.len;omega)
  have hBX:X B:=(hr.X B).2 (.inl rfl)
  have hne2:Bt≠B:=by have:=h.hBt;have:=(hXs B hBX).1;omega
  rw[hdrop,Zo,Nat.add_mul]at hci
  rw[hdrop,Yr]at hst
  -- the call's premise,with either map
  have pre : ∀ (Mb:Nat) (mb ρ:List (Str×Str)) (w1:World),w1.heap=w.heap->Jb mb ρ->Env3 Φi w Mb K Tk mb c tk->(Mb=M∨W0.heap.size<=Mb)->RenPre Φi w1 (Xs i) (us i) Mb K Tk mb ρ c tk k ((cs.toList.drop (i*10)).take 10):=by
   intro Mb mb ρ w1 hw1 hsame hE hMb
   have hmul:=Nat.mul_le_mul_right 10 (show i+1<=ks.length from hlt)
   have hXi : ∀ b,Xs i b->X b:=fun b hb=>(hr.X b).2 (.inr ⟨i,by omega,hb⟩)
   have hnode:=hr.node i k hLi
   have hkd:=hr.kid i (by omega)
   have hgx : ∀ q,q<10->((cs.toList.drop (i*10)).take 10)[q]? = cs[i*10+q]? :=fun q hq=>by rw[List.getElem?_take,if_pos hq,List.getElem?_drop,Array.getElem?_toList]
   refine⟨hL.mono h.le,fun b q hq=> ?_,by simp;omega,?_,?_,(hgx 9 (by omega)).trans hkd.1,(ho i k hLi).mono (.refl _) (fun b hb=>((ho i k hLi).out b hb).2.1) (fun b _=>by rw[hw1]),hE.mono (.refl _) ⟨hE.pM,hE.pK,hE.pT⟩ (by rw[hw1];exact⟨rfl,rfl,rfl⟩),fun b hb=> ?_,hsame,htk,by omega,hw k hmem⟩
   ·obtain⟨T',fz,hh⟩:=h.phi b q hq
    exact⟨T',fz,by rw[hw1];exact hh⟩
   ·intro v hv
    obtain⟨q,hq,rfl⟩:=List.getElem_of_mem hv
    have hq10:q<10:=by simp at hq;omega
    have hv':((cs.toList.drop (i*10)).take 10)[q]? = some ((cs.toList.drop (i*10)).take 10)[q]:=List.getElem?_eq_getElem hq
    rw[hgx q hq10]at hv'
    by_cases h9:q=9
    ·subst h9
     rw[hkd.1]at hv'
     rw[<- Option.some.inj hv']
     exact hkd.2
    ·obtain⟨p,hp⟩ : ∃ p,(EX k.n)[q]? = some p:=⟨_,List.getElem?_eq_getElem (show q<(EX k.n).length from by show q<9;omega)⟩
     obtain⟨v',r1,r2,r3⟩:=hnode q p hp
     rw[r1]at hv'
     rw[<- Option.some.inj hv']
     exact r2
   ·intro q p hp
    obtain⟨v',r1,r2,r3⟩:=hnode q p hp
    have hq:q<9:=(List.getElem?_eq_some_iff.1 hp).1
    refine⟨v',?_,r2,r3⟩
    rw[Nat.zero_add,List.getElem?_toArray,hgx q (by omega)]
    exact r1
   ·have:=hXs b (hXi b hb)
    refine⟨?_,this.2.2⟩
    rcases hMb with rfl|hMb
    ·exact this.2.1
    ·omega
  -- what is left behind either call
  have fin : ∀ (Mb:Nat) (mb ρ:List (Str×Str)) (Ls:List Nat) (a4:Act) (w4:World),(Mb=M∧mb=m∨Mb=Mi∧mb=mi)->ρ=(if i=0 then σ else τ)->SameT Ls a3 a4->(∀ t∈[1,2,3,6,9,50,51],t ∉ Ls)-> 
    (∃ e w2 vs,KH Φi {w with drawn:=w.drawn+1} (Xs i) (us i) Mb K Tk mb ρ c tk k e w2∧e = .returned (.agg vs)∧w4=w2.setRow B (splice cs.toList (i*10) vs.toList).toArray) ->
    (Code.region 15 (nO 15) false).wp Tryz.prog (Exit.then (fun a' w'=> ∃ n_1,n_1<ks.length - i∧ ∃ (i:Nat) (Φi:Zv) (A L:List Tm) (c:Nat),n_1=ks.length - i∧i<=ks.length∧Φ.le Φi∧RnW W0 Φ0 X M K Tk m tk Mi mi Bt Br T Tr ct cr Φi (.slice (some ⟨B,0,none⟩) ks.length cap) L c w'∧L=A++ks.drop i∧A.length=i ∧
   Yr tk σ τ 0 c0 ks=(A++(Yr tk σ τ i c (ks.drop i)).1,(Yr tk σ τ i c (ks.drop i)).2)∧c+Zo (ks.drop i)*(tk.length+1)<=4611686018427387904∧a'.eval (.tmp 3) = .pointer (some ⟨Bt,0,none⟩)∧a'.eval (.tmp 6) = .pointer (some ⟨Br,0,none⟩)∧a'.eval (.tmp 1) = .map (some M)∧a'.eval (.tmp 2)=X4 K Tk∧a'.eval (.tmp 9) = .map (some Mi) ∧
   a'.eval (.tmp 50) = .int .i64 (ks.length:Int)∧a'.eval (.tmp 51) = .int .i64 (i:Int)∧a'.tmps.size=82∧a'.defers=[]) (Exit.inBlock 0 (Exit.then (((Code.region 16 (nO 16) false).seq .ret).wp Tryz.prog fun e a w=>e = .ret∧rnN Φ0 W0 X (.slice (some ⟨B,0,none⟩) ks.length cap) M K Tk m σ cc tk t a w) fun e a w=>e = .ret∧rnN Φ0 W0 X (.slice (some ⟨B,0,none⟩) ks.length cap) M K Tk m σ cc tk t a w))) a4 w4:=by
   intro Mb mb ρ Ls a4 w4 hMb hρ s4 hLs4 ⟨e,w2,vs,hpost,he,hw4⟩
   obtain⟨vs',Φ',rfl,q1,q2,q3,q4,q5,q6,q7,q8,q9,q10,q11,q12,q13,q14⟩:=hpost
   have hvv:vs=vs'.toArray:=by injection he with he;injection he with he;exact he.symm
   subst hvv hw4
   have ev : ∀ t,t∈[1,2,3,6,9,50,51]->a4.eval (.tmp t)=a.eval (.tmp t):=fun t ht=>(s4.eval (hLs4 t ht)).trans (s3.eval ((show ∀ t∈[1,2,3,6,9,50,51],t ∉ [52,53,10,54,55] by decide) t ht))
   have es4:a4.tmps.size=82:=by rw[s4.size];exact gs
   have hnx:=h.next hLl hXs hr ho (by omega) (w1:={w with drawn:=w.drawn+1}) rfl rfl rfl rfl hMb q1 q2 q3 q4 q5 q6 q7 q8 q9 q10 q11 q12 q13 q14
   have hc':=CZ tk ρ c k
   refine c6z (o:=nX 15 0) (o1:=nX 15 1) (t:=3) (t':=3) (d:=80) (x:=51) (by kernel_rfl) (by kernel_rfl) (by kernel_rfl) (by kernel_rfl) (by kernel_rfl) (by kernel_rfl) (by kernel_rfl) ((ev 51 (by decide)).trans e51) (by omega) ?_
   rw[next (show i<9223372036854775807 by omega)]
   refine⟨ks.length - (i+1),by omega,i+1,Φ',A++[(Y9 tk ρ c k).1],L.set i (Y9 tk ρ c k).1,(Y9 tk ρ c k).2,rfl,hlt,hle.trans q7,?_,hLs _,by simp[hA],?_,by omega,?_,?_,?_,?_,?_,?_,Zj (by simp[Act.put];omega),by simp[Act.put];omega,by show a4.defers=[];rw[s4.defers,s3.defers,ed]⟩
   ·simpa using hnx
   ·rw[hst,hρ]
    simp only[List.append_assoc,List.singleton_append]
   ·rw[Za (by decide),Za (by decide)];exact(ev 3 (by decide)).trans e3
   ·rw[Za (by decide),Za (by decide)];exact(ev 6 (by decide)).trans e6
   ·rw[Za (by decide),Za (by decide)];exact(ev 1 (by decide)).trans e1
   ·rw[Za (by decide),Za (by decide)];exact(ev 2 (by decide)).trans e2
   ·rw[Za (by decide),Za (by decide)];exact(ev 9 (by decide)).trans e9
   ·rw[Za (by decide),Za (by decide)];exact(ev 50 (by decide)).trans e50
  have hBtX : ¬ Xs i Bt:=fun hx=>by have:=(hXs Bt ((hr.X Bt).2 (.inr ⟨i,by omega,hx⟩))).1;have:=h.hBt;omega
  have hBtK:Bt≠K∧Bt≠Tk:=by have:=h.hM;have:=h.hBt;omega
  have nMb : ∀ (Mb:Nat) {mb:List (Str×Str)},(Mb=M∧mb=m∨Mb=Mi∧mb=mi)->Bt≠Mb∧B≠Mb:=by
   rintro Mb mb (⟨rfl,_⟩|⟨rfl,_⟩)
   ·exact⟨by have:=h.hM;have:=h.hBt;omega,(hXs B hBX).2.1⟩
   ·refine⟨h.neM.1,?_⟩
    rcases h.hMi with ⟨h5,_⟩|h5
    ·rw[h5];exact(hXs B hBX).2.1
    ·have:=(hXs B hBX).1;omega
  by_cases h0:i=0
  ·have h0':decide ((i:Int)=0)=true:=by simpa using h0
   refine wp_cond (t:=true) (by rw[g55,h0']) ?_
   refine wp_mono (raR (K:=fun a4 w4=>SameT [56,57,58,59,60,61,62,63,64,65,66,67] a3 a4∧ ∃ e w2 vs,KH Φi {w with drawn:=w.drawn+1} (Xs i) (us i) M K Tk m σ c tk k e w2∧e = .returned (.agg vs)∧w4=w2.setRow B (splice cs.toList (i*10) vs.toList).toArray) (x1:=.map (some M)) (x2:=X4 K Tk) h.bt hkid hr.heap hne2 hlt hcs g3 g10 g1 g2 gs
    (ih k hmem Φi {w with drawn:=w.drawn+1} (Xs i) (us i) M m σ c _ (pre M m σ _ rfl hm h.env (.inl rfl))) ?_) ?_
   ·intro e w2 hpost
    have hpost':=hpost
    obtain⟨vs,Φ',rfl,q1,q2,q3,q4,q5,q6,q7,q8,q9,q10,q11⟩:=hpost'
    exact⟨vs,rfl,q1,q2,q10 Bt (Yw h.bt) hBtX (nMb M (.inl ⟨rfl,rfl⟩)).1 hBtK.1 hBtK.2,q10 B (Yw hr.heap) (hr.top i (by omega)) (nMb M (.inl ⟨rfl,rfl⟩)).2 (hXs B hBX).2.2.1 (hXs B hBX).2.2.2,fun a' hs'=>⟨hs',_,w2,_,hpost,rfl,rfl⟩⟩
   ·rintro e a4 w4 ⟨rfl,hs4,hex⟩
    exact fin M m σ _ a4 w4 (.inl ⟨rfl,rfl⟩) (by rw[if_pos h0]) hs4 (by decide) hex
  ·have h0':decide ((i:Int)=0)=false:=by simpa using h0
   refine wp_cond (t:=false) (by rw[g55,h0']) ?_
   refine wp_mono (rbR (K:=fun a4 w4=>SameT [68,69,70,71,72,73,74,75,76,77,78,79] a3 a4∧ ∃ e w2 vs,KH Φi {w with drawn:=w.drawn+1} (Xs i) (us i) Mi K Tk mi τ c tk k e w2∧e = .returned (.agg vs)∧w4=w2.setRow B (splice cs.toList (i*10) vs.toList).toArray) (x9:=.map (some Mi)) (x2:=X4 K Tk) h.bt hkid hr.heap hne2 hlt hcs g3 g10 g9 g2 gs
    (ih k hmem Φi {w with drawn:=w.drawn+1} (Xs i) (us i) Mi mi τ c _ (pre Mi mi τ _ rfl hmi h.envI (h.hMi.imp (fun h=>h.1) id))) ?_) ?_
   ·intro e w2 hpost
    have hpost':=hpost
    obtain⟨vs,Φ',rfl,q1,q2,q3,q4,q5,q6,q7,q8,q9,q10,q11⟩:=hpost'
    exact⟨vs,rfl,q1,q2,q10 Bt (Yw h.bt) hBtX (nMb Mi (.inr ⟨rfl,rfl⟩)).1 hBtK.1 hBtK.2,q10 B (Yw hr.heap) (hr.top i (by omega)) (nMb Mi (.inr ⟨rfl,rfl⟩)).2 (hXs B hBX).2.2.1 (hXs B hBX).2.2.2,fun a' hs'=>⟨hs',_,w2,_,hpost,rfl,rfl⟩⟩
   ·rintro e a4 w4 ⟨rfl,hs4,hex⟩
    exact fin Mi mi τ _ a4 w4 (.inr ⟨rfl,rfl⟩) (by rw[if_neg h0]) hs4 (by decide) hex
 ·have hb:decide ((i:Int)<(ks.length:Int))=false:=by simpa using hlt
  rw[hb]at e52
  refine wp_seq (wp_cond (t:=false) e52 (wp_exit ?_))
  have hii:i=ks.length:=by omega
  subst hii
  rw[List.drop_length]at hst hLe
  rw[Yr]at hst
  have g3:=(s1.eval (t:=3) (by decide)).trans e3
  have g6:=(s1.eval (t:=6) (by decide)).trans e6
  refine a3a g3 g6 (by rw[s1.size];exact es) (by rw[s1.defers];exact ed) h.bt h.br hct hcr ho1 ?_
  have oth : ∀ b,b≠Br->(w.setRow Br ct).heap[b]? = w.heap[b]? :=fun b hne'=>setRow_other w Br b _ hne'
  have hXB : ∀ b,X b->b≠Br:=fun b hb=>by have:=(hXs b hb).1;have:=h.hBr;omega
  rw[List.append_nil]at hLe
  subst hLe
  refine⟨ct.toList,Φi,by simp,by simpa using hct,ho1,?_,by simpa using hkid,?_,?_,h.le,?_,h.dom,?_,?_,?_,?_,?_⟩
  ·rw[hstd]
   simpa using hnd.mono hle
  ·rw[hstd,hst]
   show OwnK Φi _ X _ (L++[])
   rw[List.append_nil]
   exact h.own.mono (.refl _) (fun b hb=>(h.own.out b hb).2.1) fun b hb=>oth b (hXB b hb)
  ·rw[hstd,hst]
   have:=h.hM;have:=h.hBr
   exact h.env.mono (.refl _) ⟨h.env.pM,h.env.pK,h.env.pT⟩ ⟨oth _ (by omega),oth _ (by omega),oth _ (by omega)⟩
  ·intro b q hq
   obtain⟨T',fz,hh⟩:=h.phi b q hq
   have hneb:b≠Br:=fun e=>by rw[e,h.pBr]at hq;cases hq
   exact⟨T',fz,(oth b hneb).trans hh⟩
  ·intro b hb q1 q2 q3 q4
   have:=h.hBr
   exact(oth b (by omega)).trans (h.frame b hb q1 q2 q3 q4)
  ·rw[setRow_os];exact h.os
  ·rw[setRow_tape];exact h.tape
  ·rw[setRow_output];exact h.output
  ·rw[setRow_size];exact h.size
theorem c1y{W0:World}{Φ0:Zv}{X:Nat->Prop}{M K Tk:Nat}{m σ:List (Str×Str)}{tk:List Str}{Mi:Nat}{mi τ:List (Str×Str)}{Bt Br T Tr:Nat}{ct cr:Array Value}{Φ:Zv}{c0 cc cap:Nat}{p:Option Addr}{n':Nd}{t:Tm}{a:Act}{w:World}
  (hX : ∀ b,X b->b<W0.heap.size) (hstd:Y9 tk σ cc t=(.mk n' (Yr tk σ τ 0 c0 []).1,(Yr tk σ τ 0 c0 []).2)) (hct:ct.size=10) (hcr:cr.size=10) (ho1:Z6 ct.toList) (hnd:Wd Φ ct 0 n') (hkid:ct[9]? = some (.slice p 0 cap))
  (h:RnW W0 Φ0 X M K Tk m tk Mi mi Bt Br T Tr ct cr Φ (.slice p 0 cap) [] c0 w) (h3:a.eval (.tmp 3) = .pointer (some ⟨Bt,0,none⟩)) (h6:a.eval (.tmp 6) = .pointer (some ⟨Br,0,none⟩)) (hs:a.tmps.size=82) (hd:a.defers=[]) :
  Bz.wp Tryz.prog (fun e a w=>e = .ret∧rnN Φ0 W0 X (.slice p 0 cap) M K Tk m σ cc tk t a w) a w:=by
 unfold Bz
 refine wp_seq (wp_seq (a2d (p:=p) (n:=0) (c:=cap) (o:=nX 9 0) (o1:=nX 9 1) (o2:=nX 9 2) (o3:=nX 9 3) (s:=28) (t:=26) (b:=3) (f:=7) (off:=9) (d1:=48) (d2:=49) (d3:=50) (d4:=51) (by kernel_rfl) (by kernel_rfl) (by kernel_rfl) (by kernel_rfl) (by kernel_rfl) (by kernel_rfl) (by kernel_rfl) (by kernel_rfl) (by kernel_rfl)
  (by kernel_rfl) (by kernel_rfl) (by kernel_rfl) (by kernel_rfl) (by kernel_rfl) (by kernel_rfl) (by kernel_rfl) h3 (by simp[World.cell?,h.bt,hkid]) (by omega) (by omega) ?_))
 generalize ha1:(((a.put (some 48) (.pointer (some ⟨Bt,9,none⟩))).put (some 49) (.slice p 0 cap)).put (some 50) (.int .i64 ((0:Nat):Int))).put (some 51) (.int .i64 0)=a1
 have s0:SameT [48,49,50,51] a a1:=by rw[<- ha1];exact((((SameT.refl _ _).put (by simp) _).put (by simp) _).put (by simp) _).put (by simp) _
 have e50:a1.eval (.tmp 50) = .int .i64 ((0:Nat):Int):=by rw[<- ha1,Za (by decide)];exact Zj (by simp[Act.put];omega)
 have e51:a1.eval (.tmp 51) = .int .i64 ((0:Nat):Int):=by rw[<- ha1];exact Zj (by simp[Act.put];omega)
 have e3:=(s0.eval (t:=3) (by decide)).trans h3
 have e6:=(s0.eval (t:=6) (by decide)).trans h6
 have es:a1.tmps.size=82:=by rw[s0.size];exact hs
 have ed:a1.defers=[]:=by rw[s0.defers];exact hd
 refine wp_block (wp_loop_ghost (fun(z:Nat) (a:Act) (w':World)=>a1=a∧w=w') 0 ⟨rfl,rfl⟩ ?_)
 rintro z _ _ ⟨rfl,rfl⟩
 unfold EH
 refine wp_seq (a2s (o:=nX 10 0) (op:=.lss) (t:=3) (t':=3) (d:=52) (x:=.tmp 51) (y:=.tmp 50) (b:=decide (((0:Nat):Int)<((0:Nat):Int))) (by kernel_rfl) (by kernel_rfl) (by kernel_rfl) (by kernel_rfl) e51 e50 (.inl ⟨rfl,rfl⟩) ?_)
 refine wp_seq (wp_cond (t:=false) (Zj (by omega)) (wp_exit ?_))
 refine a3a (a:=_) ((Za (by decide)).trans e3) ((Za (by decide)).trans e6) (by simp[Act.put];omega) ed h.bt h.br hct hcr ho1 ?_
 have oth : ∀ b,b≠Br->(w.setRow Br ct).heap[b]? = w.heap[b]? :=fun b hne'=>setRow_other w Br b _ hne'
 rw[Yr]at hstd
 refine⟨ct.toList,Φ,by simp,by simpa using hct,ho1,?_,by simpa using hkid,?_,?_,h.le,?_,h.dom,?_,?_,?_,?_,?_⟩
 ·rw[hstd]
  simpa using hnd
 ·rw[hstd]
  exact h.own.mono (.refl _) (fun b hb=>(h.own.out b hb).2.1) fun b hb=>oth b (by have:=hX b hb;have:=h.hBr;omega)
 ·rw[hstd]
  have:=h.hM;have:=h.hBr
  exact h.env.mono (.refl _) ⟨h.env.pM,h.env.pK,h.env.pT⟩ ⟨oth _ (by omega),oth _ (by omega),oth _ (by omega)⟩
 ·intro b q hq
  obtain⟨T',fz,hh⟩:=h.phi b q hq
  have hneb:b≠Br:=fun e=>by rw[e,h.pBr]at hq;cases hq
  exact⟨T',fz,(oth b hneb).trans hh⟩
 ·intro b hb q1 q2 q3 q4
  have:=h.hBr
  exact(oth b (by omega)).trans (h.frame b hb q1 q2 q3 q4)
 ·rw[setRow_os];exact h.os
 ·rw[setRow_tape];exact h.tape
 ·rw[setRow_output];exact h.output
 ·rw[setRow_size];exact h.size
theorem Rk{Φ:Zv}{v:Value}{k:IntKind}{n:Int}(h:RP Φ v (.int k n)):v = .int k n:=by cases h;rfl
theorem d1w{Φ:Zv}{v x:Value}(h:RP Φ v (.raw x)):v=x:=by cases h;rfl
theorem b1p{μ:Mu}{Φ:Zv}{v:Value}{l B C S:Nat}(h:R μ Φ v (.map l))(e:μ l 0=some (B,C,S)):v = .map (some B):=by
 cases h with
 | map _ B' C' S' h=>rw[e]at h;cases h;rfl
theorem Cg{μ:Mu}{Φ:Zv}{v:Value}{l o B C S:Nat}(h:R μ Φ v (.ptr l o))(e:μ l 0=some (B,C,S)):v = .pointer (some ⟨B,o,none⟩):=by
 cases h with
 | ptr _ _ B' C' S' h=>rw[e]at h;cases h;rfl
theorem b5u{Φ:Zv}{w0:World}{X:Nat->Prop}{u:Value}{M K Tk:Nat}{m σ:List (Str×Str)}{c:Nat}{tk:List Str}{n:Nd}{ks:List Tm}{cs:List Value}(hp:RenPre Φ w0 X u M K Tk m σ c tk (.mk n ks) cs){v5 v6 v7 v8:Value}(hv5:cs[5]? = some v5)(hv6:cs[6]? = some v6)(hv7:cs[7]? = some v7)(hv8:cs[8]? = some v8)
  {s:Str} {m':List (Str×Str)} {c':Nat} {st:St} {a:Act} {w:World} (hR:urR n v5 v6 v7 v8 u m tk s m' c' 0 st) (hr:XU (ZZ (μ3 M K Tk) Φ (YD (os3 m c tk)) w0) st a w) :
  ∃ (Mi Bt Br T Tr:Nat) (ct cr:Array Value) (Φ1:Zv),RnW w0 Φ X M K Tk m tk Mi m' Bt Br T Tr ct cr Φ1 u ks c' w∧ct.size=10∧cr.size=10∧Z6 ct.toList∧Wd Φ1 ct 0 (Cv n s)∧ct[9]? = some u∧a.eval (.tmp 3) = .pointer (some ⟨Bt,0,none⟩)∧a.eval (.tmp 6) = .pointer (some ⟨Br,0,none⟩) ∧
   a.eval (.tmp 1) = .map (some M)∧a.eval (.tmp 2)=X4 K Tk∧a.eval (.tmp 9) = .map (some Mi)∧a.tmps.size=82∧a.defers=[]:=by
 obtain⟨_,b,rfl,hb⟩:=hR
 obtain⟨μ,Φ1,hg,he,hd⟩:=hr
 obtain⟨lM,lK,lT⟩:=hp.env.lt
 have n1:=hp.env.n1;have n2:=hp.env.n2;have n3:=hp.env.n3
 have hgσ:=hg
 generalize hσ:(b2w n v5 v6 v7 v8 u m tk s m' c' b).heap=σ' at hg
 have o0:σ'[0]? = some (.obj (.map (Yj m))):=by rw[<- hσ];rfl
 have o1:σ'[1]? = some (.obj (.box [.pv (.int .i64 (c':Int))])):=by rw[<- hσ];rfl
 have o2:σ'[2]? = some (.obj (.box [.pv (enc tk)])):=by rw[<- hσ];rfl
 have o3:σ'[3]? = some (.obj (.box (DJ (Cv n s) v5 v6 v7 v8 u))):=by rw[<- hσ];rfl
 have o4 : ∃ z:List AV,z.length=10∧σ'[4]? = some (.obj (.box z)):=⟨_,rfl,by rw[<- hσ];rfl⟩
 obtain⟨z,hz,o4⟩:=o4
 have u0:μ 0 0=some (M,0,0):=hg.μle 0 0 _ rfl
 have u1:μ 1 0=some (K,0,0):=hg.μle 1 0 _ rfl
 have u2:μ 2 0=some (Tk,0,0):=hg.μle 2 0 _ rfl
 obtain⟨B0,_,_,mes,ck,x0,a1,a2,a3,a4,a5⟩:=hg.obj 0 _ o0
 rw[u0]at x0;cases x0
 obtain⟨B1,_,_,T1,k1,x1,b1,b2,b3,b4⟩:=hg.obj 1 _ o1
 rw[u1]at x1;cases x1
 obtain⟨B2,_,_,T2,k2,x2,c1,c2,c3,c4⟩:=hg.obj 2 _ o2
 rw[u2]at x2;cases x2
 obtain⟨Bt,C3,S3,T,ct,x3,d1,d2,d3,d4⟩:=hg.obj 3 _ o3
 obtain⟨Br,C4,S4,Tr,cr,x4,f1,f2,f3,f4⟩:=hg.obj 4 _ o4
 have q0:blk μ 0 (.map (Yj m))=M:=by simp[blk,u0]
 have q1:blk μ 1 (.box [.pv (.int .i64 (c':Int))])=K:=by simp[blk,u1]
 have q2:blk μ 2 (.box [.pv (enc tk)])=Tk:=by simp[blk,u2]
 have q3:blk μ 3 (.box (DJ (Cv n s) v5 v6 v7 v8 u))=Bt:=by simp[blk,x3]
 have q4:blk μ 4 (.box z)=Br:=by simp[blk,x4]
 have hown : ∀ B,(ZZ (μ3 M K Tk) Φ (YD (os3 m c tk)) w0).own B ↔ B=M∨B=K∨B=Tk:=by
  intro B
  constructor
  ·rintro⟨l,o,ho,rfl⟩
   rcases Pw ho with ⟨rfl,rfl⟩|⟨rfl,rfl⟩|⟨rfl,rfl⟩
   ·exact .inl rfl
   ·exact .inr (.inl rfl)
   ·exact .inr (.inr rfl)
  ·rintro(rfl|rfl|rfl)
   ·exact⟨0,_,rfl,rfl⟩
   ·exact⟨1,_,rfl,rfl⟩
   ·exact⟨2,_,rfl,rfl⟩
 have new : ∀ l o,3<=l->σ'[l]? = some (.obj o)->w0.heap.size<=blk μ l o:=by
  intro l o hl ho
  rcases hg.own l o ho with h|h
  ·exact h
  ·exfalso
   rcases (hown _).1 h with h|h|h
   ·exact hg.apart l 0 _ _ (by omega) ho o0 (h.trans q0.symm)
   ·exact hg.apart l 1 _ _ (by omega) ho o1 (h.trans q1.symm)
   ·exact hg.apart l 2 _ _ (by omega) ho o2 (h.trans q2.symm)
 have hBt:w0.heap.size<=Bt:=by have:=new 3 _ (by omega) o3;rwa [q3]at this
 have hBr:w0.heap.size<=Br:=by have:=new 4 _ (by omega) o4;rwa [q4]at this
 have hne:Bt≠Br:=by have:=hg.apart 3 4 _ _ (by decide) o3 o4;rwa [q3,q4]at this
 have fr : ∀ B,B<w0.heap.size->B≠M->B≠K->B≠Tk->w.heap[B]? = w0.heap[B]? :=fun B h1 h2 h3 h4=>hg.frame B h1 (fun h=>by rcases (hown B).1 h with h|h|h <;> contradiction)
 have hdom : ∀ B cs,Φ1 B=some cs->Φ B=some cs∨w0.heap.size<=B:=fun B cs h=>by
  rcases hg.dom B cs h with h1|h1|h1
  ·exact .inl h1
  ·exact .inr h1
  ·exfalso
   rcases (hown B).1 h1 with h2|h2|h2
   ·rw[h2,a4]at h;cases h
   ·rw[h2,b4]at h;cases h
   ·rw[h2,c4]at h;cases h
 have hXn : ∀ B,X B->Φ1 B=none:=fun B hB=>by
  have ho:=hp.own.out B hB
  cases hq:Φ1 B with
  | none=>rfl
  | some q=>
   rcases hdom B q hq with h|h
   ·rw[ho.2.1]at h;cases h
   ·omega
 have hk1:k1 = #[.int .i64 (c':Int)]:=by
  obtain⟨v,hv,hr⟩:=RL.getAt b2 (j:=0) rfl
  have hl:k1.size=1:=by have:=b2.1;simpa using this
  have:=Rk (Z0 hr)
  subst this
  apply Array.ext
  ·simp[hl]
  ·intro i h1 h2
   have:i=0:=by omega
   subst this
   have hv:k1[0]? = some (.int .i64 (c':Int)):=by simpa using hv
   rw[Array.getElem?_eq_getElem h1]at hv
   simpa using hv
 obtain⟨tv,htv⟩ : ∃ tv,k2 = #[tv]∧RP Φ1 tv (enc tk)∧tv.oneCell'=true:=by
  obtain⟨v,hv,hr⟩:=RL.getAt c2 (j:=0) rfl
  have hl:k2.size=1:=by have:=c2.1;simpa using this
  refine⟨v,?_,Z0 hr,c3 v (List.mem_of_getElem? hv)⟩
  apply Array.ext
  ·simp[hl]
  ·intro i h1 h2
   have:i=0:=by omega
   subst this
   have hv:k2[0]? = some v:=by simpa using hv
   rw[Array.getElem?_eq_getElem h1]at hv
   simpa using hv
 have env:Env3 Φ1 w M K Tk m c' tk:=⟨⟨mes,ck,a1,a2,a3,a5⟩,⟨T1,by rw[<- hk1];exact b1⟩,⟨tv,T2,by rw[<- htv.1];exact c1,htv.2⟩,a4,b4,c4,n1,n2,n3⟩
 obtain⟨e82,eat⟩:=Be he
 have ev : ∀ (t:Nat) x,t<82->(((c8i (if b=true then 5 else 0)).find? (·.1==t)).map (·.2))=some x->R μ Φ1 (a.eval (.tmp t)) x:=fun t x ht hx=>by
  obtain⟨v,hv,hr⟩:=eat t x ht hx
  simpa [Act.eval,Array.getD_eq_getD_getElem?,hv]using hr
 obtain⟨Mi,hMi,hMv⟩ : ∃ Mi,(Env3 Φ1 w Mi K Tk m' c' tk∧((Mi=M∧m'=m)∨w0.heap.size<=Mi)∧Bt≠Mi∧Br≠Mi)∧a.eval (.tmp 9) = .map (some Mi):=by
  cases b with
  | false=>
   have:=hb rfl
   subst this
   exact⟨M,⟨env,.inl ⟨rfl,rfl⟩,by omega,by omega⟩,b1p (ev 9 (.map 0) (by decide) rfl) u0⟩
  | true=>
   have o5:σ'[5]? = some (.obj (.map (Yj m'))):=by rw[<- hσ];rfl
   obtain⟨B5,C5,S5,mes5,ck5,x5,g1,g2,g3,g4,g5⟩:=hg.obj 5 _ o5
   have q5:blk μ 5 (.map (Yj m'))=B5:=by simp[blk,x5]
   have h5:w0.heap.size<=B5:=by have:=new 5 _ (by omega) o5;rwa [q5]at this
   have h35:Bt≠B5:=by have:=hg.apart 3 5 _ _ (by decide) o3 o5;rwa [q3,q5]at this
   have h45:Br≠B5:=by have:=hg.apart 4 5 _ _ (by decide) o4 o5;rwa [q4,q5]at this
   exact⟨B5,⟨⟨⟨mes5,ck5,g1,g2,g3,g5⟩,env.num,env.tak,g4,b4,c4,by omega,by omega,n3⟩,.inr h5,h35,h45⟩,b1p (ev 9 (.map 5) (by decide) rfl) x5⟩
 have t2:a.eval (.tmp 2)=X4 K Tk:=by
  have h:=ev 2 (.fn 67 [] [.ptr 1 0,.ptr 2 0]) (by decide) rfl
  generalize a.eval (.tmp 2)=v at h
  cases h with
  | fn f cs ds xs ys hn hm h k=>
   have e1:cs = #[]:=by simpa using hn
   obtain⟨ds⟩:=ds
   match ds,hm,k with
   | [p,q],_,k=>
    have r1:=Cg (k 0 p _ rfl rfl) u1
    have r2:=Cg (k 1 q _ rfl rfl) u2
    subst r1 r2 e1
    rfl
 have hct:ct.size=10:=by have:=d2.1;simpa [DJ]using this
 have hcr:cr.size=10:=by have:=f2.1;simpa [hz]using this
 have ctr : ∀ (i:Nat) x,(DJ (Cv n s) v5 v6 v7 v8 u)[i]? = some x-> ∃ v,ct[i]? = some v∧v.oneCell'=true∧R μ Φ1 v x:=fun i x hx=>by
  obtain⟨v,hv,hr⟩:=RL.getAt d2 hx
  exact⟨v,by simpa using hv,d3 v (List.mem_of_getElem? hv),hr⟩
 have raw : ∀ (i:Nat) x,(DJ (Cv n s) v5 v6 v7 v8 u)[i]? = some (.pv (.raw x))->ct[i]? = some x∧x.oneCell'=true:=fun i x hx=>by
  obtain⟨v,h1,h2,h3⟩:=ctr i _ hx
  have:=d1w (Z0 h3)
  subst this
  exact⟨h1,h2⟩
 have hnd:Wd Φ1 ct 0 (Cv n s):=by
  intro i p hpp
  have hi:i<9:=(List.getElem?_eq_some_iff.1 hpp).1
  rw[Nat.zero_add]
  have old : ∀ (q:Nat) x p,cs[q]? = some x->(EX n)[q]? = some p->(DJ (Cv n s) v5 v6 v7 v8 u)[q]? = some (.pv (.raw x))-> ∃ v,ct[q]? = some v∧v.oneCell'=true∧RP Φ1 v p:=fun q x p hx hp' hu=>by
   obtain⟨v,r1,r2,r3⟩:=hp.nd q p hp'
   rw[Nat.zero_add,List.getElem?_toArray,hx]at r1
   cases r1
   exact⟨_,(raw q _ hu).1,r2,r3.mono hg.Φle⟩
  have lit : ∀ (q:Nat) p,(DJ (Cv n s) v5 v6 v7 v8 u)[q]? = some (.pv p)-> ∃ v,ct[q]? = some v∧v.oneCell'=true∧RP Φ1 v p:=fun q p hu=>by
   obtain⟨v,r1,r2,r3⟩:=ctr q _ hu
   exact⟨v,r1,r2,Z0 r3⟩
  match i,hi,hpp with
  | 0,_,hpp=>exact lit 0 p (by simp[EX]at hpp;subst hpp;rfl)
  | 1,_,hpp=>exact lit 1 p (by simp[EX]at hpp;subst hpp;rfl)
  | 2,_,hpp=>exact lit 2 p (by simp[EX]at hpp;subst hpp;rfl)
  | 3,_,hpp=>exact lit 3 p (by simp[EX]at hpp;subst hpp;rfl)
  | 4,_,hpp=>exact lit 4 p (by simp[EX]at hpp;subst hpp;rfl)
  | 5,_,hpp=>exact old 5 v5 p hv5 hpp rfl
  | 6,_,hpp=>exact old 6 v6 p hv6 hpp rfl
  | 7,_,hpp=>exact old 7 v7 p hv7 hpp rfl
  | 8,_,hpp=>exact old 8 v8 p hv8 hpp rfl
 refine⟨Mi,Bt,Br,T,Tr,ct,cr,Φ1,⟨hg.Φle,hg.phi,hdom,fun B h1 _ h2 h3 h4=>fr B h1 h2 h3 h4,hg.os,hg.tape,hg.output,hg.size,env,hMi.1,⟨lM,lK,lT⟩,hMi.2.1,hBt,hBr,hne,hMi.2.2,d4,f4,d1,f1,?_⟩,hct,hcr,d3,hnd,(raw 9 u rfl).1,Cg (ev 3 (.ptr 3 0) (by decide) (by cases b <;> rfl)) x3,Cg (ev 6 (.ptr 4 0) (by decide) (by cases b <;> rfl)) x4,
  b1p (ev 1 (.map 0) (by decide) (by cases b <;> rfl)) u0,t2,hMv,e82,hd⟩
 exact hp.own.mono hg.Φle hXn fun B hB=>fr B (hp.own.out B hB).1 (hp.out B hB).1 (hp.out B hB).2.1 (hp.out B hB).2.2
set_option maxHeartbeats 1000000 in
theorem a4i(hU:ZN Tryz.prog 67 Wq Uy)(hC:ZN Tryz.prog 92 VO UE)(K Tk:Nat)(tk:List Str): ∀ (z:Nat) (t:Tm),SizeOf.sizeOf t<z-> ∀ (Φ:Zv) (w:World) (X:Nat->Prop) (u:Value) (M:Nat) (m σ:List (Str×Str)) (c:Nat) (cs:List Value),RenPre Φ w X u M K Tk m σ c tk t cs ->
  Calls Tryz.prog 70 #[.agg cs.toArray,.map (some M),X4 K Tk] w (KH Φ w X u M K Tk m σ c tk t):=by
 intro z
 induction z with
 | zero=>intro t h;omega
 | succ z ih=>
  intro t ht Φ w X u M m σ c cs hp
  obtain⟨n,ks⟩:=t
  have hlen:=hp.len
  have get : ∀ q,q<10-> ∃ v,cs[q]? = some v:=fun q hq=>⟨_,List.getElem?_eq_getElem (by omega)⟩
  obtain⟨v5,h5⟩:=get 5 (by omega)
  obtain⟨v6,h6⟩:=get 6 (by omega)
  obtain⟨v7,h7⟩:=get 7 (by omega)
  obtain⟨v8,h8⟩:=get 8 (by omega)
  have hcnt:=hp.cnt
  rw[Zk,Nat.add_mul,Nat.one_mul]at hcnt
  have hkl:=(Yo hp.small).1
  -- the kids' slice
  obtain⟨p,b,rfl,hpn⟩ : ∃ p b,u = .slice p ks.length b∧(ks≠[]-> ∃ B,p=some ⟨B,0,none⟩):=by
   have ho:=hp.own
   generalize hq:Tm.kids (.mk n ks)=L at ho
   have hq:ks=L:=hq
   subst hq
   cases ho with
   | nil=>exact⟨_,_,rfl,fun h=>absurd rfl h⟩
   | row _ B=>exact⟨_,_,rfl,fun _=>⟨B,rfl⟩⟩
  have hE:YQ (μ3 M K Tk) Φ (#[.agg cs.toArray,.map (some M),X4 K Tk]++Array.replicate 79 undef) (Wh 82 [.pv (.agg [enc n.kind,enc n.line,enc n.name,enc n.num,enc n.elem,.raw v5,.raw v6,.raw v7,.raw v8,.raw (.slice p ks.length b)]),.map 0,.fn 67 [] [.ptr 1 0,.ptr 2 0]] (os3 m c tk)).env:=by
   show RL _ _ _ _
   rw[Array.toList_append,Array.toList_replicate]
   refine RL.append (RL.cons (.pv _ _ (.agg _ _ (by simp[hlen]) (fun v hv=>hp.ones v (by simpa using hv)) ?_)) (RL.cons (.map 0 M 0 0 rfl) (RL.cons (.fn _ _ _ _ _ rfl rfl (fun j v x hv hx=>by simp at hx) ?_) RL.nil))) (Yx _)
   ·intro j v x hv hx
    have hv:cs[j]? = some v:=by simpa using hv
    have h1:=hp.ones v (List.mem_of_getElem? hv)
    have lit : ∀ p,(EX n)[j]? = some p->RP Φ v p:=fun p hpp=>by
     obtain⟨v',r1,r2,r3⟩:=hp.nd j p hpp
     rw[Nat.zero_add,List.getElem?_toArray,hv]at r1
     rw[Option.some.inj r1]
     exact r3
    have hj:j<10:=(List.getElem?_eq_some_iff.1 hx).1
    match j,hj,hv,hx,lit with
    | 0,_,hv,hx,lit=>exact lit x hx
    | 1,_,hv,hx,lit=>exact lit x hx
    | 2,_,hv,hx,lit=>exact lit x hx
    | 3,_,hv,hx,lit=>exact lit x hx
    | 4,_,hv,hx,lit=>exact lit x hx
    | 5,_,hv,hx,_=>rw[h5]at hv;cases hv;cases hx;exact .raw _ h1
    | 6,_,hv,hx,_=>rw[h6]at hv;cases hv;cases hx;exact .raw _ h1
    | 7,_,hv,hx,_=>rw[h7]at hv;cases hv;cases hx;exact .raw _ h1
    | 8,_,hv,hx,_=>rw[h8]at hv;cases hv;cases hx;exact .raw _ h1
    | 9,_,hv,hx,_=>rw[hp.kid]at hv;cases hv;cases hx;exact .raw _ h1
   ·intro j v x hv hx
    match j,hv,hx with
    | 0,hv,hx=>cases hv;cases hx;exact .ptr 1 0 K 0 0 rfl
    | 1,hv,hx=>cases hv;cases hx;exact .ptr 2 0 Tk 0 0 rfl
    | j+2,hv,hx=>simp at hv
  have hic:Bw Tryz.prog c8v Tryz.f70=some VG:=by kernel_rfl
  obtain⟨cd,hb,htr⟩:=Gm hic
  refine calls_of_wp Tryz.func70 hb ?_
  have hT:ZO Tryz.prog QW:=Zl (Va Tryz.func67 (by kernel_rfl) hU) (Zl (Va Tryz.func92 (by kernel_rfl) hC) Zf)
  have hrun:=c4j (RR:=fun z S=>urR n v5 v6 v7 v8 (.slice p ks.length b) m tk (PD n ks.length m tk c).1 (PD n ks.length m tk c).2.1 (PD n ks.length m tk c).2.2 0 S∧z=0) n v5 v6 v7 v8 p ks.length b m c tk hp.tkl (by have:=hp.tkl;omega) (fun S h=>⟨h,rfl⟩)
  have h:=Ar (a:={tmps:=#[.agg cs.toArray,.map (some M),X4 K Tk]++Array.replicate 79 undef,defers:=[]}) (N:=rnN Φ w X (.slice p ks.length b) M K Tk m σ c tk (.mk n ks)) hT (by kernel_rfl) htr hrun (hp.env.good hp.glob hp.phi) hE rfl (fun i cd hx st' a' w' hR hr=>by
   obtain⟨hR,rfl⟩:=hR
   rw[c5e]at hx
   cases hx
   obtain⟨Mi,Bt,Br,T,Tr,ct,cr,Φ1,r0,r1,r2,r3,r4,r5,r6,r7,r8,r9,r10,r11,r12⟩:=b5u hp h5 h6 h7 h8 hR hr
   have hstd:=a1e (n:=n) (ks:=ks) (tk:=tk) (c:=c) hp.same
   have hle:= @b4x n ks.length m tk c
   by_cases hk:ks=[]
   ·subst hk
    exact c1y (τ:=urT n ([]:List Tm).length σ tk c) (fun B hB=>(hp.own.out B hB).1) hstd r1 r2 r3 r4 r5 r0 r6 r7 r11 r12
   ·obtain⟨B,rfl⟩:=hpn hk
    exact c5q (τ:=urT n ks.length σ tk c) hk (by omega) (Yo hp.small).2 hp.glob hp.tkl (fun B hB=>⟨(hp.own.out B hB).1,hp.out B hB⟩) hp.same (b2r hp.same) (fun k hk Φ w X u M m σ c cs hp'=>ih k (by have:=F7 (n:=n) hk;omega) Φ w X u M m σ c cs hp') hstd (by omega) r1 r2 r3 r4 r5 r0 r6 r7 r8 r9 r10 r11 r12)
  exact wp_mono h fun e a w h=>by obtain⟨rfl,h⟩:=h;exact h
end Go.Proofs.YtgdebdgkofkeeaaGreatDoor
namespace Go.Proofs.YtgdebdgkofkeeaaGreatDoor
open Go.RowKit Go.Pl
open Enc (enc dec is)
open EncL (encL decL isL)
set_option maxRecDepth 100000
theorem b6v{P:Program}{f:Nat}{α β:Type}[EncL α][Enc β]{pre:α->Bool}{F:α->β}(h : ∀ a,pre a=true-> ∀ (Φ:Zv) w (vs:Array Value),GlobOK Φ->Yn Φ w->XT Φ vs.toList (encL a) ->
  Calls P f vs w fun e w'=> ∃ v Φ',e = .returned v∧Zv.le Φ Φ'∧Yn Φ' w'∧RP Φ' v (enc (F a))∧Below w.heap.size w w'∧ ∀ b cs,Φ' b=some cs->Φ b=some cs∨w.heap.size<=b):Zr P f pre F:=by
 intro ps hps Φ w vs hL hΦ hv
 simp only[preT,Bool.and_eq_true]at hps
 have hsub:=EncL.subL ps hps.1
 refine(h (decL ps) hps.2 Φ w vs hL hΦ ⟨hv.1.trans hsub.1,fun j v x hv' hx=> ?_⟩).mono fun e w' h=>h
 have hj:j<ps.length:=by rw[hsub.1];exact(List.getElem?_eq_some_iff.1 hx).1
 exact hsub.2 j _ _ (List.getElem?_eq_getElem hj) hx _ _ (hv.2 j v _ hv' (List.getElem?_eq_getElem hj))
theorem c5j{Φ:Zv}{vs:List Value}{n:Nd}{ks:List Tm}{u:Value}(hl:vs.length=10)(h1:Z6 vs)(hn:Wd Φ vs.toArray 0 n)(hu:vs[9]? = some u)(hk:RP Φ u (enc ks)):RP Φ (.agg vs.toArray) (enc (Tm.mk n ks)):=by
 rw[Zx]
 refine .agg _ _ (by simp[hl]) (fun v hv=>h1 v (by simpa using hv)) fun j v x hv hx=> ?_
 have hv:vs[j]? = some v:=by simpa using hv
 have hj:j<10:=(List.getElem?_eq_some_iff.1 hx).1
 by_cases h9:j=9
 ·subst h9
  rw[hu]at hv
  cases hv
  cases hx
  exact hk
 ·obtain⟨v',r1,r2,r3⟩:=hn j x (by
   match j,hj,h9,hx with
   | 0,_,_,hx|1,_,_,hx|2,_,_,hx|3,_,_,hx|4,_,_,hx|5,_,_,hx|6,_,_,hx|7,_,_,hx|8,_,_,hx=>exact hx
   | 9,_,h9,_=>exact absurd rfl h9)
  rw[Nat.zero_add,List.getElem?_toArray,hv]at r1
  rw[Option.some.inj r1]
  exact r3
theorem b1f(l:List Str):(V6 l).length<=l.length:=by
 unfold V6 YJ
 rw[List.length_map,List.length_mergeSort,List.length_map]
 have:=VV l []
 have e:Y8 l=l.foldl Y2 []:=rfl
 rw[e]
 simpa using this
theorem a4p(t:Tm):(ZX t).length<=Zk t:=Nat.le_trans (b1f _) (U0 [] t)
noncomputable def sdB:Code:=Tryz.f30.body.getD .skip
noncomputable def sO(i:Nat):Array Oper:=Q4 sdB i
noncomputable def sX(i k:Nat):Oper:=(sO i).getD k default
def c7x:Code->Bool
 | .seq (.region 4 _ _) .ret=>true
 | _=>false
noncomputable def OB:Code:=(Code.region 4 (sO 4) false).seq .ret
theorem c0w:XI Tryz.prog c7x Tryz.f30 0=some OB:=by kernel_rfl
def d0p(Φ:Zv)(w:World)(t:Tm)(e:Ending)(w':World):Prop:= ∃ v Φ',e = .returned v∧Φ.le Φ'∧Yn Φ' w'∧RP Φ' v (enc t)∧Below w.heap.size w w'∧ ∀ b cs,Φ' b=some cs->Φ b=some cs∨w.heap.size<=b
abbrev sdN(Φ:Zv)(w:World)(t:Tm):Act->World->Prop:=bodyPost Tryz.prog Tryz.f30 (d0p Φ w t) .ret
def sdR(n:Nd)(ks:List Tm)(m:Nat)(S:St):Prop:=m=0∧S=⟨ZB 14 0 [(1,(.ptr 0 0)),(2,(.ptr 1 0)),(5,(.fn 67 [] [(.ptr 2 0),(.ptr 3 0)])),(9,.undef),(10,.undef),(11,.undef),(12,.undef),(13,.undef)],
 [(.obj (.box (ZM n ks))),(.obj (.box cpZ)),(.obj (.box [(.pv (.int .i64 0))])),(.obj (.box [(.pv (enc (ZX (.mk n ks))))]))]⟩
structure SdW (W0:World) (Φ0:Zv) (t:Tm) (tk:List Str) (Bt Br K Tk T Tr TK TT:Nat) (ct cr:Array Value) (tv:Value) (Φ:Zv) (w:World):Prop where
 le:Φ0.le Φ
 phi:Yn Φ w
 dom : ∀ b cs,Φ b=some cs->Φ0 b=some cs∨W0.heap.size<=b
 below:Below W0.heap.size W0 w
 hB:W0.heap.size<=Bt∧W0.heap.size<=Br∧W0.heap.size<=K∧W0.heap.size<=Tk
 ne:Br≠K∧Br≠Tk∧K≠Tk
 pn:Φ Br=none∧Φ K=none∧Φ Tk=none
 bt:w.heap[Bt]? = some (.cells ct T (0,0))
 cts:ct.size=10
 rp:RP Φ (.agg ct) (enc t)
 br:w.heap[Br]? = some (.cells cr Tr (0,0))
 crs:cr.size=10
 num:w.heap[K]? = some (.cells #[.int .i64 0] TK (0,0))
 tak:w.heap[Tk]? = some (.cells #[tv] TT (0,0))∧RP Φ tv (enc tk)∧tv.oneCell'=true
theorem TA{Φ:Zv}{μ:Mu}{cs:Array Value}{x:AV}(h:RL μ Φ cs.toList [x]): ∃ v,cs = #[v]∧R μ Φ v x:=by
 obtain⟨l⟩:=cs
 match l,h.1 with
 | [v],_=>exact⟨v,rfl,h.2 0 v x rfl rfl⟩
theorem b6a{Φ0:Zv}{W0:World}{n:Nd}{ks:List Tm}{st:St}{a:Act}{w:World}(hR:sdR n ks 0 st)(hr:XU (ZZ (fun _ _=>none) Φ0 [] W0) st a w):
  ∃ (Bt Br K Tk T Tr TK TT:Nat) (ct cr:Array Value) (tv:Value) (Φ:Zv),SdW W0 Φ0 (.mk n ks) (ZX (.mk n ks)) Bt Br K Tk T Tr TK TT ct cr tv Φ w∧a.eval (.tmp 1) = .pointer (some ⟨Bt,0,none⟩)∧a.eval (.tmp 2) = .pointer (some ⟨Br,0,none⟩)∧a.eval (.tmp 5)=X4 K Tk∧a.tmps.size=14∧a.defers=[]:=by
 obtain⟨_,rfl⟩:=hR
 obtain⟨μ,Φ,hg,he,hd⟩:=hr
 obtain⟨g1,g2,g3⟩:=DK hg
 obtain⟨Bt,C0,S0,T,ct,m0,b1,b2,b3,b4⟩:=hg.obj 0 _ rfl
 obtain⟨Br,C1,S1,Tr,cr,m1,c1,c2,c3,c4⟩:=hg.obj 1 _ rfl
 obtain⟨K,C2,S2,TK,ck,m2,d1,d2,d3,d4⟩:=hg.obj 2 _ rfl
 obtain⟨Tk,C3,S3,TT,cv,m3,f1,f2,f3,f4⟩:=hg.obj 3 _ rfl
 obtain⟨v2,rfl,hv2⟩:=TA d2
 obtain⟨tv,rfl,htv⟩:=TA f2
 have:=Rk (Z0 hv2)
 subst this
 have k0:blk μ 0 (.box (ZM n ks))=Bt:=by simp[blk,m0]
 have k1:blk μ 1 (.box cpZ)=Br:=by simp[blk,m1]
 have k2:blk μ 2 (.box [(.pv (.int .i64 0))])=K:=by simp[blk,m2]
 have k3:blk μ 3 (.box [(.pv (enc (ZX (.mk n ks))))])=Tk:=by simp[blk,m3]
 have h0:W0.heap.size<=Bt:=by have:=g3 0 _ rfl;rwa [k0]at this
 have h1:W0.heap.size<=Br:=by have:=g3 1 _ rfl;rwa [k1]at this
 have h2:W0.heap.size<=K:=by have:=g3 2 _ rfl;rwa [k2]at this
 have h3:W0.heap.size<=Tk:=by have:=g3 3 _ rfl;rwa [k3]at this
 have n12:Br≠K:=by have:=hg.apart 1 2 _ _ (by decide) rfl rfl;rwa [k1,k2]at this
 have n13:Br≠Tk:=by have:=hg.apart 1 3 _ _ (by decide) rfl rfl;rwa [k1,k3]at this
 have n23:K≠Tk:=by have:=hg.apart 2 3 _ _ (by decide) rfl rfl;rwa [k2,k3]at this
 have hct:ct.size=10:=by have:=b2.1;simpa [ZM]using this
 have hcr:cr.size=10:=by have:=c2.1;simpa [cpZ]using this
 obtain⟨e14,eat⟩:=Be he
 have ev : ∀ (t:Nat) x,t<14->(([(1,(AV.ptr 0 0)),(2,(.ptr 1 0)),(5,(.fn 67 [] [(.ptr 2 0),(.ptr 3 0)])),(9,.undef),(10,.undef),(11,.undef),(12,.undef),(13,.undef)].find? (·.1==t)).map (·.2))=some x->R μ Φ (a.eval (.tmp t)) x:=fun t x ht hx=>by
  obtain⟨v,hv,hr⟩:=eat t x ht hx
  simpa [Act.eval,Array.getD_eq_getD_getElem?,hv]using hr
 have t5:a.eval (.tmp 5)=X4 K Tk:=by
  have h:=ev 5 _ (by decide) rfl
  generalize a.eval (.tmp 5)=v at h
  cases h with
  | fn f cs ds xs ys hn hm h k=>
   have e1:cs = #[]:=by simpa using hn
   obtain⟨ds⟩:=ds
   match ds,hm,k with
   | [p,q],_,k=>
    have r1:=Cg (k 0 p _ rfl rfl) m2
    have r2:=Cg (k 1 q _ rfl rfl) m3
    subst r1 r2 e1
    rfl
 refine⟨Bt,Br,K,Tk,T,Tr,TK,TT,ct,cr,tv,Φ,⟨hg.Φle,hg.phi,g2,g1,⟨h0,h1,h2,h3⟩,⟨n12,n13,n23⟩,⟨c4,d4,f4⟩,b1,hct,?_,c1,hcr,d1,f1,Z0 htv,f3 tv (by simp)⟩,Cg (ev 1 _ (by decide) rfl) m0,Cg (ev 2 _ (by decide) rfl) m1,t5,e14,hd⟩
 rw[Zx]
 refine .agg _ _ (by simpa using hct) (fun v hv=>b3 v (by simpa using hv)) fun j v x hv hx=> ?_
 refine Z0 (b2.2 j v (.pv x) (by simpa using hv) ?_)
 show(List.map AV.pv [enc n.kind,enc n.line,enc n.name,enc n.num,enc n.elem,enc n.dims,enc n.data,enc n.sizes,enc n.ranks,enc ks])[j]? = _
 rw[List.getElem?_map,hx]
 rfl
theorem JF(w:World)(o:Obj)(b:Nat):b<w.heap.size->(w.alloc o).heap[b]? = w.heap[b]? :=XC w o b
set_option maxHeartbeats 1000000 in
theorem b9y{W0:World}{Φ0:Zv}{t:Tm}{Bt Br K Tk T Tr TK TT:Nat}{ct cr:Array Value}{tv:Value}{Φ:Zv}{a:Act}{w:World}(hU:ZN Tryz.prog 67 Wq Uy)(hC:ZN Tryz.prog 92 VO UE)(hL:GlobOK Φ0)(hw:tW t=true)
  (h:SdW W0 Φ0 t (ZX t) Bt Br K Tk T Tr TK TT ct cr tv Φ w) (h1:a.eval (.tmp 1) = .pointer (some ⟨Bt,0,none⟩)) (h2:a.eval (.tmp 2) = .pointer (some ⟨Br,0,none⟩)) (h5:a.eval (.tmp 5)=X4 K Tk) (hs:a.tmps.size=14) (hd:a.defers=[]) :
  OB.wp Tryz.prog (fun e a w=>e = .ret∧sdN Φ0 W0 (YC t) a w) a w:=by
 unfold OB
 have lBt:=Yw h.bt
 have lBr:=Yw h.br
 have lK:=Yw h.num
 have lT:=Yw h.tak.1
 obtain⟨b1,b2,b3,b4⟩:=h.hB
 obtain⟨n1,n2,n3⟩:=h.ne
 obtain⟨p1,p2,p3⟩:=h.pn
 have hW:=h.below.size
 refine wp_seq (V5 (l:=[sX 4 0,sX 4 1,sX 4 2,sX 4 3,sX 4 4,sX 4 5]) (by kernel_rfl) ?_)
 have hc:Xe w Bt 0 ct.toList:=by
  have:=Z9 h.bt 0 10
  rwa [List.drop_zero,List.take_of_length_le (by simp[h.cts])]at this
 refine Uw (by kernel_rfl) (b4k (t:=28) (sz:=10) (x:=1) (by kernel_rfl) (by kernel_rfl) (by simp[h.cts]) h1 hc) ?_
 rw[show(sX 4 0).dst=some 9 from by kernel_rfl]
 have s1:SameT [9] a (a.put (some 9) (.agg ct.toList.toArray)):=(SameT.refl _ _).put (by simp) _
 have e9:(a.put (some 9) (.agg ct.toList.toArray)).eval (.tmp 9) = .agg ct.toList.toArray:=Zj (by omega)
 generalize a.put (some 9) (.agg ct.toList.toArray)=a1 at s1 e9 ⊢
 refine a9s (f:=71) (xs:=#[.tmp 9]) (ts:=#[28]) (vs:=#[.agg ct.toList.toArray]) (by kernel_rfl) (by kernel_rfl) Tryz.func71 (by kernel_rfl) (by kernel_rfl) (by simp only[List.map_toArray,List.map_cons,List.map_nil,e9])
  (a5k (SizeOf.sizeOf t+1) t (Nat.lt_succ_self _) hw Φ w _ (hL.mono h.le) h.phi (by simpa using h.rp)) ?_
 rintro e w2 ⟨vs,Φ2,X,u,rfl,q1,q2,q3,q4,q5,q6,q7,q8,q9,q10⟩
 refine⟨_,rfl,?_⟩
 rw[show(sX 4 1).dst=some 10 from by kernel_rfl]
 have s2:SameT [9,10] a (a1.put (some 10) (.agg vs.toArray)):=by
  have s1':SameT [9,10] a a1:=⟨s1.size,s1.defers,fun t ht=>s1.tmp t (by simp at ht ⊢;omega)⟩
  exact s1'.put (by simp) _
 have e10:(a1.put (some 10) (.agg vs.toArray)).eval (.tmp 10) = .agg vs.toArray:=Zj (by rw[s1.size];omega)
 generalize a1.put (some 10) (.agg vs.toArray)=a2 at s2 e10 ⊢
 refine c9r (w':=w2.alloc (.map #[] 0)) (by kernel_rfl) (b5z (t:=80) (by kernel_rfl)) ?_
 rw[show(sX 4 2).dst=some 11 from by kernel_rfl]
 have s3:SameT [9,10,11] a (a2.put (some 11) (.map (some w2.heap.size))):=by
  have s2':SameT [9,10,11] a a2:=⟨s2.size,s2.defers,fun t ht=>s2.tmp t (by simp at ht ⊢;omega)⟩
  exact s2'.put (by simp) _
 have f11:(a2.put (some 11) (.map (some w2.heap.size))).eval (.tmp 11) = .map (some w2.heap.size):=Zj (by rw[s2.size];omega)
 have f10:(a2.put (some 11) (.map (some w2.heap.size))).eval (.tmp 10) = .agg vs.toArray:=(Za (by decide)).trans e10
 generalize a2.put (some 11) (.map (some w2.heap.size))=a3 at s3 f11 f10 ⊢
 refine Uw (v:=X4 K Tk) (by kernel_rfl) (Sr (x:=.tmp 5) (.inl (by kernel_rfl)) ((s3.eval (by decide)).trans h5)) ?_
 rw[show(sX 4 3).dst=some 12 from by kernel_rfl]
 have s4:SameT [9,10,11,12] a (a3.put (some 12) (X4 K Tk)):=by
  have s3':SameT [9,10,11,12] a a3:=⟨s3.size,s3.defers,fun t ht=>s3.tmp t (by simp at ht ⊢;omega)⟩
  exact s3'.put (by simp) _
 have g12:(a3.put (some 12) (X4 K Tk)).eval (.tmp 12)=X4 K Tk:=Zj (by rw[s3.size];omega)
 have g11:(a3.put (some 12) (X4 K Tk)).eval (.tmp 11) = .map (some w2.heap.size):=(Za (by decide)).trans f11
 have g10:(a3.put (some 12) (X4 K Tk)).eval (.tmp 10) = .agg vs.toArray:=(Za (by decide)).trans f10
 generalize a3.put (some 12) (X4 K Tk)=a4 at s4 g12 g11 g10 ⊢
 -- the premise of rename
 have hsz2:w.heap.size<=w2.heap.size:=q8.size
 have old : ∀ b,b<w.heap.size->(w2.alloc (.map #[] 0)).heap[b]? = w.heap[b]? :=fun b hb=>(JF w2 _ b (by omega)).trans (q8.block b hb)
 have none2 : ∀ b,b<w.heap.size->Φ b=none->Φ2 b=none:=fun b hb hn=>by
  cases hq:Φ2 b with
  | none=>rfl
  | some q=>
   rcases q9 b q hq with h1|h1
   ·rw[hn]at h1;cases h1
   ·omega
 have noneM:Φ2 w2.heap.size=none:=by
  cases hq:Φ2 w2.heap.size with
  | none=>rfl
  | some q=>obtain⟨_,_,hh⟩:=q7 _ q hq;have:=Yw hh;omega
 have hXlt : ∀ b,X b->w.heap.size<=b∧b<w2.heap.size:=fun b hb=>⟨q10 b hb,(q5.out b hb).1⟩
 have hsz:=XZ hw
 have hfl:=a4p t
 have pre:RenPre Φ2 (w2.alloc (.map #[] 0)) X u w2.heap.size K Tk [] [] 0 (ZX t) t vs:=by
  refine⟨(hL.mono h.le).mono q6,fun b q hq=> ?_,q1,q2,q3,q4,q5.mono (.refl _) (fun b hb=>(q5.out b hb).2.1) (fun b hb=>JF w2 _ b (q5.out b hb).1),⟨⟨#[],0,XB w2 _,rfl,fun j e p he=>by simp at he,fun x hx=>by simp at hx,by simp⟩,⟨TK,(old K lK).trans h.num⟩,⟨tv,TT,(old Tk lT).trans h.tak.1,h.tak.2.1.mono q6,h.tak.2.2⟩,noneM,none2 K lK p2,none2 Tk lT p3,by omega,by omega,n3⟩,
   fun b hb=>by have:=hXlt b hb;omega,fun _=>rfl,by omega,?_,hw⟩
  ·obtain⟨T',fz,hh⟩:=q7 b q hq
   exact⟨T',fz,(JF w2 _ b (Yw hh)).trans hh⟩
  ·have:=Nat.mul_le_mul hsz (show(ZX t).length+1<=1048577 by omega)
   omega
 refine a9s (f:=70) (xs:=#[.tmp 10,.tmp 11,.tmp 12]) (ts:=#[28,80,78]) (vs:=#[.agg vs.toArray,.map (some w2.heap.size),X4 K Tk]) (by kernel_rfl) (by kernel_rfl) Tryz.func70 (by kernel_rfl) (by kernel_rfl) (by simp only[List.map_toArray,List.map_cons,List.map_nil,g10,g11,g12])
  (a4i hU hC K Tk (ZX t) (SizeOf.sizeOf t+1) t (Nat.lt_succ_self _) Φ2 _ X u _ [] [] 0 vs pre) ?_
 rintro e w3 ⟨vs',Φ3,rfl,r1,r2,r3,r4,r5,r6,r7,r8,r9,r10,r11,r12,r13,r14⟩
 refine⟨_,rfl,?_⟩
 rw[show(sX 4 4).dst=some 13 from by kernel_rfl]
 have k2:(a4.put (some 13) (.agg vs'.toArray)).eval (.tmp 2) = .pointer (some ⟨Br,0,none⟩):=(Za (by decide)).trans ((s4.eval (by decide)).trans h2)
 have k13:(a4.put (some 13) (.agg vs'.toArray)).eval (.tmp 13) = .agg vs'.toArray:=Zj (by rw[s4.size];omega)
 have ksz:(a4.put (some 13) (.agg vs'.toArray)).tmps.size=14:=by simp[Act.put,s4.size,hs]
 have kd:(a4.put (some 13) (.agg vs'.toArray)).defers=[]:=by show a4.defers=[];rw[s4.defers,hd]
 generalize a4.put (some 13) (.agg vs'.toArray)=a5 at k2 k13 ksz kd ⊢
 have asz:(w2.alloc (.map #[] 0)).heap.size=w2.heap.size+1:=by simp
 have old3 : ∀ b,b<w.heap.size->b≠K->b≠Tk->w3.heap[b]? = w.heap[b]? :=fun b hb h1 h2=>(r10 b (by omega) (fun hx=>by have:=hXlt b hx;omega) (by omega) h1 h2).trans (old b hb)
 have none3 : ∀ b,b<w.heap.size->Φ b=none->Φ3 b=none:=fun b hb hn=>by
  cases hq:Φ3 b with
  | none=>rfl
  | some q=>
   rcases r9 b q hq with h1|h1
   ·rw[none2 b hb hn]at h1;cases h1
   ·omega
 have hbr:w3.heap[Br]? = some (.cells cr Tr (0,0)):=(old3 Br lBr n1 n2).trans h.br
 have esp:(splice cr.toList 0 vs').toArray=vs'.toArray:=by
  unfold splice
  rw[List.take_zero,List.nil_append,Nat.zero_add,List.drop_of_length_le (by simp[h.crs,r1]),List.append_nil]
 refine a8n (by kernel_rfl) (by kernel_rfl) (c7c (t:=28) (x:=2) (y:=13) (sz:=10) (by kernel_rfl) (by kernel_rfl) r1 k2 k13 hbr (by rw[h.crs];decide) r2) ?_
 rw[esp]
 have oth : ∀ b,b≠Br->(w3.setRow Br vs'.toArray).heap[b]? = w3.heap[b]? :=fun b hne=>setRow_other w3 Br b _ hne
 refine wp_ret ⟨rfl,kd,_,Ao (b:=2) (t:=28) (Br:=Br) (sz:=10) (T:=Tr) (z:=(0,0)) (by kernel_rfl) k2 (by kernel_rfl) (setRow_heap w3 Br cr _ Tr (0,0) hbr) (by simpa using r1),?_⟩
 have own5:OwnK Φ3 (w3.setRow Br vs'.toArray) X u (Y9 (ZX t) [] 0 t).1.kids:=r5.mono (.refl _) (fun b hb=>(r5.out b hb).2.1) fun b hb=>oth b (by have:=hXlt b hb;omega)
 have phi5:Yn Φ3 (w3.setRow Br vs'.toArray):=fun b q hq=>by
  obtain⟨T',fz,hh⟩:=r8 b q hq
  have hneb:b≠Br:=fun e=>by rw[e,none3 Br lBr p1]at hq;cases hq
  exact⟨T',fz,(oth b hneb).trans hh⟩
 obtain⟨Φ4,f1,f2,f3,f4⟩:=own5.freeze phi5
 have hst:YC t = .mk (Y9 (ZX t) [] 0 t).1.n (Y9 (ZX t) [] 0 t).1.kids:=by unfold YC;cases (Y9 (ZX t) [] 0 t).1;rfl
 refine⟨_,Φ4,rfl,h.le.trans (q6.trans (r7.trans f1)),f2,by rw[hst];exact c5j r1 r2 (r3.mono f1) r4 f4,?_,fun b cs hb=> ?_⟩
 ·refine⟨?_,?_,?_,?_,fun b hb=> ?_⟩
  ·rw[setRow_os];exact r11.trans (q8.os.trans h.below.os)
  ·rw[setRow_tape];exact r12.trans (q8.tape.trans h.below.tape)
  ·rw[setRow_output];exact r13.trans (q8.output.trans h.below.output)
  ·rw[setRow_size];omega
  ·exact(oth b (by omega)).trans ((old3 b (by omega) (by omega) (by omega)).trans (h.below.block b hb))
 ·rcases f3 b cs hb with h6|h6
  ·rcases r9 b cs h6 with h7|h7
   ·rcases q9 b cs h7 with h8|h8
    ·exact h.dom b cs h8
    ·exact .inr (by omega)
   ·exact .inr (by omega)
  ·have:=hXlt b h6
   exact .inr (by omega)
theorem Np(hU:ZN Tryz.prog 67 Wq Uy)(hC:ZN Tryz.prog 92 VO UE)(hF:Zr Tryz.prog 20 (fun x:Tm×Unit=>tW x.1) (fun x:Tm×Unit=>ZX x.1)):
  Zr Tryz.prog 30 (fun x:Tm×Unit=>tW x.1) (fun x:Tm×Unit=>YC x.1):=b6v (by
 rintro⟨t,⟨⟩⟩ hw Φ w vs hL hp hv
 obtain⟨v,rfl,hv'⟩:=d2n hv
 obtain⟨n,ks⟩:=t
 have hic:Bw Tryz.prog c7x Tryz.f30=some Ea:=by kernel_rfl
 obtain⟨cd,hb,htr⟩:=Gm hic
 refine calls_of_wp Tryz.func30 hb ?_
 have hT:ZO Tryz.prog b6y:=Zl (Va Tryz.func20 (by kernel_rfl) hF) Zf
 have hv2:RP Φ v (.agg [enc n.kind,enc n.line,enc n.name,enc n.num,enc n.elem,enc n.dims,enc n.data,enc n.sizes,enc n.ranks,enc ks]):=by rw[<- Zx];exact hv'
 have hE:YQ (fun _ _=>none) Φ (#[v]++Array.replicate 13 undef) (Wh 14 [.pv (.agg [enc n.kind,enc n.line,enc n.name,enc n.num,enc n.elem,enc n.dims,enc n.data,enc n.sizes,enc n.ranks,enc ks])] []).env:=by
  show RL _ _ _ _
  rw[Array.toList_append,Array.toList_replicate]
  exact RL.append (RL.cons (.pv _ _ hv2) RL.nil) (Yx _)
 have hrun:=d8e (G:=fun _=>False) (fun z S=>sdR n ks 0 S∧z=0) n ks ⟨Ze (Tm.mk n ks,()) (by show Jg n ks=[enc (Tm.mk n ks)];rw[Zx];rfl) hw,Zd (Tm.mk n ks,()) (by show Jg n ks=[enc (Tm.mk n ks)];rw[Zx];rfl) ⟨⟨rfl,rfl⟩,rfl⟩⟩
 have h:=Ar (st:=Wh 14 [.pv (.agg [enc n.kind,enc n.line,enc n.name,enc n.num,enc n.elem,enc n.dims,enc n.data,enc n.sizes,enc n.ranks,enc ks])] []) (a:={tmps:=#[v]++Array.replicate 13 undef,defers:=[]}) (N:=sdN Φ w (YC (.mk n ks))) hT (by kernel_rfl) htr hrun (Vj hL hp) hE rfl (fun i cd hx st' a' w' hR hr=>by
  obtain⟨hR,rfl⟩:=hR
  rw[c0w]at hx
  cases hx
  obtain⟨Bt,Br,K,Tk,T,Tr,TK,TT,ct,cr,tv,Φ1,r0,r1,r2,r3,r4,r5⟩:=b6a hR hr
  exact b9y hU hC hL hw r0 r1 r2 r3 r4 r5)
 exact wp_mono h fun e a w h=>by obtain⟨rfl,h⟩:=h;exact h)
end Go.Proofs.YtgdebdgkofkeeaaGreatDoor
namespace Go.Pl
open Go.RowKit
open Enc (enc dec is)
section
variable {P:Program} {o:Oper} {a:Act} {w:World}
end
end Go.Pl
namespace Go.Proofs.YtgdebdgkofkeeaaGreatDoor
open Go.RowKit Go.Pl
open Enc (enc dec is)
open EncL (encL decL isL)
set_option maxRecDepth 100000
section
variable {P:Program} {o:Oper} {a:Act} {w:World}
end
end Go.Proofs.YtgdebdgkofkeeaaGreatDoor
namespace Go.Proofs.YtgdebdgkofkeeaaGreatDoor
open Go.RowKit Go.Pl
open Enc (enc dec is)
open EncL (encL decL isL)
set_option maxRecDepth 100000
end Go.Proofs.YtgdebdgkofkeeaaGreatDoor
namespace Go.Proofs.YtgdebdgkofkeeaaGreatDoor
open Go.Pl
open Enc (enc dec is)
open EncL (encL decL isL)
set_option maxRecDepth 100000
theorem Y5:Tryz.prog.follows .mixedOrders=true:=by kernel_rfl
theorem tq{f:Nat}{D:Den}{l:List (Nat×Den)}{fn:Func}(hf:Tryz.prog.funcs[f]? = some fn)(h:a0o Tryz.prog f D)(k:ZO Tryz.prog (YB l))(hb:(fn.body.isSome&& !(fn.name == "runtime.NumGoroutine"))=true:=by kernel_rfl):ZO Tryz.prog (YB ((f,D)::l)):=Zl (Va hf hb h) k
theorem dq{f nt:Nat}{α β:Type}[EncL α][Enc β]{fn:Func}{T:ZE}{ic:IC}{rs:List IRes}{pre:α->Bool}{F:α->β}(h : ∀ a,pre a=true->Zc T 0 (Zb rs (Zm (F a))) ic [] (ZY nt (encL a)))(hT:ZO Tryz.prog T)(hf:Tryz.prog.funcs[f]? = some fn)(hic:Mr Tryz.prog fn=some ic:=by kernel_rfl)(hrs:Xy (XW Tryz.prog) fn.results.toList=some rs:=by kernel_rfl)(hnt:fn.ntmps=nt:=by kernel_rfl):Zr Tryz.prog f pre F:=Zr.of hT Y5 hf hic hrs hnt h
theorem a5r:Zr Tryz.prog 170 (fun x:Str×Unit=>decide (x.1.s.length<=281474976710656)) (fun x:Str×Unit=>Xj x.1):=Wi (by
  rintro⟨⟨s⟩,⟨⟩⟩ hps Φ w vs hL hΦ hv
  have hs:s.length<=281474976710656:=by simpa using hps
  obtain⟨v,rfl,h1⟩:=d2n hv
  rw[Jy h1]
  have hsz:(⟨s.toArray⟩:ByteArray).size=s.length:=rfl
  cases h:Lib.atoiAll s
  ·rename_i n
   have e1:Xj ⟨s⟩=(n,⟨false⟩):=by simp only[Xj,h]
   rw[e1]
   refine(Any.strconv_Atoi_ok Tryz.lays172 ⟨s.toArray⟩ (by rw[hsz];omega) n h w).mono ?_
   rintro e w' ⟨rfl,hw⟩
   refine⟨_,rfl,.tup _ _ rfl ?_,?_⟩
   ·intro j v x hv hx
    match j with
    | 0=>cases hv;cases hx;exact .int _ _
    | 1=>cases hv;cases hx;exact .nili
    | j+2=>simp at hv
   ·rcases hw with rfl|⟨t,rfl⟩
    ·exact .refl _ _
    ·exact Fg _ _ 0 _
  ·skip
   have e1:Xj ⟨s⟩=(0,⟨true⟩):=by simp only[Xj,h]
   rw[e1]
   obtain⟨cs,hc,ev,he,hev⟩:=hL.syn
   refine(Any.strconv_Atoi_syntax Tryz.lays172 ⟨s.toArray⟩ (by rw[hsz];omega) h ev w (Dv hΦ hc he) hev).mono ?_
   rintro e w' ⟨N,rfl,_,_,hb⟩
   refine⟨_,rfl,.tup _ _ rfl ?_,hb⟩
   intro j v x hv hx
   match j with
   | 0=>cases hv;cases hx;exact .int _ _
   | 1=>cases hv;cases hx;exact .ifc _ _
   | j+2=>simp at hv
  ·skip
   have e1:Xj ⟨s⟩=(Lib.atoiSat s,⟨true⟩):=by simp only[Xj,h]
   rw[e1]
   obtain⟨cs,hc,ev,he,hev⟩:=hL.rng
   refine(Any.strconv_Atoi_range Tryz.lays172 ⟨s.toArray⟩ (by rw[hsz];omega) h ev w (Dv hΦ hc he) hev).mono ?_
   rintro e w' ⟨N,rfl,_,_,hb⟩
   refine⟨_,rfl,.tup _ _ rfl ?_,hb⟩
   intro j v x hv hx
   match j with
   | 0=>cases hv;cases hx;exact .int _ _
   | 1=>cases hv;cases hx;exact .ifc _ _
   | j+2=>simp at hv)
theorem a6c:Zr Tryz.prog 141 (fun _:Int×Unit=>true) (fun x:Int×Unit=>XK x.1):=dq c5d Zf Tryz.func141
theorem MJ:Zr Tryz.prog 140 (fun x:Str×Unit=>decide (x.1.s.length<=281474976710656)) (fun x:Str×Unit=>WN x.1):=dq Eh (tq Tryz.func169 A7 (tq Tryz.func170 a5r (tq Tryz.func68 Ma Zf))) Tryz.func140
theorem Rl:Zr Tryz.prog 111 (fun x:Lin×Unit=>V9 x.1) (fun x:Lin×Unit=>Ym x.1):=dq a4w (tq Tryz.func141 a6c (tq Tryz.func140 MJ Zf)) Tryz.func111
theorem Hf:Zr Tryz.prog 106 (fun _:UInt8×Unit=>true) (fun x:UInt8×Unit=>lowB x.1):=dq Ey Zf Tryz.func106
theorem RZ:Zr Tryz.prog 138 (fun _:UInt8×Unit=>true) (fun x:UInt8×Unit=>digB x.1):=dq FU Zf Tryz.func138
theorem OD:Zr Tryz.prog 107 (fun x:Str×Bool×Unit=>decide (x.1.s.length<=1048576)) (fun x:Str×Bool×Unit=>Ae x.1 x.2.1):=dq b3c (tq Tryz.func138 RZ (tq Tryz.func106 Hf Zf)) Tryz.func107
theorem Ck:Zr Tryz.prog 108 (fun _:Str×Unit=>true) (fun x:Str×Unit=>Cn.contains x.1.s):=dq b2k Zf Tryz.func108
theorem UG:Zr Tryz.prog 82 (fun x:Str×Unit=>decide (x.1.s.length<=1048576)) (fun x:Str×Unit=>WT x.1.s):=dq a8b (tq Tryz.func106 Hf (tq Tryz.func107 OD (tq Tryz.func108 Ck Zf))) Tryz.func82
theorem A8:Zr Tryz.prog 115 (fun x:Str×Unit=>decide (x.1.s.length<=1048576)) (fun x:Str×Unit=>fullI x.1.s):=dq a7c (tq Tryz.func145 b4c (tq Tryz.func82 UG Zf)) Tryz.func115
theorem QX:Zr Tryz.prog 87 (fun x:Str×Unit=>decide (x.1.s.length<=1048576)) (fun x:Str×Unit=>fnI x.1.s):=dq b5h (tq Tryz.func82 UG (tq Tryz.func115 A8 Zf)) Tryz.func87
theorem Bd:Zr Tryz.prog 84 (fun x:Tm×Unit=>tW x.1) (fun x:Tm×Unit=>G9 x.1.nd):=dq b5w Zf Tryz.func84
theorem Sj:Zr Tryz.prog 110 (fun x:Lin×Unit=>V9 x.1) (fun x:Lin×Unit=> !(Ym x.1)):=dq b1r (tq Tryz.func111 Rl Zf) Tryz.func110
theorem c2b:Zr Tryz.prog 139 (fun x:List Lin×FnV 110×Unit=>decide (x.1.length<=1048576)&&x.1.all V9) (fun x:List Lin×FnV 110×Unit=>X6 (fun l:Lin=> !(Ym l)) x.1):=dq c1r (tq Tryz.func110 Sj Zf) Tryz.func139
theorem c3q:Zr Tryz.prog 109 (fun x:List Lin×FnV 110×Unit=>decide (x.1.length<=1048576)&&x.1.all V9) (fun x:List Lin×FnV 110×Unit=>x.1.any fun l:Lin=> !(Ym l)):=dq c4c (tq Tryz.func139 c2b Zf) Tryz.func109
theorem Hz:Zr Tryz.prog 83 (fun x:Tm×Int×Int×Unit=>tW x.1) (fun x:Tm×Int×Int×Unit=>YR x.1.nd x.2.1 x.2.2.1):=dq Oo (tq Tryz.func109 c3q Zf) Tryz.func83
theorem RF:Zr Tryz.prog 114 (fun _:Int×Unit=>true) (fun x:Int×Unit=>Yg x.1):=dq b5t Zf Tryz.func114
theorem c6r:Zr Tryz.prog 144 (fun x:List Int×FnV 114×Unit=>decide (x.1.length<=1048576)) (fun x:List Int×FnV 114×Unit=>X6 Yg x.1):=dq c1e (tq Tryz.func114 RF Zf) Tryz.func144
theorem c0d:Zr Tryz.prog 113 (fun x:List Int×FnV 114×Unit=>decide (x.1.length<=1048576)) (fun x:List Int×FnV 114×Unit=>x.1.any Yg):=dq c1f (tq Tryz.func144 c6r Zf) Tryz.func113
theorem PX:Zr Tryz.prog 86 (fun x:Tm×Unit=>tW x.1) (fun x:Tm×Unit=>WQ x.1.nd x.1.ks.length):=dq a7w (tq Tryz.func87 QX (tq Tryz.func83 Hz (tq Tryz.func113 c0d Zf))) Tryz.func86
theorem b4t:Xq Tryz.prog 193 Yb KL:=CK (T:=VP) (ic:=WS) (rs:=WO) Zf Y5 Tryz.func193 (by kernel_rfl) (by kernel_rfl) (by kernel_rfl) a6h
theorem LX:Xq Tryz.prog 171 Yb VQ:=CK (T:=Jh) (ic:=Kl) (rs:=Ke) (tq Tryz.func193 b4t Zf) Y5 Tryz.func171 (by kernel_rfl) (by kernel_rfl) (by kernel_rfl) PQ
theorem b9v:Xq Tryz.prog 142 Ah Vu:=CK (T:=XH) (ic:=YW) (rs:=YV) (tq Tryz.func171 LX Zf) Y5 Tryz.func142 (by kernel_rfl) (by kernel_rfl) (by kernel_rfl) b3f
theorem b1t:Zr Tryz.prog 142 (fun _:List Int×Unit=>true) (fun x:List Int×Unit=>VJ x.1):=Zr.ofPure b9v fun⟨l,_⟩ h=>⟨by show(Zy l).all PV.isNum=true;simp,by show Zm _ (.tup [.int .i64 (VJ ((Zy l).map PV.asInt)).1,.int .i64 (VJ ((Zy l).map PV.asInt)).2]);rw[Vk];exact Y6 (x:=VJ l) rfl⟩
theorem a4l:Zr Tryz.prog 93 (fun x:List Int×Unit=>decide (x.1.length<=2000000)) (fun x:List Int×Unit=>x.1):=VZ (α:=Int) (by decide) (Vi b3y (by decide))
theorem PO:Zr Tryz.prog 173 (fun _:Str×Int×Unit=>true) (fun x:Str×Int×Unit=>Vd x.1 x.2.1):=dq b9s Zf Tryz.func173
theorem c9o:ZN Tryz.prog 172 Cx R6:=Ce (T:=b1d) (ic:=FK) (rs:=FY) (tq Tryz.func173 PO Zf) Y5 Tryz.func172 (by kernel_rfl) (by kernel_rfl) (by kernel_rfl) c0x
theorem d0e:ZN Tryz.prog 144 WK Ct:=Ce (T:=Aa) (ic:=JK) (rs:=JM) (tq Tryz.func172 c9o Zf) Y5 Tryz.func144 (by kernel_rfl) (by kernel_rfl) (by kernel_rfl) c3h
theorem c9j:ZN Tryz.prog 113 WK RX:=Ce (T:=b2l) (ic:=F8) (rs:=Ot) (tq Tryz.func144 d0e Zf) Y5 Tryz.func113 (by kernel_rfl) (by kernel_rfl) (by kernel_rfl) c6d
theorem N9:Zr Tryz.prog 143 (fun x:Str×List Int×Unit=>decide (x.2.1.length<=2000000)) (fun x:Str×List Int×Unit=>x.2.1.all (Vd x.1)):=dq Re (tq Tryz.func113 c9j Zf) Tryz.func143
theorem a4s:Zr Tryz.prog 112 (fun x:Str×List Int×List Int×Unit=>decide (x.2.1.length<=2000000)&&decide (x.2.2.1.length<=2000000)) (fun x:Str×List Int×List Int×Unit=>a5g x.1 x.2.1 x.2.2.1):=dq b7m (tq Tryz.func142 b1t (tq Tryz.func143 N9 (tq Tryz.func93 a4l Zf))) Tryz.func112
theorem R8:Zr Tryz.prog 85 (fun x:Arr×Unit=>a8d x.1) (fun x:Arr×Unit=>b3u x.1):=dq c0s (tq Tryz.func112 a4s Zf) Tryz.func85
theorem NY:Zr Tryz.prog 59 (fun x:Tm×Unit=>tW x.1) (fun x:Tm×Unit=>Aj x.1):=dq a5l (tq Tryz.func82 UG (tq Tryz.func83 Hz (tq Tryz.func84 Bd (tq Tryz.func85 R8 (tq Tryz.func86 PX (tq Tryz.func87 QX Zf)))))) Tryz.func59
theorem G7:ZN Tryz.prog 58 Yf (YE 80):=Ce (T:=Oi) (ic:=PG) (rs:=Pk) Zf Y5 Tryz.func58 (by kernel_rfl) (by kernel_rfl) (by kernel_rfl) b1x
theorem a7d{cd:Code}(h:XI Tryz.prog WI Tryz.f22 0=some cd):Xn Tryz.prog cd=some (.t 7,[8,9],Bp,Au):=by
 have:(XI Tryz.prog WI Tryz.f22 0).bind (Xn Tryz.prog)=some (.t 7,[8,9],Bp,Au):=by kernel_rfl
 rw[h]at this
 exact this
theorem c4k(hT:ZO Tryz.prog Jc): ∀ (B:Nat) (c:Ctx),c.w0.heap.size=B->(∀ i m,0<=i->c.μ0 i m=none)->NZ (UI B 4 hT Y5) (fun n cd=>XI Tryz.prog WI Tryz.f22 n=some cd) tvE c:=by
 rintro B c hB hk n cd hcd st a w q hr ⟨rfl,hE⟩
 exact VT hT Y5 UZ (fun x=>by obtain⟨t,l⟩:=x;rfl) (a7d hcd) hB hk hr hE
theorem a0l:ZO Tryz.prog Jc:=(tq Tryz.func58 G7 (tq Tryz.func59 NY Zf))
theorem PL:Zr Tryz.prog 22 (fun x:Tm×Unit=>tW x.1) (fun x:Tm×Unit=>Ue x.1):=Zr.ofM (T:=Jc) (ic:=GG) (rs:=JP) (E:=tvE) (sel:=WI) a0l Y5 Tryz.func22 (by kernel_rfl) (by kernel_rfl) (by kernel_rfl) (c4k a0l) c2q
theorem Ow:ZN Tryz.prog 57 Xf (XJ 79):=Ce (T:=b4s) (ic:=O1) (rs:=OA) Zf Y5 Tryz.func57 (by kernel_rfl) (by kernel_rfl) (by kernel_rfl) c0o
theorem TU:Zr Tryz.prog 123 (fun _:Int×Int×Unit=>true) (fun x:Int×Int×Unit=>JN x.1 x.2.1):=dq O8 Zf Tryz.func123
theorem b8e:Zr Tryz.prog 121 (fun _:Coef×Coef×Unit=>true) (fun x:Coef×Coef×Unit=>Dr x.1 x.2.1):=dq a5j (tq Tryz.func122 M9 (tq Tryz.func123 TU Zf)) Tryz.func121
theorem b1s:Zr Tryz.prog 120 (fun x:List Coef×List Coef×FnV 121×Unit=>decide (x.1.length<=9223372036854775807)&&decide (x.2.1.length<=9223372036854775807)) (fun x:List Coef×List Coef×FnV 121×Unit=>Wm x.1 x.2.1):=dq a7b (tq Tryz.func121 b8e Zf) Tryz.func120
theorem Sg:Zr Tryz.prog 89 (fun x:Lin×Lin×Unit=>Yp x.1&&Yp x.2.1) (fun x:Lin×Lin×Unit=>V8 x.1 x.2.1):=dq b3m (tq Tryz.func120 b1s (tq Tryz.func123 TU Zf)) Tryz.func89
theorem Lm:Zr Tryz.prog 63 (fun x:Lin×Lin×Unit=>Yp x.1&&Yp x.2.1) (fun x:Lin×Lin×Unit=>V8 x.1 x.2.1==0):=dq c3i (tq Tryz.func89 Sg Zf) Tryz.func63
theorem A9:Zr Tryz.prog 63 (fun x:Lin×Lin×Unit=>Yp x.1&&Yp x.2.1) (fun x:Lin×Lin×Unit=>decide (x.1=x.2.1)):=by
 have h:(fun x:Lin×Lin×Unit=>V8 x.1 x.2.1==0)=(fun x:Lin×Lin×Unit=>decide (x.1=x.2.1)):=funext fun x=>Cm.cmpLin_dec x.1 x.2.1
 rw[<- h]
 exact Lm
theorem a6y:Zr Tryz.prog 61 (fun x:List Int×List Int×Unit=>YG x.1) (fun x:List Int×List Int×Unit=>decide (x.1=x.2.1)):=dq c3g Zf Tryz.func61
theorem b3j:Zr Tryz.prog 62 (fun x:List Lin×List Lin×FnV 63×Unit=>YG x.1&&x.1.all Yp&&x.2.1.all Yp) (fun x:List Lin×List Lin×FnV 63×Unit=>decide (x.1=x.2.1)):=dq c0f (tq Tryz.func63 A9 Zf) Tryz.func62
theorem a6l{N:Nat}(hN:Zr Tryz.prog 24 (fun x:Tm×Tm×Unit=>(tW x.1&&tW x.2.1)&&decide (ZA x.1<N)) (fun x:Tm×Tm×Unit=>JO x.1 x.2.1)):Zr Tryz.prog 64 (fun x:List Tm×List Tm×FnV 24×Unit=>(tsW x.1&&tsW x.2.1)&&decide (ZP x.1<N)) (fun x:List Tm×List Tm×FnV 24×Unit=>Un x.1 x.2.1):=dq (c0q N) (tq Tryz.func24 hN Zf) Tryz.func64
theorem FN:Zr Tryz.prog 24 (fun x:Tm×Tm×Unit=>tW x.1&&tW x.2.1) (fun x:Tm×Tm×Unit=>JO x.1 x.2.1):=Zr.rec (fun a=>ZA a.1) fun N hN=>dq (c1s N) (tq Tryz.func61 a6y (tq Tryz.func62 b3j (tq Tryz.func64 (a6l hN) Zf))) Tryz.func24
theorem a9z:Zr Tryz.prog 91 (fun x:List Str×Str×Unit=>YG x.1) (fun x:List Str×Str×Unit=>c6n x.1 x.2.1):=dq c4p Zf Tryz.func91
theorem b6e:Zr Tryz.prog 69 (fun x:List Str×Str×Unit=>YG x.1) (fun x:List Str×Str×Unit=>decide (x.2.1∈x.1)):=dq c2t (tq Tryz.func91 a9z Zf) Tryz.func69
theorem c9q:ZN Tryz.prog 67 Wq Uy:=Ce (T:=Bj) (ic:=JD) (rs:=Jl) (tq Tryz.func68 Ma (tq Tryz.func69 b6e Zf)) Y5 Tryz.func67 (by kernel_rfl) (by kernel_rfl) (by kernel_rfl) c5h
theorem d6x:ZN Tryz.prog 55 VR DC:=ZN.recN b6l fun N hN=>ZN.congr (Ce (T:=Ua N) (ic:=Wy) (rs:=Wu) (tq Tryz.func76 c9n (tq Tryz.func55 (hN.congr (fun args os h=>d8r h) (fun _ _ _=>rfl)) Zf)) Y5 Tryz.func55 (by kernel_rfl) (by kernel_rfl) (by kernel_rfl) (c2d N)) (fun args os h=>d8g h) (fun _ _ _=>rfl)
theorem MX:Zr Tryz.prog 20 (fun x:Tm×Unit=>tW x.1) (fun x:Tm×Unit=>ZX x.1):=dq b9r (tq Tryz.func55 d6x (tq Tryz.func57 Ow (tq Tryz.func56 a8y Zf))) Tryz.func20
theorem Hm:Zr Tryz.prog 30 (fun x:Tm×Unit=>tW x.1) (fun x:Tm×Unit=>YC x.1):=Np c9q d2r MX
theorem QT:Zr Tryz.prog 30 (fun x:Tm×Unit=>tW x.1) (fun x:Tm×Unit=>YC x.1):=Hm
theorem Fw:Zr Tryz.prog 20 (fun x:Tm×Unit=>tW x.1) (fun x:Tm×Unit=>ZX x.1):=MX
theorem PR:Zr Tryz.prog 18 (fun x:Tm×Tm×Unit=>tW x.1&&tW x.2.1&&tW (YC x.1)&&tW (YC x.2.1)) (fun x:Tm×Tm×Unit=>RU x.1 x.2.1):=dq c1b (tq Tryz.func30 Hm (tq Tryz.func24 FN Zf)) Tryz.func18
theorem Oe{cd:Code}(h:XI Tryz.prog WI Tryz.f21 0=some cd):Xn Tryz.prog cd=some (.t 5,[6,7],Gc,Gt):=by
 have:(XI Tryz.prog WI Tryz.f21 0).bind (Xn Tryz.prog)=some (.t 5,[6,7],Gc,Gt):=by kernel_rfl
 rw[h]at this
 exact this
theorem a9g(hT:ZO Tryz.prog Qu): ∀ (B:Nat) (c:Ctx),c.w0.heap.size=B->(∀ i m,0<=i->c.μ0 i m=none)->NZ (UI B 4 hT Y5) (fun n cd=>XI Tryz.prog WI Tryz.f21 n=some cd) a5t c:=by
 rintro B c hB hk n cd hcd st a w q hr ⟨rfl,hE⟩
 exact VT hT Y5 UZ (fun x=>by obtain⟨t,l⟩:=x;rfl) (Oe hcd) hB hk hr hE
theorem L6:ZO Tryz.prog Qu:=(tq Tryz.func58 G7 Zf)
theorem Ll:Zr Tryz.prog 21 (fun x:Tm×Unit=>tW x.1) (fun x:Tm×Unit=>D9 x.1):=Zr.ofM (T:=Qu) (ic:=Gq) (rs:=KR) (E:=a5t) (sel:=WI) L6 Y5 Tryz.func21 (by kernel_rfl) (by kernel_rfl) (by kernel_rfl) (a9g L6) c5y
theorem O7{cd:Code}(h:XI Tryz.prog WI Tryz.f37 0=some cd):Xn Tryz.prog cd=some (.t 6,[7,8],J4,Uz):=by
 have:(XI Tryz.prog WI Tryz.f37 0).bind (Xn Tryz.prog)=some (.t 6,[7,8],J4,Uz):=by kernel_rfl
 rw[h]at this
 exact this
theorem b6r(hT:ZO Tryz.prog QK): ∀ (B:Nat) (c:Ctx),c.w0.heap.size=B->(∀ i m,0<=i->c.μ0 i m=none)->NZ (UI B 4 hT Y5) (fun n cd=>XI Tryz.prog WI Tryz.f37 n=some cd) a3z c:=by
 rintro B c hB hk n cd hcd st a w q hr ⟨rfl,hE⟩
 exact VT hT Y5 UZ (fun x=>by obtain⟨t,l⟩:=x;rfl) (O7 hcd) hB hk hr hE
theorem Nc:ZO Tryz.prog QK:=(tq Tryz.func58 G7 Zf)
theorem Sm:Zr Tryz.prog 37 (fun x:Tm×Unit=>tW x.1) (fun x:Tm×Unit=>Vs x.1):=Zr.ofM (T:=QK) (ic:=HZ) (rs:=KO) (E:=a3z) (sel:=WI) Nc Y5 Tryz.func37 (by kernel_rfl) (by kernel_rfl) (by kernel_rfl) (b6r Nc) c0k
theorem FM{cd:Code}(h:XI Tryz.prog WI Tryz.f32 0=some cd):Xn Tryz.prog cd=some (.t 7,[8,9],KJ,Uv):=by
 have:(XI Tryz.prog WI Tryz.f32 0).bind (Xn Tryz.prog)=some (.t 7,[8,9],KJ,Uv):=by kernel_rfl
 rw[h]at this
 exact this
theorem b3k(hT:ZO Tryz.prog Qn): ∀ (B:Nat) (c:Ctx),c.w0.heap.size=B->(∀ i m,0<=i->c.μ0 i m=none)->NZ (UI B 4 hT Y5) (fun n cd=>XI Tryz.prog WI Tryz.f32 n=some cd) a5y c:=by
 rintro B c hB hk n cd hcd st a w q hr ⟨rfl,hE⟩
 exact VT hT Y5 UZ (fun x=>by obtain⟨t,l⟩:=x;rfl) (FM hcd) hB hk hr hE
theorem Fb:ZO Tryz.prog Qn:=(tq Tryz.func58 G7 (tq Tryz.func57 Ow (tq Tryz.func56 a8y Zf)))
theorem Hq:Zr Tryz.prog 32 (fun x:Tm×Unit=>tW x.1) (fun x:Tm×Unit=>WP x.1):=Zr.ofM (T:=Qn) (ic:=Hg) (rs:=KU) (E:=a5y) (sel:=WI) Fb Y5 Tryz.func32 (by kernel_rfl) (by kernel_rfl) (by kernel_rfl) (b3k Fb) c2m
theorem a6d:Zr Tryz.prog 65 (fun x:List Int×List Int×Unit=>decide (x.1.length<=1048576)) (fun x:List Int×List Int×Unit=>decide (x.1=x.2.1)):=dq b9t Zf Tryz.func65
theorem a7m:Zr Tryz.prog 66 (fun x:Lin×Lin×Unit=>decide (x.1.t.length<=1048576)) (fun x:Lin×Lin×Unit=>decide (x.1=x.2.1)):=dq c4q Zf Tryz.func66
theorem Hu:Zr Tryz.prog 25 (fun x:Tm×Tm×Unit=>tW x.1&&tW x.2.1) (fun x:Tm×Tm×Unit=>JO x.1 x.2.1):=Zr.rec (fun a=>ZA a.1) fun N hN=>dq (c3x N) (tq Tryz.func65 a6d (tq Tryz.func66 a7m (tq Tryz.func25 hN Zf))) Tryz.func25
theorem Pg:Zr Tryz.prog 31 (fun x:Tm×Tm×Unit=>tW x.1&&tW x.2.1) (fun x:Tm×Tm×Unit=>FE x.1 x.2.1):=Zr.rec (fun a=>ZA a.1) fun N hN=>dq (c2i N) (tq Tryz.func25 Hu (tq Tryz.func31 hN Zf)) Tryz.func31
theorem RY:Zr Tryz.prog 28 (fun x:Tm×Unit=>tW x.1) (fun x:Tm×Unit=>(ZA x.1:Int)):=Zr.rec (fun a=>ZA a.1) fun N hN=>dq (b1i N) (tq Tryz.func28 hN Zf) Tryz.func28
theorem LB:Zr Tryz.prog 26 (fun x:Tm×Unit=>tW x.1) (fun x:Tm×Unit=>(Zk x.1:Int)):=Zr.rec (fun a=>ZA a.1) fun N hN=>dq (a6f N) (tq Tryz.func26 hN Zf) Tryz.func26
theorem Xv:Zr Tryz.prog 15 (fun x:Tm×Unit=>tW x.1) (fun x:Tm×Unit=>ZV x.1):=Zr.rec (fun a=>ZA a.1) fun N hN=>dq (b6m N) (tq Tryz.func15 hN Zf) Tryz.func15
theorem OU:Zr Tryz.prog 13 (fun x:Tm×Int×Unit=>tW x.1) (fun x:Tm×Int×Unit=>Q9 x.1 x.2.1):=dq b2t (tq Tryz.func28 RY (tq Tryz.func26 LB (tq Tryz.func15 Xv Zf))) Tryz.func13
theorem Ns:Zr Tryz.prog 51 (fun _:Str×Unit=>true) (fun x:Str×Unit=>vT x.1):=dq d2b Zf Tryz.func51
theorem FW:Zr Tryz.prog 16 (fun _:Str×Tm×Tm×Unit=>true) (fun x:Str×Tm×Tm×Unit=>Eb x.1 x.2.1 x.2.2.1):=dq b6k Zf Tryz.func16
theorem LF:Zr Tryz.prog 16 (fun _:Str×Tm×Tm×Unit=>true) (fun x:Str×Tm×Tm×Unit=>K3 (Eb x.1 x.2.1 x.2.2.1)):=FW.encEq fun a=>(El _).symm
theorem Rx:Zr Tryz.prog 50 (fun _:Str×Unit=>true) (fun x:Str×Unit=>Ni x.1):=dq c1j (tq Tryz.func51 Ns Zf) Tryz.func50
theorem Sa:Zr Tryz.prog 50 (fun _:Str×Unit=>true) (fun x:Str×Unit=>K3 (Ni x.1)):=Rx.encEq fun a=>(El _).symm
theorem RD:Zr Tryz.prog 12 (fun _:Unit=>true) (fun _:Unit=>true):=dq c5a (tq Tryz.func51 Ns (tq Tryz.func16 LF (tq Tryz.func50 Sa (tq Tryz.func22 PL (tq Tryz.func25 Hu (tq Tryz.func30 QT (tq Tryz.func21 Ll (tq Tryz.func18 PR (tq Tryz.func32 Hq Zf))))))))) Tryz.func12
end Go.Proofs.YtgdebdgkofkeeaaGreatDoor
namespace Go.Proofs.YtgdebdgkofkeeaaGreatDoor
open Go.Shelf
def Tryz.keysI_ren:Go.Shelf.Ren:=⟨fun|7=>73|10=>99|n=>n,fun|23=>81|26=>3|3=>4|28=>84|0=>0|27=>83|33=>106|4=>4|n=>n,fun|n=>n⟩
theorem Tryz.keysI:Go.Proofs.SlLaysZI.n7 Tryz.prog Tryz.keysI_ren:={
 mixed:=by kernel_rfl
 f7:=⟨Tryz.f73.name,by decide,Tryz.func73.trans (congrArg some (by kernel_rfl))⟩
 f10:=⟨Tryz.f99.name,by decide,Tryz.func99.trans (congrArg some (by kernel_rfl))⟩
 t0:=Tryz.underlying0
 a0:=Tryz.isAgg0
 z0:=Tryz.sizeOf0
 v0:=Tryz.zeroValue0
 t4:=Tryz.underlying4
 a4:=Tryz.isAgg4
 z4:=Tryz.sizeOf4
 v4:=Tryz.zeroValue4
 t23:=Tryz.underlying81
 a23:=Tryz.isAgg81
 z23:=Tryz.sizeOf81
 v23:=Tryz.zeroValue81
 t26:=Tryz.underlying3
 a26:=Tryz.isAgg3
 z26:=Tryz.sizeOf3
 v26:=Tryz.zeroValue3
 t27:=Tryz.underlying83
 a27:=Tryz.isAgg83
 z27:=Tryz.sizeOf83
 v27:=Tryz.zeroValue83
 t28:=Tryz.underlying84
 a28:=Tryz.isAgg84
 z28:=Tryz.sizeOf84
 v28:=Tryz.zeroValue84
 t33:=Tryz.underlying106
 a33:=Tryz.isAgg106
 z33:=Tryz.sizeOf106
 v33:=Tryz.zeroValue106}
def Tryz.sortedI_ren:Go.Shelf.Ren:=⟨fun|6=>72|8=>97|9=>98|11=>125|13=>105|12=>126|23=>136|24=>137|14=>154|15=>155|16=>156|17=>157|18=>158|19=>159|20=>160|21=>161|22=>162|25=>185|26=>164|27=>165|28=>186|29=>187|30=>188|31=>199|n=>n,fun|26=>3|28=>84|24=>22|0=>0|3=>3|37=>111|48=>138|50=>140|4=>4|40=>130|39=>129|45=>135|5=>5|9=>9|51=>158|55=>162|57=>176|58=>177|33=>106|n=>n,fun|n=>n⟩
theorem Tryz.sortedI:Go.Proofs.SlLaysZI.n6 Tryz.prog Tryz.sortedI_ren:={
 mixed:=by kernel_rfl
 f6:=⟨Tryz.f72.name,by decide,Tryz.func72.trans (congrArg some (by kernel_rfl))⟩
 f8:=⟨Tryz.f97.name,by decide,Tryz.func97.trans (congrArg some (by kernel_rfl))⟩
 f11:=⟨Tryz.f125.name,by decide,Tryz.func125.trans (congrArg some (by kernel_rfl))⟩
 t0:=Tryz.underlying0
 a0:=Tryz.isAgg0
 z0:=Tryz.sizeOf0
 v0:=Tryz.zeroValue0
 t24:=Tryz.underlying22
 a24:=Tryz.isAgg22
 z24:=Tryz.sizeOf22
 v24:=Tryz.zeroValue22
 t26:=Tryz.underlying3
 a26:=Tryz.isAgg3
 z26:=Tryz.sizeOf3
 v26:=Tryz.zeroValue3
 t28:=Tryz.underlying84
 a28:=Tryz.isAgg84
 z28:=Tryz.sizeOf84
 v28:=Tryz.zeroValue84
 i26:=by kernel_rfl}
def Tryz.lays189_ren:Go.Shelf.Ren:=⟨fun|189=>98|125=>105|257=>126|128=>136|129=>137|294=>154|295=>155|296=>156|297=>157|298=>158|299=>159|216=>160|300=>161|301=>162|328=>185|329=>164|330=>165|331=>186|332=>187|215=>188|343=>199|n=>n,fun|28=>22|3=>3|46=>111|0=>0|51=>138|53=>140|4=>4|183=>130|182=>129|131=>135|5=>5|9=>9|218=>158|222=>162|228=>176|229=>177|n=>n,fun|n=>n⟩
theorem Tryz.lays189:Go.Proofs.Lays.n189 Tryz.prog Tryz.lays189_ren:={
 mixed:=by kernel_rfl
 f125:=Tryz.func105.trans (congrArg some (by kernel_rfl))
 f128:=Tryz.func136.trans (congrArg some (by kernel_rfl))
 f129:=Tryz.func137.trans (congrArg some (by kernel_rfl))
 f189:=Tryz.func98.trans (congrArg some (by kernel_rfl))
 f215:=Tryz.func188.trans (congrArg some (by kernel_rfl))
 f216:=Tryz.func160.trans (congrArg some (by kernel_rfl))
 f257:=Tryz.func126.trans (congrArg some (by kernel_rfl))
 f294:=Tryz.func154.trans (congrArg some (by kernel_rfl))
 f295:=Tryz.func155.trans (congrArg some (by kernel_rfl))
 f296:=Tryz.func156.trans (congrArg some (by kernel_rfl))
 f297:=Tryz.func157.trans (congrArg some (by kernel_rfl))
 f298:=Tryz.func158.trans (congrArg some (by kernel_rfl))
 f299:=Tryz.func159.trans (congrArg some (by kernel_rfl))
 f300:=Tryz.func161.trans (congrArg some (by kernel_rfl))
 f301:=Tryz.func162.trans (congrArg some (by kernel_rfl))
 f328:=Tryz.func185.trans (congrArg some (by kernel_rfl))
 f329:=Tryz.func164.trans (congrArg some (by kernel_rfl))
 f330:=Tryz.func165.trans (congrArg some (by kernel_rfl))
 f331:=Tryz.func186.trans (congrArg some (by kernel_rfl))
 f332:=Tryz.func187.trans (congrArg some (by kernel_rfl))
 f343:=Tryz.func199.trans (congrArg some (by kernel_rfl))
 t0:=Tryz.underlying0
 a0:=Tryz.isAgg0
 z0:=Tryz.sizeOf0
 v0:=Tryz.zeroValue0
 t3:=Tryz.underlying3
 a3:=Tryz.isAgg3
 z3:=Tryz.sizeOf3
 v3:=Tryz.zeroValue3
 t4:=Tryz.underlying4
 a4:=Tryz.isAgg4
 z4:=Tryz.sizeOf4
 v4:=Tryz.zeroValue4
 t5:=Tryz.underlying5
 a5:=Tryz.isAgg5
 z5:=Tryz.sizeOf5
 v5:=Tryz.zeroValue5
 t9:=Tryz.underlying9
 a9:=Tryz.isAgg9
 z9:=Tryz.sizeOf9
 v9:=Tryz.zeroValue9
 t28:=Tryz.underlying22
 a28:=Tryz.isAgg22
 z28:=Tryz.sizeOf22
 v28:=Tryz.zeroValue22
 t46:=Tryz.underlying111
 a46:=Tryz.isAgg111
 z46:=Tryz.sizeOf111
 v46:=Tryz.zeroValue111
 t51:=Tryz.underlying138
 a51:=Tryz.isAgg138
 z51:=Tryz.sizeOf138
 v51:=Tryz.zeroValue138
 t53:=Tryz.underlying140
 a53:=Tryz.isAgg140
 z53:=Tryz.sizeOf140
 v53:=Tryz.zeroValue140
 t131:=Tryz.underlying135
 a131:=Tryz.isAgg135
 z131:=Tryz.sizeOf135
 v131:=Tryz.zeroValue135
 t182:=Tryz.underlying129
 a182:=Tryz.isAgg129
 z182:=Tryz.sizeOf129
 v182:=Tryz.zeroValue129
 t183:=Tryz.underlying130
 a183:=Tryz.isAgg130
 z183:=Tryz.sizeOf130
 v183:=Tryz.zeroValue130
 t218:=Tryz.underlying158
 a218:=Tryz.isAgg158
 z218:=Tryz.sizeOf158
 v218:=Tryz.zeroValue158
 t222:=Tryz.underlying162
 a222:=Tryz.isAgg162
 z222:=Tryz.sizeOf162
 v222:=Tryz.zeroValue162
 t228:=Tryz.underlying176
 a228:=Tryz.isAgg176
 z228:=Tryz.sizeOf176
 v228:=Tryz.zeroValue176
 t229:=Tryz.underlying177
 a229:=Tryz.isAgg177
 z229:=Tryz.sizeOf177
 v229:=Tryz.zeroValue177}
end Go.Proofs.YtgdebdgkofkeeaaGreatDoor
namespace Go.Proofs.YtgdebdgkofkeeaaGreatDoor
open Go.RowKit Go.Shelf Go.Pl Go.Proofs
theorem b0a(m:Nat):AnyZI.SortsIn Tryz.prog Tryz.sortedI_ren Fence.wide m:=
  ⟨fun blk off cap ss W hH hblk hsz=>callsIn_wide.2 (Any.slices_Sort_int Tryz.lays189 blk off cap ss W hH hblk hsz),
   fun p cap W=>callsIn_wide.2 (Any.slices_Sort_int_none Tryz.lays189 p cap W)⟩
theorem a8z:SortedCI Tryz.prog 72 99 3 where
 int:=by kernel_rfl
 run:=by
  intro Bm b nn D0 w hBm hm hown hmax hbytes
  have hseq:SeqGives Fence.wide 2 Tryz.prog 99 #[.pointer (some ⟨Bm,0,none⟩)] encZ (fun ss=>ss.Perm (intKeys D0)) (Maps.size D0) w:=
   AnyZI.keys_gives (ρ:=Tryz.keysI_ren) {Tryz.keysI with} Fence.wide _ trivial rfl (by omega) Bm b nn D0 _ hBm hm hown
  exact callsIn_wide.1 (AnyZI.sorted_in Tryz.sortedI Fence.wide 5 trivial trivial trivial trivial rfl (by omega) (b0a _) (enters_of Tryz.func98 (by kernel_rfl) rfl) 99 #[.pointer (some ⟨Bm,0,none⟩)] trivial (enters_of Tryz.func99 (by kernel_rfl) rfl) _ _ hmax hbytes _ hseq)
theorem d3r:ZN Tryz.prog 72 (Vq 99) Ud:=M5 (M8 a8z)
end Go.Proofs.YtgdebdgkofkeeaaGreatDoor
namespace Go.Proofs.YtgdebdgkofkeeaaGreatDoor
open Go.Pl
open Enc (enc dec is)
open EncL (encL decL isL)
set_option maxRecDepth 100000
theorem c2l:ZN Tryz.prog 73 Xf (XJ 99):=Ce (T:=OQ) (ic:=Rm) (rs:=RB) Zf Y5 Tryz.func73 (by kernel_rfl) (by kernel_rfl) (by kernel_rfl) b6c
theorem O0{cd:Code}(h:XI Tryz.prog WI Tryz.f34 0=some cd):Xn Tryz.prog cd=some (.t 7,[8,9],Ht,Hl):=by
 have:(XI Tryz.prog WI Tryz.f34 0).bind (Xn Tryz.prog)=some (.t 7,[8,9],Ht,Hl):=by kernel_rfl
 rw[h]at this
 exact this
theorem b2p(hT:ZO Tryz.prog Qr): ∀ (B:Nat) (c:Ctx),c.w0.heap.size=B->(∀ i m,0<=i->c.μ0 i m=none)->NZ (UI B 4 hT Y5) (fun n cd=>XI Tryz.prog WI Tryz.f34 n=some cd) a4n c:=by
 rintro B c hB hk n cd hcd st a w q hr ⟨rfl,hE⟩
 exact VT hT Y5 UZ (fun x=>by obtain⟨t,l⟩:=x;rfl) (O0 hcd) hB hk hr hE
theorem MH:ZO Tryz.prog Qr:=(Zl (Va Tryz.func58 (by kernel_rfl) G7) (Zl (Va Tryz.func73 (by kernel_rfl) c2l) (Zl (Va Tryz.func72 (by kernel_rfl) d3r) Zf)))
theorem PK:Zr Tryz.prog 34 (fun x:Tm×Unit=>tW x.1&&Q5 x.1) (fun x:Tm×Unit=>Vm x.1):=Zr.ofM (T:=Qr) (ic:=Gj) (rs:=KA) (E:=a4n) (sel:=WI) MH Y5 Tryz.func34 (by kernel_rfl) (by kernel_rfl) (by kernel_rfl) (b2p MH) c0z
end Go.Proofs.YtgdebdgkofkeeaaGreatDoor
namespace Go.Proofs.YtgdebdgkofkeeaaGreatDoor
open Go.Pl
open Enc (enc dec is)
open EncL (encL decL isL)
set_option maxRecDepth 100000
theorem a6s:Zr Tryz.prog 19 (fun x:List Str×List Str×Unit=>decide (x.1.length<=1048576)) (fun x:List Str×List Str×Unit=>decide (x.1=x.2.1)):=Zr.of (T:=Jw) (ic:=Qt) (rs:=Ql) Zf Y5 Tryz.func19 (by kernel_rfl) (by kernel_rfl) (by kernel_rfl) b1u
theorem a7s:Zr Tryz.prog 33 (fun x:List Int×List Int×Unit=>decide (x.1.length<=1048576)) (fun x:List Int×List Int×Unit=>decide (x.1=x.2.1)):=Zr.of (T:=JQ) (ic:=QR) (rs:=QN) Zf Y5 Tryz.func33 (by kernel_rfl) (by kernel_rfl) (by kernel_rfl) b6q
end Go.Proofs.YtgdebdgkofkeeaaGreatDoor
namespace Go.Proofs.YtgdebdgkofkeeaaGreatDoor
open Go.Pl
open Enc (enc dec is)
open EncL (encL decL isL)
set_option maxRecDepth 100000
theorem CS:Zr Tryz.prog 100 (fun x:List Str×Str×Unit=>decide (x.1.length<=1048576)) (fun x:List Str×Str×Unit=>decide (x.2.1∈x.1)):=Zr.of (T:=JU) (ic:=QE) (rs:=Qk) Zf Y5 Tryz.func100 (by kernel_rfl) (by kernel_rfl) (by kernel_rfl) b9a
theorem Mm:Zr Tryz.prog 101 (fun x:Int×Unit=>decide (0<x.1)&&decide (x.1<=4611686018427387904)) (fun x:Int×Unit=>vN x.1.toNat):=Zr.of (T:=Q0) (ic:=Ut) (rs:=UD) Zf Y5 Tryz.func101 (by kernel_rfl) (by kernel_rfl) (by kernel_rfl) a6x
theorem JR:Zr Tryz.prog 36 (fun x:List Str×Str×Unit=>decide (x.1.length<=1048576)) (fun x:List Str×Str×Unit=>Yk x.1 x.2.1):=Zr.of (T:=JV) (ic:=QM) (rs:=Qp) Zf Y5 Tryz.func36 (by kernel_rfl) (by kernel_rfl) (by kernel_rfl) a9v
theorem N8:Zr Tryz.prog 43 (fun x:Tm×Unit=>tW x.1) (fun x:Tm×Unit=>Cb x.1):=Zr.of (T:=ZJ) (ic:=ZG) (rs:=ZF) (Zl (Va Tryz.func15 (by kernel_rfl) Xv) (Zl (Va Tryz.func36 (by kernel_rfl) JR) Zf)) Y5 Tryz.func43 (by kernel_rfl) (by kernel_rfl) (by kernel_rfl) a5a
theorem NF:Zr Tryz.prog 74 (fun x:List Str×Tm×List Str×Unit=>tW x.2.1&&decide (x.1.length+Zk x.2.1<=1048576)&&decide (x.2.2.1.length+ZA x.2.1<=1048576)) (fun x:List Str×Tm×List Str×Unit=>(YK x.2.2.1 x.2.1).foldl Yk x.1):=Zr.rec (fun a=>ZA a.2.1) fun N hN=>Zr.of (T:=V7 N) (ic:=Wz) (rs:=Wx) (Zl (Va Tryz.func100 (by kernel_rfl) CS) (Zl (Va Tryz.func36 (by kernel_rfl) JR) (Zl (Va Tryz.func74 (by kernel_rfl) hN) Zf))) Y5 Tryz.func74 (by kernel_rfl) (by kernel_rfl) (by kernel_rfl) (c5s N)
theorem D5:Zr Tryz.prog 40 (fun x:Tm×Unit=>tW x.1) (fun x:Tm×Unit=>ZX x.1):=Zr.of (T:=a8q) (ic:=Om) (rs:=Ei) (Zl (Va Tryz.func74 (by kernel_rfl) NF) Zf) Y5 Tryz.func40 (by kernel_rfl) (by kernel_rfl) (by kernel_rfl) c6b
theorem Ro:Zr Tryz.prog 41 (fun x:Tm×Unit=>tW x.1) (fun x:Tm×Unit=>((ZV x.1).flatMap Xm).foldl Yk []):=Zr.of (T:=Xt) (ic:=YN) (rs:=YP) (Zl (Va Tryz.func15 (by kernel_rfl) Xv) (Zl (Va Tryz.func36 (by kernel_rfl) JR) Zf)) Y5 Tryz.func41 (by kernel_rfl) (by kernel_rfl) (by kernel_rfl) b4b
theorem Rq:Zr Tryz.prog 44 (fun x:Tm×Unit=>tW x.1) (fun x:Tm×Unit=>UN x.1):=Zr.of (T:=Y0) (ic:=Yu) (rs:=Yv) (Zl (Va Tryz.func15 (by kernel_rfl) Xv) Zf) Y5 Tryz.func44 (by kernel_rfl) (by kernel_rfl) (by kernel_rfl) b1g
theorem AR:Zr Tryz.prog 45 (fun x:Tm×Unit=>tW x.1) (fun x:Tm×Unit=>Vs x.1):=Zr.of (T:=VH) (ic:=Wt) (rs:=Wp) (Zl (Va Tryz.func15 (by kernel_rfl) Xv) Zf) Y5 Tryz.func45 (by kernel_rfl) (by kernel_rfl) (by kernel_rfl) b6i
theorem Ox:Zr Tryz.prog 75 (fun x:Tm×List Str×List Str×List Str×Int×Unit=>tW x.1&&(decide (x.2.1.length=x.2.2.1.length)&&(decide (x.2.1.length+ZA x.1<=1048576)&&(decide (x.2.2.2.1.length<=1048576)&&(decide (1<=x.2.2.2.2.1)&&decide (x.2.2.2.2.1+((Zk x.1*(x.2.2.2.1.length+1):Nat):Int)<=4611686018427387904)))))) (fun x:Tm×List Str×List Str×List Str×Int×Unit=>Sl x.1 x.2.1 x.2.2.1 x.2.2.2.1 x.2.2.2.2.1):=Zr.rec (fun a=>ZA a.1) fun N hN=>Zr.of (T:=YH N) (ic:=Ye) (rs:=Yd) (Zl (Va Tryz.func75 (by kernel_rfl) hN) (Zl (Va Tryz.func100 (by kernel_rfl) CS) (Zl (Va Tryz.func101 (by kernel_rfl) Mm) Zf))) Y5 Tryz.func75 (by kernel_rfl) (by kernel_rfl) (by kernel_rfl) (b9m N)
theorem OI:Zr Tryz.prog 46 (fun x:Tm×Unit=>tW x.1) (fun x:Tm×Unit=>YC x.1):=Zr.of (T:=b5k) (ic:=OJ) (rs:=EI) (Zl (Va Tryz.func75 (by kernel_rfl) Ox) (Zl (Va Tryz.func40 (by kernel_rfl) D5) Zf)) Y5 Tryz.func46 (by kernel_rfl) (by kernel_rfl) (by kernel_rfl) c3o
theorem a7h{cd:Code}(h:XI Tryz.prog WI Tryz.f42 0=some cd):Xn Tryz.prog cd=some (.t 11,[12,13],Ai,Wv):=by
 have:(XI Tryz.prog WI Tryz.f42 0).bind (Xn Tryz.prog)=some (.t 11,[12,13],Ai,Wv):=by kernel_rfl
 rw[h]at this
 exact this
theorem c6g(hT:ZO Tryz.prog Gp): ∀ (B:Nat) (c:Ctx),c.w0.heap.size=B->(∀ i m,0<=i->c.μ0 i m=none)->NZ (UI B 4 hT Y5) (fun n cd=>XI Tryz.prog WI Tryz.f42 n=some cd) tdE c:=by
 rintro B c hB hk n cd hcd st a w q hr ⟨rfl,hE⟩
 exact VT hT Y5 UZ (fun x=>by obtain⟨t,l⟩:=x;rfl) (a7h hcd) hB hk hr hE
theorem EY:ZO Tryz.prog Gp:=(Zl (Va Tryz.func58 (by kernel_rfl) G7) (Zl (Va Tryz.func57 (by kernel_rfl) Ow) (Zl (Va Tryz.func56 (by kernel_rfl) a8y) Zf)))
theorem NN:Zr Tryz.prog 42 (fun x:Tm×Unit=>tW x.1) (fun x:Tm×Unit=>Qf x.1):=Zr.ofM (T:=Gp) (ic:=CY) (rs:=De) (E:=tdE) (sel:=WI) EY Y5 Tryz.func42 (by kernel_rfl) (by kernel_rfl) (by kernel_rfl) (c6g EY) c5b
theorem Rs:Zr Tryz.prog 10 (fun x:Tm×Unit=>decide (Qi x.1+9*Zk x.1<=1048576)&&Q5 x.1) (fun _:Tm×Unit=>true):=Zr.of (T:=b0g) (ic:=EC) (rs:=F6) (Zl (Va Tryz.func12 (by kernel_rfl) RD) (Zl (Va Tryz.func13 (by kernel_rfl) OU) (Zl (Va Tryz.func20 (by kernel_rfl) Fw) (Zl (Va Tryz.func40 (by kernel_rfl) D5) (Zl (Va Tryz.func19 (by kernel_rfl) a6s) (Zl (Va Tryz.func32 (by kernel_rfl) Hq) (Zl (Va Tryz.func41 (by kernel_rfl) Ro) (Zl (Va Tryz.func42 (by kernel_rfl) NN) (Zl (Va Tryz.func43 (by kernel_rfl) N8) (Zl (Va Tryz.func34 (by kernel_rfl) PK) (Zl (Va Tryz.func44 (by kernel_rfl) Rq) (Zl (Va Tryz.func33 (by kernel_rfl) a7s) (Zl (Va Tryz.func37 (by kernel_rfl) Sm) (Zl (Va Tryz.func45 (by kernel_rfl) AR) (Zl (Va Tryz.func30 (by kernel_rfl) QT) (Zl (Va Tryz.func46 (by kernel_rfl) OI) (Zl (Va Tryz.func31 (by kernel_rfl) Pg) Zf))))))))))))))))) Y5 Tryz.func10 (by kernel_rfl) (by kernel_rfl) (by kernel_rfl) c0e
end Go.Proofs.YtgdebdgkofkeeaaGreatDoor
