/-
  Texts of mine that belong together (packed by pack.py), for every input: Post, LaidY, PlGb, OpPr, OpUa, OpUx, ShT, Sh, ShB, ShS, Sk, ShU, Cl, KsR, Ct, KsC, KsN, KsS, KsP, KsQ, KsX, OkUa, ShL, Si, OkUe, OkUf, OkUi.
-/
import Derived.Test.YtgdebdgkofkeeaaGreatDoorChecked
import Derived.Test.YtgdebdgkofkeeaaGreatDoorProg
import Derived.Test.YtgdebdgkofkeeaaGreatDoorRows
import Derived.Test.YtgdebdgkofkeeaaGreatDoorKG2
import Derived.Test.YtgdebdgkofkeeaaGreatDoorKG3
import Derived.Test.YtgdebdgkofkeeaaGreatDoorKG4
import Derived.Below
import Derived.ChangeSame
import Derived.Stop.LaidErr
import Derived.Lib.LaidTab
import Derived.Shelf.Vars
import Derived.KernelRfl
import Derived.Shelf.Strings.Cut
import Derived.Shelf.Strings.Prefix
import Derived.Shelf.SlMaps.Clone
import Derived.Shelf.Strconv.AtoiAll
import Derived.Shelf.Strconv.Itoa3
import Derived.Shelf.Sort.Plain
import Derived.Shelf.Small.Strs
import Derived.Shelf.Slices.In.SortNone
import Derived.Shelf.SlIter.Sorted
import Derived.Shelf.SlIter.Keys
import Derived.Ground.GgzProg
import Derived.WalkKit
import Derived.Deep.LoopGhost
import Derived.Lib.Walk
import Derived.Lib.SliceRun
import Derived.Shelf.SlIterI.Sorted
import Derived.Shelf.SlIterI.Collect
import Derived.Shelf.SlIterI.Keys
set_option linter.unusedVariables false
set_option linter.unusedSimpArgs false
namespace Go.Proofs.YtgdebdgkofkeeaaGreatDoor
open Go.RowKit Go.WideShapes Go.ChangeShapes
section
variable {H:Type} {enc:TypeId×Value->H} {P:Program}
theorem Sw{f:Func}{s:ChangeSpec}{apart fresh handsOn again:Bool}{W W':World}{args:Array Value}{v:Value}{ds gs:List (DataW H)}{before pa pv:List MemPlace}
  (hW:DataW.Whole enc P f.params.toList s.vars apart W args.toList ds gs before)
  (hres : ∀ (b:Nat) (sp:Nat->Bool) (hd:Bool),DataW.TrodAll enc P W' b sp hd f.resultTypes.toList (v.resultList f.resultTypes.size) (s.fn H (ds++gs)).results [])
  (hargs : ∀ sp:Nat->Bool,(∀ p∈before,sp p.block=true)->DataW.TrodAll enc P W' 0 sp true f.params.toList args.toList (s.fn H (ds++gs)).args pa)
  (hvars : ∀ sp:Nat->Bool,(∀ p∈before,sp p.block=true)->DataW.TrodVars enc P W' sp s.vars (s.fn H (ds++gs)).vars pv)
  (hps:before=pa++pv) (hb:Below W.heap.size W W')
  (hok : ∀ (j:Nat) (t:TypeId) (r:Value),f.resultTypes[j]? = some t->(v.resultList f.resultTypes.size)[j]? = some r->Value.okWide P W' .any 0 t r) :
  s.post enc P f apart fresh handsOn again W args v W':=by
 have hlt : ∀ p∈before,p.block<W.heap.size:=fun p hp=>hW.lt p hp
 have hold : ∀ p∈before,(fun b=>decide (b<W.heap.size)) p.block=true:=fun p hp=>by simpa using hlt p hp
 refine⟨ds,gs,before,[],pa,pv,hW,hres _ _ _,hargs _ hold,hvars _ hold,World.keptBut_mono (fun p hp=>⟨hp,?_⟩) (hb.frame (· ∈ before)),fun _=> ?_⟩
 ·rw[hps,List.mem_append]at hp
  exact Or.inr hp
 ·obtain⟨_,_,_,_,_,hz,hn⟩:=hW
  refine⟨hok,_,_,([]++pa)++pv,⟨[]++pa,pv,trodAll_append (hargs _ (fun _ _=>rfl)) (hres _ _ _),hvars _ (fun _ _=>rfl),rfl,?_,?_⟩,?_⟩
  ·intro b off hp
   have hin:MemPlace.cell b off∈before:=by rw[hps];simpa using hp
   rw[hb.frozen (hlt _ hin)]
   exact hz b off hin
  ·intro ha
   have:=hn ha
   rw[hps]at this
   simpa using this
  ·intro p hp _
   rw[hps]
   simpa using hp
end
end Go.Proofs.YtgdebdgkofkeeaaGreatDoor
namespace Go.Proofs.YtgdebdgkofkeeaaGreatDoor
open Go.Pl Go.RowKit Go.ChangeShapes
set_option maxRecDepth 100000
theorem a3m{P:Program}{W:World}{n:String}{g:Nat}{cs:Array Value}(hg:P.globalNamed n=some g)(h:W.var? P n=some cs):Cx W g=some cs:=by
 unfold World.var? at h
 rw[hg]at h
 simp only[Option.bind_some]at h
 unfold Cx
 exact h
theorem c7o:Tryz.prog.globalNamed "internal/strconv.uint64pow10" = some 1:=by kernel_rfl
theorem d5x:Tryz.prog.globalNamed "strconv.ErrRange" = some 5:=by kernel_rfl
theorem d7p:Tryz.prog.globalNamed "strconv.ErrSyntax" = some 4:=by kernel_rfl
theorem a7y:Tryz.prog.underlying 165=some (.interface ((match Tryz.prog.underlying 165 with|some (.interface ms)=>ms|_=>#[]))):=by kernel_rfl
theorem c9w{W:World}{r:List (String×DataW Unit)}(h:laidMet Tryz.prog (("internal/strconv.uint64pow10",Rows.laid_internal_strconv_uint64pow10)::r) W):Cx W 1=some CW:=by
 have h1:Lib.TabIs Tryz.prog W "internal/strconv.uint64pow10" .u64 ((List.range 20).map fun i=>((10 ^ i:Nat):Int)):=Lib.tabIs_of_head (e:=140) (t:=172) c7o (by kernel_rfl) (n:=20) (by kernel_rfl) (by kernel_rfl) (by kernel_rfl) (by kernel_rfl) h
 exact(a3m c7o h1).trans rfl
theorem b3y{W:World}{n:String}{g:Nat}{text:List UInt8}{r:List (String×DataW Unit)}(hg:Tryz.prog.globalNamed n=some g)(ht:(Tryz.prog.globals[g]?).map (·.type)=some 165)(h:laidMet Tryz.prog ((n,.iface "*errors.errorString" (.ptr (.agg [.lit (.string text)])))::r) W): ∃ cs,Cx W g=some cs∧AU cs:=by
 obtain⟨ps,⟨g0,t0,cs0,f0,p0,q0,hg0,ht0,hv0,hd0,_,e0⟩,_,hrows⟩:=h
 obtain rfl:=Option.some.inj (hg.symm.trans hg0)
 obtain rfl:=Option.some.inj (ht.symm.trans ht0)
 subst e0
 refine⟨cs0,a3m hg hv0,?_⟩
 obtain⟨f1,u,v,e,_⟩:=iface_of_trod a7y hd0
 obtain⟨l0⟩:=cs0
 have e:l0=[.iface u v]:=e
 subst e
 exact⟨_,rfl,.inr ⟨u,v,rfl⟩⟩
theorem d6n{W:World}(h:W.ShapedOpen Tryz.prog): ∃ cs m,Cx W 0=some cs∧cs[0]? = some (Value.int .i64 m):=by
 obtain⟨m,hm⟩:=cell_of_shapedOpen_int (g:=0) (t:=3) (zero:=#[.int .i64 0]) (k:=.i64) h (of_decide_eq_true (by kernel_rfl)) (by kernel_rfl) rfl (by kernel_rfl) (by kernel_rfl) (by kernel_rfl)
 unfold World.cell? at hm
 unfold Cx
 split at hm
 ·rename_i cs T fz hh
  exact⟨cs,m,by simp only[hh],by simpa using hm⟩
 ·cases hm
theorem c0m{W:World}{x y:String×DataW Unit}{r:List (String×DataW Unit)}(h:laidMet Tryz.prog (x::y::("internal/strconv.uint64pow10",Rows.laid_internal_strconv_uint64pow10)::("strconv.ErrRange",Rows.laid_strconv_ErrRange)::("strconv.ErrSyntax",Rows.laid_strconv_ErrSyntax)::r) W)(hs:W.ShapedOpen Tryz.prog):GlobOK (Cx W):=
 ⟨b3y d7p (by kernel_rfl) h.tail.tail.tail.tail,b3y d5x (by kernel_rfl) h.tail.tail.tail,c9w h.tail.tail,d6n hs⟩
noncomputable def d8u:DataW Unit->Value
 | .lit (.int k n)=>.int k n
 | _=>.int .i64 0
noncomputable def O7:DataW Unit->Array Value
 | .agg ds=>(ds.map d8u).toArray
 | _=>#[]
noncomputable def b3s:DataW Unit->ByteArray
 | .iface _ (.ptr (.agg [.lit (.string bs)]))=>⟨bs.toArray⟩
 | _=>⟨#[]⟩
noncomputable def low:Nat:=(World.holding Tryz.prog default ⟨#[],#[],[]⟩).heap.size
noncomputable def b6t(cs:Array Value):Obj->Obj
 | .cells _ t frozen=>.cells cs t frozen
 | o=>o
noncomputable def Gf(os:Os):World:=
 let w0:=World.holding Tryz.prog os ⟨#[.cells #[.string (b3s Rows.laid_strconv_ErrRange)] 203,.cells #[.string (b3s Rows.laid_strconv_ErrSyntax)] 203],#[],[]⟩
 {w0 with heap:=((((w0.heap.modify 5 (b6t #[.iface 201 (.pointer (some ⟨low,0,none⟩))])).modify 4 (b6t #[.iface 201 (.pointer (some ⟨low+1,0,none⟩))])).modify 1 (b6t (O7 Rows.laid_internal_strconv_uint64pow10))).modify 2 (b6t (O7 Rows.laid_math_bits_deBruijn32tab))).modify 3 (b6t (O7 Rows.laid_math_bits_deBruijn64tab))}
end Go.Proofs.YtgdebdgkofkeeaaGreatDoor
namespace Go.Pl
open Go.RowKit Go.WideShapes Go.ChangeShapes
abbrev uB{H:Type}(d:DataW H):Nat:=Go.Proofs.YtgdebdgkofkeeaaGreatDoor.Rows.uptoBulk d
abbrev uBs{H:Type}(l:List (DataW H)):Nat:=Go.Proofs.YtgdebdgkofkeeaaGreatDoor.Rows.uptoBulkAll l
theorem UJ{H:Type}(d:DataW H)(l:List (DataW H)):uBs (d::l)=uB d+uBs l:=by unfold uBs uB;rw[Go.Proofs.YtgdebdgkofkeeaaGreatDoor.Rows.uptoBulkAll]
theorem FV{H:Type}(d:DataW H):1<=uB d:=by
 cases d with
 | lit l=>cases l <;> simp[uB,Go.Proofs.YtgdebdgkofkeeaaGreatDoor.Rows.uptoBulk]
 | _=>simp[uB,Go.Proofs.YtgdebdgkofkeeaaGreatDoor.Rows.uptoBulk]
mutual
def pvW:PV->Nat
 | .str s=>s.length+1
 | .sl _ _ xs=>YC xs+1
 | .agg xs=>YC xs
 | _=>1
def YC:List PV->Nat
 | []=>0
 | p::ps=>pvW p+YC ps
end
theorem b5b(a b:List PV):YC (a++b)=YC a+YC b:=by
 induction a with
 | nil=>simp[YC]
 | cons x a ih=>rw[List.cons_append,YC,ih,YC];omega
theorem d4g{P:Program}{e:TypeId}{q:List PV}(hag:Yu P e=true∨P.cellsOf e=1)(hl:q.length=P.cellsOf e):pvW (U6 P e q)<=YC q:=by
 cases ha:Yu P e with
 | true=>simp only[U6,ha];rw[pvW];exact Nat.le_refl _
 | false=>
  have h1:P.cellsOf e=1:=by simpa [ha]using hag
  rw[h1]at hl
  match q,hl with
  | [x],_=>simp only[U6,ha,List.headD_cons];rw[YC,YC];exact Nat.le_refl _
theorem a2t{H:Type}{f:List PV->PV}: ∀ {qs:List (List PV)} {xs:List (DataW H×List MemPlace)},qs.length=xs.length->(∀ (i:Nat) (q:List PV) (x:DataW H×List MemPlace),qs[i]? = some q->xs[i]? = some x->pvW (f q)<=uB x.1)->YC (qs.map f)<=uBs (xs.map (·.1))
 | [],[],_,_=>by simp[YC]
 | q::qs,x::xs,hl,h=>by
  have h0:=h 0 q x rfl rfl
  have h1:=a2t (qs:=qs) (xs:=xs) (by simpa using hl) fun i q x hq hx=>h (i+1) q x (by simpa using hq) (by simpa using hx)
  rw[List.map_cons,YC,List.map_cons,UJ]
  omega
 | [],_::_,hl,_=>by cases hl
 | _::_,[],hl,_=>by cases hl
def b2m(P:Program)(S:List TypeId):Bool:=S.all fun t=>match P.underlying t with|some (.array _ _)=>false|_=>true
section
variable {H:Type} {enc:TypeId×Value->H} {P:Program} {w:World} {base:Nat} {sp:Nat->Bool} {held:Bool} {S:List TypeId}
theorem Rx{n:Nat}{cs:List Value}(ih : ∀ (t:TypeId) (cs:List Value) (x:DataW H×List MemPlace),t∈S->DataW.trod enc P w base sp held n t cs=some x-> ∃ ps,Cl w cs ps∧XM P n t ps∧YC ps<=uB x.1):
  ∀ (fs:List Field) (o N:Nat) (xs:List (DataW H×List MemPlace)),Qc P o fs N=true->(∀ f∈fs,f.type∈S)->cs.length=N->o<=N ->
   fs.mapM (fun f=>DataW.trod enc P w base sp held n f.type ((cs.drop f.offset).take (P.cellsOf f.type)))=some xs ->
   ∃ ps,Cl w (cs.drop o) ps∧YC ps<=uBs (xs.map (·.1))∧ ∀ qs:List PV,qs.length=o->(∀ f∈fs,XM P n f.type (((qs++ps).drop f.offset).take (P.cellsOf f.type))):=by
 intro fs
 induction fs with
 | nil=>
  intro o N xs hc _ hl ho _
  simp[Qc]at hc
  refine⟨[],?_,by simp[YC],fun qs _ f hf=>by simp at hf⟩
  rw[List.drop_of_length_le (by omega)]
  exact Cl.nil
 | cons f fs ihf=>
  intro o N xs hc hm hl ho h
  simp only[Qc,Bool.and_eq_true,beq_iff_eq]at hc
  obtain⟨hfo,hc⟩:=hc
  simp only[List.mapM_cons,Option.bind_eq_bind,Option.bind_eq_some_iff]at h
  obtain⟨x,hx,xs',hxs,e⟩:=h
  cases e
  obtain⟨p1,k1,k2,w1⟩:=ih _ _ x (hm f List.mem_cons_self) hx
  have hle:o+P.cellsOf f.type<=N:=by
   have : ∀ (fs:List Field) (a:Nat),Qc P a fs N=true->a<=N:=by
    intro fs
    induction fs with
    | nil=>intro a h;simp[Qc]at h;omega
    | cons g fs ih=>intro a h;simp only[Qc,Bool.and_eq_true]at h;have:=ih _ h.2;omega
   exact this _ _ hc
  obtain⟨p2,k3,w2,k4⟩:=ihf (o+P.cellsOf f.type) N xs' hc (fun g hg=>hm g (List.mem_cons_of_mem _ hg)) hl hle hxs
  have hp1:p1.length=P.cellsOf f.type:=by
   rw[<- k1.1.1,List.length_take,List.length_drop,hfo]
   omega
  refine⟨p1++p2,?_,by rw[b5b,List.map_cons,UJ];omega,fun qs hq g hg=> ?_⟩
  ·have:=k1.append k3
   rw[hfo]at this
   have e:cs.drop o=(cs.drop o).take (P.cellsOf f.type)++cs.drop (o+P.cellsOf f.type):=by rw[<- List.drop_drop,List.take_append_drop]
   rw[e]
   exact this
  ·rcases List.mem_cons.1 hg with rfl|hg
   ·rw[hfo,<- hq,List.drop_left,<- hp1,List.take_left]
    exact k2
   ·have:=k4 (qs++p1) (by simp[hq,hp1]) g hg
    rwa [List.append_assoc]at this
theorem NM{n:Nat}{e:TypeId}{a:Addr}{len cap:Nat}{xs:List (DataW H×List MemPlace)}(hsz:0<P.cellsOf e)(hag:Yu P e=true∨P.cellsOf e=1)(hcap:len<=cap)(hmax:cap<=maxLen)
  (ih : ∀ (cs:List Value) (x:DataW H×List MemPlace),DataW.trod enc P w base sp held n e cs=some x-> ∃ ps,Cl w cs ps∧XM P n e ps∧YC ps<=uB x.1)
  (h:(List.range len).mapM (fun i=>(w.cells? base (a.add (i*P.cellsOf e)) (P.cellsOf e)).bind (DataW.trod enc P w base sp held n e))=some xs) :
  ∃ qs:List (List PV),RP (Cx w) (.slice (some a) len cap) (.sl (P.cellsOf e) false (qs.map (U6 P e)))∧qs.length<=maxLen∧(∀ q∈qs,q.length=P.cellsOf e∧XM P n e q)∧YC (qs.map (U6 P e))<=uBs (xs.map (·.1)):=by
 obtain⟨hl,hg⟩:=Me h
 rw[List.length_range]at hl
 have key : ∀ i,i<len-> ∃ q:List PV,(q.length=P.cellsOf e∧XM P n e q∧ ∃ x,xs[i]? = some x∧YC q<=uB x.1)∧ ∀ (r:Nat) p,q[r]? = some p-> ∃ v,w.cell? (a.add (i*P.cellsOf e+r))=some v∧v.oneCell'=true∧RP (Cx w) v p:=by
  intro i hi
  have hx:=List.getElem?_eq_getElem (show i<xs.length by omega)
  have:=hg i i _ (by simp[hi]) hx
  rw[Option.bind_eq_some_iff]at this
  obtain⟨cs,h1,h2⟩:=this
  obtain⟨q,k1,k2,k3⟩:=ih cs _ h2
  obtain⟨c1,c2⟩:=a5y h1
  refine⟨q,⟨by rw[<- k1.1.1,c1],k2,_,hx,k3⟩,fun r p hp=> ?_⟩
  have hr:r<cs.length:=by rw[k1.1.1];exact(List.getElem?_eq_some_iff.1 hp).1
  have hv:=List.getElem?_eq_getElem hr
  refine⟨_,?_,k1.2 _ (List.getElem_mem hr),k1.1.2 r _ p hv hp⟩
  rw[<- a6w]
  exact c2 r _ hv
 obtain⟨qs,hq1,hq2⟩:=NY len key
 have hcells : ∀ q∈qs,(U6 P e q).cells=q:=by
  intro q hq
  obtain⟨i,hi,rfl⟩:=List.getElem_of_mem hq
  have:=(hq2 i _ (List.getElem?_eq_getElem hi)).1
  exact a5c hag this.1 fun ha=>b3o this.2.1 ha
 refine⟨qs,?_,by omega,fun q hq=> ?_,?_⟩
 ·by_cases h0:len=0
  ·subst h0
   have:qs=[]:=List.length_eq_zero_iff.1 hq1
   subst this
   exact .sl0 _ _ _ _ fun e=>by cases e
  ·-- the first cell tells the block
   obtain⟨b,off,cs,rfl,hb,-⟩ : ∃ b off cs,a=⟨b,off,none⟩∧Cx w b=some cs∧True:=by
    have hq0:=List.getElem?_eq_getElem (show 0<qs.length by omega)
    obtain⟨⟨f1,f2,-⟩,f3⟩:=hq2 0 _ hq0
    have hp:=List.getElem?_eq_getElem (show 0<(qs[0]'(by omega)).length by omega)
    obtain⟨v,hv,_⟩:=f3 0 _ hp
    simp[Addr.add]at hv
    obtain⟨b,off,cs,e1,e2,_⟩:=TP hv
    exact⟨b,off,cs,e1,e2,trivial⟩
   have hs : ∀ x∈qs.map (U6 P e),x.cells.length=P.cellsOf e:=by
    intro x hx
    obtain⟨q,hq,rfl⟩:=List.mem_map.1 hx
    rw[hcells q hq]
    obtain⟨i,hi,rfl⟩:=List.getElem_of_mem hq
    exact(hq2 i _ (List.getElem?_eq_getElem hi)).1.1
   have hat : ∀ (j:Nat) p,(flat (qs.map (U6 P e)))[j]? = some p-> ∃ v,cs[off+j]? = some v∧v.oneCell'=true∧RP (Cx w) v p:=by
    intro j p hp
    have hj:j<len*P.cellsOf e:=by
     have:=(List.getElem?_eq_some_iff.1 hp).1
     rw[Y9 hs]at this
     simpa [hq1]using this
    have hi:j / P.cellsOf e<qs.length:=by rw[hq1];exact(Nat.div_lt_iff_lt_mul hsz).2 hj
    have hr:j % P.cellsOf e<P.cellsOf e:=Nat.mod_lt _ hsz
    have hqi:=List.getElem?_eq_getElem hi
    have e0:j=j / P.cellsOf e*P.cellsOf e+j % P.cellsOf e:=by rw[Nat.mul_comm];exact(Nat.div_add_mod _ _).symm
    have hxi:(qs.map (U6 P e))[j / P.cellsOf e]? = some (U6 P e qs[j / P.cellsOf e]):=by rw[List.getElem?_map,hqi];rfl
    have hfg:=Bi hs hxi hr
    rw[<- e0,hcells _ (List.getElem_mem hi)]at hfg
    rw[hfg]at hp
    obtain⟨v,hv,h1,h2⟩:=(hq2 _ _ hqi).2 _ p hp
    rw[<- e0,ZP]at hv
    obtain⟨b',off',cs',e1,e2,e3⟩:=TP hv
    cases e1
    rw[hb]at e2
    cases e2
    exact⟨v,e3,h1,h2⟩
   have hlen:len=(qs.map (U6 P e)).length:=by simp[hq1]
   rw[hlen]
   refine .sl b off cs cap _ false _ (fun j=>(cs[off+j]?).getD default) hb (by rw[<- hlen];exact hcap) (fun e=>by cases e) hs (fun j p hp=> ?_) (fun j p hp=> ?_)
   ·obtain⟨v,h1,h2,h3⟩:=hat j p hp
    rw[h1]
    exact⟨rfl,h2⟩
   ·obtain⟨v,h1,h2,h3⟩:=hat j p hp
    rw[h1]
    exact h3
 ·obtain⟨i,hi,rfl⟩:=List.getElem_of_mem hq
  have:=(hq2 i _ (List.getElem?_eq_getElem hi)).1
  exact⟨this.1,this.2.1⟩
 ·refine a2t (by rw[hq1,hl]) fun i q x hq hx=> ?_
  have:=(hq2 i q hq).1
  obtain⟨y,hy,hw⟩:=this.2.2
  rw[hx]at hy
  cases hy
  have hm:=d4g (P:=P) (e:=e) (q:=q) hag this.1
  omega
theorem Et(hS:Pb P S=true)(hA:b2m P S=true): ∀ (n:Nat) (t:TypeId) (cs:List Value) (x:DataW H×List MemPlace),t∈S->DataW.trod enc P w base sp held n t cs=some x-> ∃ ps,Cl w cs ps∧XM P n t ps∧YC ps<=uB x.1:=by
  intro n
  induction n with
  | zero=>intro t cs x _ h;simp[DataW.trod]at h
  | succ n ih=>
    intro t cs x ht h
    have hp:=SS hS ht
    have hna:=List.all_eq_true.1 hA t ht
    unfold DataW.trod at h
    unfold XM
    split at h <;> (try rename_i hu) <;> (try simp only[hu]at hp hna ⊢) <;> try (cases hp;done)
    all_goals first
      | (exact⟨_,Cl.one (.bool _) rfl,⟨_,rfl⟩,FV _⟩)
      | (split at h
         · rename_i hc
           obtain⟨rfl,hw⟩:=hc
           exact⟨_,Cl.one (.int _ _) rfl,⟨_,rfl,hw⟩,FV _⟩
         · cases h)
      | (split at h
         · rename_i hc
           cases h
           refine⟨_,Cl.one (.str _) rfl,⟨_,rfl,hc⟩,?_⟩
           show YC [PV.str _]<=Go.Proofs.YtgdebdgkofkeeaaGreatDoor.Rows.uptoBulk (DataW.lit (.string _))
           rw[Go.Proofs.YtgdebdgkofkeeaaGreatDoor.Rows.uptoBulk,YC,YC,pvW]
           omega
         · cases h)
      | (cases h;done)
      | (cases hna;done)
      | skip
    · exact⟨_,Cl.one (.sl0 _ _ _ false (fun e=>by cases e)) rfl,⟨[],rfl,by simp,fun q hq=>by simp at hq⟩,FV _⟩
    · rename_i e a len cap
      simp only[Bool.and_eq_true,Bool.or_eq_true,beq_iff_eq,decide_eq_true_eq]at hp
      simp only at h
      split at h
      · rename_i hc
        obtain⟨xs,h1,h3⟩:=Option.bind_eq_some_iff.1 h
        obtain⟨ys,h4,rfl⟩:=Option.map_eq_some_iff.1 h3
        obtain⟨qs,k1,k2,k3,k4⟩:=NM hp.1.2 hp.2 hc.2.1 hc.2.2 (fun cs x hx=>ih e cs x (by simpa using hp.1.1.2) hx) h1
        refine⟨_,Cl.one k1 rfl,⟨qs,rfl,k2,k3⟩,?_⟩
        show YC [PV.sl _ false (qs.map (U6 P e))]<=Go.Proofs.YtgdebdgkofkeeaaGreatDoor.Rows.uptoBulk (DataW.slice (xs.map (·.1)) (ys.map (·.1)))
        rw[Go.Proofs.YtgdebdgkofkeeaaGreatDoor.Rows.uptoBulk,YC,YC,pvW]
        have:YC (qs.map (U6 P e))<=Go.Proofs.YtgdebdgkofkeeaaGreatDoor.Rows.uptoBulkAll (xs.map (·.1)):=k4
        omega
      · cases h
    · rename_i cs2 fs
      simp only[Bool.and_eq_true]at hp
      split at h
      · rename_i hc
        rw[Option.map_eq_some_iff]at h
        obtain⟨xs,h1,rfl⟩:=h
        obtain⟨ps,k1,k3,k2⟩:=Rx ih fs.toList 0 (P.cellsOf t) xs hp.1 (fun f hf=>by simpa using List.all_eq_true.1 hp.2 f hf) hc (Nat.zero_le _) h1
        rw[List.drop_zero]at k1
        refine⟨ps,k1,⟨by rw[<- k1.1.1,hc],fun f hf=>by simpa using k2 [] rfl f hf⟩,?_⟩
        show YC ps<=Go.Proofs.YtgdebdgkofkeeaaGreatDoor.Rows.uptoBulk (DataW.agg (xs.map (·.1)))
        rw[Go.Proofs.YtgdebdgkofkeeaaGreatDoor.Rows.uptoBulk]
        have:YC ps<=Go.Proofs.YtgdebdgkofkeeaaGreatDoor.Rows.uptoBulkAll (xs.map (·.1)):=k3
        omega
      · cases h
theorem Dj(hS:Pb P S=true)(hA:b2m P S=true){t:TypeId}(ht:t∈S){r:Reach}{b0:Nat}{v:Value}{d:DataW H}{p:List MemPlace}(hval:Value.okWide P w r b0 t v)(h:DataW.Trod enc P w base sp held t v d p):
  ∃ n q,RP (Cx w) v (U6 P t q)∧XM P n t q∧YC q<=uB d:=by
 obtain⟨n,h⟩:=h
 obtain⟨q,k1,k2,k3⟩:=Et hS hA n t _ _ ht h
 refine⟨n,q,?_,k2,k3⟩
 have hp:=SS hS ht
 have scal:v.cells = #[v]->Yu P t=false->RP (Cx w) v (U6 P t q):=by
  intro hc ha
  rw[hc]at k1
  have hl:=k1.1.1
  match q,hl with
  | [x],_=>simp only[U6,ha,List.headD_cons];exact k1.1.2 0 v x rfl rfl
 have agg : ∀ cs,v = .agg cs->Yu P t=true->RP (Cx w) v (U6 P t q):=by
  rintro cs rfl ha
  simp only[U6,ha]
  exact .agg cs q (by have:=k1.1.1;simpa [Value.cells]using this) (fun x hx=>k1.2 x (by simpa [Value.cells]using hx)) fun j x y hx hy=>k1.1.2 j x y (by simpa [Value.cells]using hx) hy
 split at hp
 ·rename_i hu
  obtain⟨b,rfl⟩:=okWide_bool hu hval
  exact scal rfl (by simp[Yu,hu])
 ·rename_i hu
  obtain⟨b,rfl⟩:=okWide_int hu hval
  exact scal rfl (by simp[Yu,hu])
 ·rename_i hu
  obtain⟨b,rfl⟩:=okWide_string hu hval
  exact scal rfl (by simp[Yu,hu])
 ·rename_i hu
  obtain⟨a,l,c,rfl⟩:=okWide_slice hu hval
  exact scal rfl (by simp[Yu,hu])
 ·rename_i hu
  simp only[Value.okWide,hu]at hval
  obtain⟨cs,rfl,_⟩:=hval
  exact agg cs rfl (by simp[Yu,hu])
 ·rename_i hu
  simp only[Value.okWide,hu]at hval
  obtain⟨cs,rfl,_⟩:=hval
  exact agg cs rfl (by simp[Yu,hu])
 ·cases hp
end
end Go.Pl
namespace Go.Pl
open Enc (enc dec is)
open EncL (encL decL isL)
theorem Ec(l:List Int):YC (l.map enc)=l.length:=by
 induction l with
 | nil=>rfl
 | cons a l ih=>rw[List.map_cons,YC,ih,List.length_cons];show 1+_=_;omega
theorem c2b(l:List Coef):YC (l.map enc)=(l.map wCf).sum:=by
 induction l with
 | nil=>rfl
 | cons a l ih=>
  rw[List.map_cons,YC,ih,List.map_cons,List.sum_cons]
  rfl
theorem c9g(l:List Lin):YC (l.map enc)=(l.map wLn).sum:=by
 induction l with
 | nil=>rfl
 | cons a l ih=>
  rw[List.map_cons,YC,ih,List.map_cons,List.sum_cons]
  congr 1
  show pvW (.agg [.int .i64 a.k,.sl 2 false (a.t.map enc)])=_
  simp only[pvW,YC,c2b]
  unfold wLn
  omega
end Go.Pl
namespace Go.Proofs.YtgdebdgkofkeeaaGreatDoor
open Go.Pl
set_option maxRecDepth 100000
open Enc (enc dec is)
open EncL (encL decL isL)
theorem Kv:Tryz.prog.underlying 3=some (.int .i64):=by kernel_rfl
theorem Pk:Tryz.prog.underlying 9=some .string:=by kernel_rfl
theorem a9j:Tryz.prog.underlying 22=some (.slice 3):=by kernel_rfl
theorem b1i:Tryz.prog.underlying 60=some (.slice 89):=by kernel_rfl
theorem b7e:Tryz.prog.underlying 25=some (.slice 62):=by kernel_rfl
theorem b6n:Tryz.prog.underlying 26=some (.slice 28):=by kernel_rfl
theorem Cz:Tryz.prog.cellsOf 3=1:=by kernel_rfl
theorem Rt:Tryz.prog.cellsOf 9=1:=by kernel_rfl
theorem Ld:Tryz.prog.cellsOf 22=1:=by kernel_rfl
theorem b5c:Tryz.prog.cellsOf 60=1:=by kernel_rfl
theorem b4t:Tryz.prog.cellsOf 25=1:=by kernel_rfl
theorem b5s:Tryz.prog.cellsOf 26=1:=by kernel_rfl
theorem NB:Tryz.prog.cellsOf 89=2:=by kernel_rfl
theorem Lx:Tryz.prog.cellsOf 62=2:=by kernel_rfl
theorem NQ:Tryz.prog.cellsOf 24=3:=by kernel_rfl
theorem Ff:Tryz.prog.cellsOf 28=10:=by kernel_rfl
theorem c8y:Yu Tryz.prog 89=true:=by kernel_rfl
theorem d3h:Yu Tryz.prog 62=true:=by kernel_rfl
theorem b4w:Yu Tryz.prog 28=true:=by kernel_rfl
theorem b8i:KM Tryz.prog 89=some [(0,9),(1,3)]:=by kernel_rfl
theorem b4e:KM Tryz.prog 62=some [(0,3),(1,60)]:=by kernel_rfl
theorem b8m:KM Tryz.prog 24=some [(0,9),(1,22),(2,22)]:=by kernel_rfl
theorem a9c:KM Tryz.prog 28=some [(0,3),(1,3),(2,9),(3,3),(4,24),(7,25),(8,22),(9,26)]:=by kernel_rfl
theorem CE{α:Type}[Enc α]{f:List PV->PV}: ∀ {qs:List (List PV)},(∀ q∈qs,∃ a:α,f q=enc a)-> ∃ l:List α,qs.map f=l.map enc
 | [],_=>⟨[],rfl⟩
 | q::qs,h=>by
  obtain⟨a,e⟩:=h q (by simp)
  obtain⟨l,e2⟩:=CE (qs:=qs) fun x hx=>h x (by simp[hx])
  exact⟨a::l,by rw[List.map_cons,List.map_cons,e,e2]⟩
theorem c1g{n:Nat}{q:List PV}(h:XM Tryz.prog n 89 q): ∃ t:Coef,U6 Tryz.prog 89 q=enc t:=by
 obtain⟨m,_,hl,h0,h1,_⟩:=Ul b8i NB h
 match q,hl with
 | [a,b],_=>
  rw[Rt]at h0
  rw[Cz]at h1
  obtain⟨s,e0,_⟩:=Ar Pk h0
  obtain⟨k,e1,_⟩:=VT Kv h1
  simp at e0 e1
  subst e0 e1
  exact⟨⟨⟨s⟩,k⟩,by rw[U6,c8y];rfl⟩
theorem Na{n:Nat}{q:List PV}(h:XM Tryz.prog n 22 q): ∃ l:List Int,q=[enc l]:=by
 obtain⟨zs,e,_⟩:=a7b a9j Kv Cz h
 exact⟨zs,e⟩
theorem c2c{n:Nat}{q:List PV}(h:XM Tryz.prog n 62 q): ∃ l:Lin,U6 Tryz.prog 62 q=enc l:=by
 obtain⟨m,_,hl,h0,h1,_⟩:=Ul b4e Lx h
 match q,hl with
 | [a,b],_=>
  rw[Cz]at h0
  rw[b5c]at h1
  obtain⟨k,e0,_⟩:=VT Kv h0
  obtain⟨m',_,qs,e1,_,hq⟩:=Qs b1i NB h1
  obtain⟨l,e2⟩:=CE (α:=Coef) (f:=U6 Tryz.prog 89) fun x hx=>c1g (hq x hx).2
  simp at e0 e1
  subst e0 e1
  exact⟨⟨k,l⟩,by rw[U6,d3h,e2];rfl⟩
theorem b9j: ∀ (n:Nat) {q:List PV},XM Tryz.prog n 28 q-> ∃ t:Tm,U6 Tryz.prog 28 q=enc t:=by
 intro n
 induction n using Nat.strongRecOn with
 | ind n ih=>
  intro q h
  obtain⟨m,hm,hl,h0,h1,h2,h3,h4,h5,h6,h7,_⟩:=Ul a9c Ff h
  match q,hl with
  | [a,b,c,d,e,f,g,i,j,k],_=>
   rw[Cz]at h0 h1 h3
   rw[Rt]at h2
   rw[NQ]at h4
   rw[b4t]at h5
   rw[Ld]at h6
   rw[b5s]at h7
   obtain⟨v0,e0,_⟩:=VT Kv h0
   obtain⟨v1,e1,_⟩:=VT Kv h1
   obtain⟨v2,e2,_⟩:=Ar Pk h2
   obtain⟨v3,e3,_⟩:=VT Kv h3
   obtain⟨m4,_,_,k0,k1,k2,_⟩:=Ul b8m NQ h4
   rw[Rt]at k0
   rw[Ld]at k1 k2
   obtain⟨v4,e4,_⟩:=Ar Pk k0
   obtain⟨v5,e5⟩:=Na k1
   obtain⟨v6,e6⟩:=Na k2
   obtain⟨m7,_,qs,e7,_,hq⟩:=Qs b7e Lx h5
   obtain⟨v7,e7'⟩:=CE (α:=Lin) (f:=U6 Tryz.prog 62) fun x hx=>c2c (hq x hx).2
   obtain⟨v8,e8⟩:=Na h6
   obtain⟨m9,hm9,ts,e9,_,ht⟩:=Qs b6n Ff h7
   obtain⟨v9,e9'⟩:=CE (α:=Tm) (f:=U6 Tryz.prog 28) fun x hx=>ih m9 (by omega) (ht x hx).2
   simp at e0 e1 e2 e3 e4 e5 e6 e7 e8 e9
   subst e0 e1 e2 e3 e4 e5 e6 e7 e8 e9
   exact⟨.mk ⟨v0,v1,⟨v2⟩,v3,⟨v4⟩,v5,v6,v7,v8⟩ v9,by rw[U6,b4w,ZE,e7',e9'];rfl⟩
end Go.Proofs.YtgdebdgkofkeeaaGreatDoor
namespace Go.Pl
open Enc (enc dec is)
open EncL (encL decL isL)
mutual
theorem a9r: ∀ t:Tm,Sc t+9*Zt t<=pvW (tmP t)
 | .mk n ks=>by
  have h:=a3f ks
  have h1:=Ec n.dims
  have h2:=Ec n.data
  have h3:=Ec n.ranks
  have h4:=c9g n.sizes
  rw[tmP,Sc,Zt]
  show Eb n+Qj ks+9*(Zr ks+1)<=pvW (.agg [.int .i64 n.kind,.int .i64 n.line,.str n.name.s,.int .i64 n.num,.str n.elem.s,.sl 1 false (n.dims.map enc),.sl 1 false (n.data.map enc),.sl 2 false (n.sizes.map enc),.sl 1 false (n.ranks.map enc),.sl 10 false (K7 ks)])
  simp only[pvW,YC,h1,h2,h3,h4]
  unfold Eb
  omega
theorem a3f: ∀ ks:List Tm,Qj ks+9*Zr ks<=YC (K7 ks)
 | []=>by simp[Qj,K7,YC,Zr]
 | k::ks=>by
  have h1:=a9r k
  have h2:=a3f ks
  rw[Qj,K7,YC,Zr];omega
end
end Go.Pl
namespace Go.Proofs.YtgdebdgkofkeeaaGreatDoor
open Go.Pl
set_option maxRecDepth 100000
open Enc (enc dec is)
open EncL (encL decL isL)
theorem c2j{n:Nat}{q:List PV}(h:XM Tryz.prog n 28 q): ∃ t:Tm,U6 Tryz.prog 28 q=enc t∧Sc t+9*Zt t<=YC q:=by
 obtain⟨t,e⟩:=b9j n h
 refine⟨t,e,?_⟩
 have h1:=a9r t
 have h2:pvW (U6 Tryz.prog 28 q)<=YC q:=by simp only[U6,b4w];rw[pvW];exact Nat.le_refl _
 rw[e]at h2
 have h3:pvW (tmP t)<=YC q:=h2
 omega
end Go.Proofs.YtgdebdgkofkeeaaGreatDoor
namespace Go.Proofs.YtgdebdgkofkeeaaGreatDoor
open Go.Pl
set_option maxRecDepth 100000
open Enc (enc dec is)
open EncL (encL decL isL)
theorem c2u:Tryz.prog.underlying 5=some (.int .u8):=by kernel_rfl
theorem d3q:Yu Tryz.prog 5=false:=by kernel_rfl
theorem b6u{n:Nat}{q:List PV}(h:XM Tryz.prog n 5 q): ∃ c:UInt8,U6 Tryz.prog 5 q=enc c:=by
 obtain⟨m,rfl,hm⟩:=VT c2u h
 have h0:0<=m∧m<=255:=by
  have:=hm
  simp only[Lit.wf,Bool.and_eq_true,decide_eq_true_eq,show IntKind.u8.min=0 by decide,show IntKind.u8.max=255 by decide]at this
  exact this
 refine⟨UInt8.ofNat m.toNat,?_⟩
 rw[U6,d3q]
 show PV.int .u8 m=PV.int .u8 ((UInt8.ofNat m.toNat).toNat:Int)
 rw[UInt8.toNat_ofNat']
 congr 1
 omega
theorem Ey{n0 n1 n2:Nat}{q0 q1 q2:List PV}(h0:XM Tryz.prog n0 28 q0)(h1:XM Tryz.prog n1 5 q1)(h2:XM Tryz.prog n2 5 q2)(hw:YC q0+YC q1+YC q2<=1048576):
  preT (fun x:Tm×UInt8×UInt8×Unit=>tW x.1) [U6 Tryz.prog 28 q0,U6 Tryz.prog 5 q1,U6 Tryz.prog 5 q2]=true:=by
 obtain⟨a,e0,w0⟩:=c2j h0
 obtain⟨b,e1⟩:=b6u h1
 obtain⟨c,e2⟩:=b6u h2
 rw[e0,e1,e2]
 refine Ze (a,b,c,()) rfl (decide_eq_true ?_)
 show Sc a<=1048576
 omega
end Go.Proofs.YtgdebdgkofkeeaaGreatDoor
namespace Go.Proofs.YtgdebdgkofkeeaaGreatDoor
open Go.Shelf
def Tryz.lays145_ren:Go.Shelf.Ren:=⟨fun|145=>145|220=>174|219=>194|217=>205|225=>206|224=>207|267=>208|266=>212|314=>213|n=>n,fun|9=>9|4=>4|59=>146|3=>3|5=>5|46=>111|146=>197|51=>138|n=>n,fun|1=>0|n=>n⟩
theorem Tryz.lays145:Go.Proofs.Lays.n145 Tryz.prog Tryz.lays145_ren:={
 mixed:=by kernel_rfl
 f145:=Tryz.func145.trans (congrArg some (by kernel_rfl))
 f217:=Tryz.func205.trans (congrArg some (by kernel_rfl))
 f219:=Tryz.func194.trans (congrArg some (by kernel_rfl))
 f220:=Tryz.func174.trans (congrArg some (by kernel_rfl))
 f224:=Tryz.func207.trans (congrArg some (by kernel_rfl))
 f225:=Tryz.func206.trans (congrArg some (by kernel_rfl))
 f266:=Tryz.func212.trans (congrArg some (by kernel_rfl))
 f267:=Tryz.func208.trans (congrArg some (by kernel_rfl))
 f314:=Tryz.func213.trans (congrArg some (by kernel_rfl))
 t3:=Tryz.underlying3
 a3:=Tryz.isAgg3
 z3:=Tryz.sizeOf3
 v3:=Tryz.zeroValue3
 t4:=Tryz.underlying4
 a4:=Tryz.isAgg4
 z4:=Tryz.sizeOf4
 v4:=Tryz.zeroValue4
 t5:=Tryz.underlying5
 a5:=Tryz.isAgg5
 z5:=Tryz.sizeOf5
 v5:=Tryz.zeroValue5
 t9:=Tryz.underlying9
 a9:=Tryz.isAgg9
 z9:=Tryz.sizeOf9
 v9:=Tryz.zeroValue9
 t46:=Tryz.underlying111
 a46:=Tryz.isAgg111
 z46:=Tryz.sizeOf111
 v46:=Tryz.zeroValue111
 t51:=Tryz.underlying138
 a51:=Tryz.isAgg138
 z51:=Tryz.sizeOf138
 v51:=Tryz.zeroValue138
 t59:=Tryz.underlying146
 a59:=Tryz.isAgg146
 z59:=Tryz.sizeOf146
 v59:=Tryz.zeroValue146
 t146:=Tryz.underlying197
 a146:=Tryz.isAgg197
 z146:=Tryz.sizeOf197
 v146:=Tryz.zeroValue197
 g1:=by kernel_rfl}
def Tryz.lays106_ren:Go.Shelf.Ren:=⟨fun|106=>122|213=>149|265=>180|n=>n,fun|9=>9|3=>3|n=>n,fun|n=>n⟩
theorem Tryz.lays106:Go.Proofs.Lays.n106 Tryz.prog Tryz.lays106_ren:={
 mixed:=by kernel_rfl
 f106:=Tryz.func122.trans (congrArg some (by kernel_rfl))
 f213:=Tryz.func149.trans (congrArg some (by kernel_rfl))
 f265:=Tryz.func180.trans (congrArg some (by kernel_rfl))
 t3:=Tryz.underlying3
 a3:=Tryz.isAgg3
 z3:=Tryz.sizeOf3
 v3:=Tryz.zeroValue3
 t9:=Tryz.underlying9
 a9:=Tryz.isAgg9
 z9:=Tryz.sizeOf9
 v9:=Tryz.zeroValue9}
def Tryz.mcB_ren:Go.Shelf.Ren:=⟨fun|5=>76|7=>102|n=>n,fun|23=>64|25=>9|3=>4|4=>4|20=>20|n=>n,fun|n=>n⟩
theorem Tryz.mcB:Go.Proofs.SlLaysW.n5 Tryz.prog Tryz.mcB_ren:={
 mixed:=by kernel_rfl
 f5:=⟨Tryz.f76.name,by decide,Tryz.func76.trans (congrArg some (by kernel_rfl))⟩
 f7:=Tryz.func102.trans (congrArg some (by kernel_rfl))
 t4:=Tryz.underlying4
 a4:=Tryz.isAgg4
 z4:=Tryz.sizeOf4
 v4:=Tryz.zeroValue4
 t20:=Tryz.underlying20
 a20:=Tryz.isAgg20
 z20:=Tryz.sizeOf20
 v20:=Tryz.zeroValue20
 t23:=Tryz.underlying64
 a23:=Tryz.isAgg64
 z23:=Tryz.sizeOf64
 v23:=Tryz.zeroValue64}
def Tryz.mcS_ren:Go.Shelf.Ren:=⟨fun|5=>92|7=>102|n=>n,fun|23=>80|25=>9|3=>9|4=>4|20=>20|n=>n,fun|n=>n⟩
theorem Tryz.mcS:Go.Proofs.SlLaysW.n5 Tryz.prog Tryz.mcS_ren:={
 mixed:=by kernel_rfl
 f5:=⟨Tryz.f92.name,by decide,Tryz.func92.trans (congrArg some (by kernel_rfl))⟩
 f7:=Tryz.func102.trans (congrArg some (by kernel_rfl))
 t4:=Tryz.underlying4
 a4:=Tryz.isAgg4
 z4:=Tryz.sizeOf4
 v4:=Tryz.zeroValue4
 t20:=Tryz.underlying20
 a20:=Tryz.isAgg20
 z20:=Tryz.sizeOf20
 v20:=Tryz.zeroValue20
 t23:=Tryz.underlying80
 a23:=Tryz.isAgg80
 z23:=Tryz.sizeOf80
 v23:=Tryz.zeroValue80}
def Tryz.lays172_ren:Go.Shelf.Ren:=⟨fun|172=>170|244=>191|245=>192|247=>200|279=>201|280=>202|281=>203|282=>204|287=>209|316=>210|171=>68|205=>211|321=>214|322=>215|243=>90|246=>124|283=>150|284=>151|285=>152|286=>153|129=>137|317=>181|318=>182|319=>183|320=>184|337=>197|338=>198|n=>n,fun|9=>9|3=>3|75=>165|76=>166|4=>4|5=>5|167=>182|37=>127|0=>0|85=>183|2=>2|168=>185|53=>140|175=>191|46=>111|210=>195|127=>200|145=>203|143=>201|21=>21|171=>148|173=>150|212=>172|51=>138|20=>20|213=>173|232=>189|233=>190|80=>78|n=>n,fun|15=>4|16=>5|17=>1|18=>2|19=>3|n=>n⟩
theorem Tryz.lays172:Go.Proofs.LaysC.n172 Tryz.prog Tryz.lays172_ren:={
 mixed:=by kernel_rfl
 f129:=Tryz.func137.trans (congrArg some (by kernel_rfl))
 f171:=Tryz.func68.trans (congrArg some (by kernel_rfl))
 f172:=Tryz.func170.trans (congrArg some (by kernel_rfl))
 f205:=Tryz.func211.trans (congrArg some (by kernel_rfl))
 f243:=Tryz.func90.trans (congrArg some (by kernel_rfl))
 f244:=Tryz.func191.trans (congrArg some (by kernel_rfl))
 f245:=Tryz.func192.trans (congrArg some (by kernel_rfl))
 f246:=Tryz.func124.trans (congrArg some (by kernel_rfl))
 f247:=Tryz.func200.trans (congrArg some (by kernel_rfl))
 f279:=Tryz.func201.trans (congrArg some (by kernel_rfl))
 f280:=Tryz.func202.trans (congrArg some (by kernel_rfl))
 f281:=Tryz.func203.trans (congrArg some (by kernel_rfl))
 f282:=Tryz.func204.trans (congrArg some (by kernel_rfl))
 f283:=Tryz.func150.trans (congrArg some (by kernel_rfl))
 f284:=Tryz.func151.trans (congrArg some (by kernel_rfl))
 f285:=Tryz.func152.trans (congrArg some (by kernel_rfl))
 f286:=Tryz.func153.trans (congrArg some (by kernel_rfl))
 f287:=Tryz.func209.trans (congrArg some (by kernel_rfl))
 f316:=Tryz.func210.trans (congrArg some (by kernel_rfl))
 f317:=Tryz.func181.trans (congrArg some (by kernel_rfl))
 f318:=Tryz.func182.trans (congrArg some (by kernel_rfl))
 f319:=Tryz.func183.trans (congrArg some (by kernel_rfl))
 f320:=Tryz.func184.trans (congrArg some (by kernel_rfl))
 f321:=Tryz.func214.trans (congrArg some (by kernel_rfl))
 f322:=Tryz.func215.trans (congrArg some (by kernel_rfl))
 f337:=Tryz.func197.trans (congrArg some (by kernel_rfl))
 f338:=Tryz.func198.trans (congrArg some (by kernel_rfl))
 t0:=Tryz.underlying0
 a0:=Tryz.isAgg0
 z0:=Tryz.sizeOf0
 v0:=Tryz.zeroValue0
 t2:=Tryz.underlying2
 a2:=Tryz.isAgg2
 z2:=Tryz.sizeOf2
 v2:=Tryz.zeroValue2
 t3:=Tryz.underlying3
 a3:=Tryz.isAgg3
 z3:=Tryz.sizeOf3
 v3:=Tryz.zeroValue3
 t4:=Tryz.underlying4
 a4:=Tryz.isAgg4
 z4:=Tryz.sizeOf4
 v4:=Tryz.zeroValue4
 t5:=Tryz.underlying5
 a5:=Tryz.isAgg5
 z5:=Tryz.sizeOf5
 v5:=Tryz.zeroValue5
 t9:=Tryz.underlying9
 a9:=Tryz.isAgg9
 z9:=Tryz.sizeOf9
 v9:=Tryz.zeroValue9
 t20:=Tryz.underlying20
 a20:=Tryz.isAgg20
 z20:=Tryz.sizeOf20
 v20:=Tryz.zeroValue20
 t21:=Tryz.underlying21
 a21:=Tryz.isAgg21
 z21:=Tryz.sizeOf21
 v21:=Tryz.zeroValue21
 t37:=Tryz.underlying127
 a37:=Tryz.isAgg127
 z37:=Tryz.sizeOf127
 v37:=Tryz.zeroValue127
 t46:=Tryz.underlying111
 a46:=Tryz.isAgg111
 z46:=Tryz.sizeOf111
 v46:=Tryz.zeroValue111
 t51:=Tryz.underlying138
 a51:=Tryz.isAgg138
 z51:=Tryz.sizeOf138
 v51:=Tryz.zeroValue138
 t53:=Tryz.underlying140
 a53:=Tryz.isAgg140
 z53:=Tryz.sizeOf140
 v53:=Tryz.zeroValue140
 t75:=Tryz.underlying165
 a75:=Tryz.isAgg165
 z75:=Tryz.sizeOf165
 v75:=Tryz.zeroValue165
 t76:=Tryz.underlying166
 a76:=Tryz.isAgg166
 z76:=Tryz.sizeOf166
 v76:=Tryz.zeroValue166
 t85:=Tryz.underlying183
 a85:=Tryz.isAgg183
 z85:=Tryz.sizeOf183
 v85:=Tryz.zeroValue183
 t127:=Tryz.underlying200
 a127:=Tryz.isAgg200
 z127:=Tryz.sizeOf200
 v127:=Tryz.zeroValue200
 t143:=Tryz.underlying201
 a143:=Tryz.isAgg201
 z143:=Tryz.sizeOf201
 v143:=Tryz.zeroValue201
 t145:=Tryz.underlying203
 a145:=Tryz.isAgg203
 z145:=Tryz.sizeOf203
 v145:=Tryz.zeroValue203
 t167:=Tryz.underlying182
 a167:=Tryz.isAgg182
 z167:=Tryz.sizeOf182
 v167:=Tryz.zeroValue182
 t168:=Tryz.underlying185
 a168:=Tryz.isAgg185
 z168:=Tryz.sizeOf185
 v168:=Tryz.zeroValue185
 t171:=Tryz.underlying148
 a171:=Tryz.isAgg148
 z171:=Tryz.sizeOf148
 v171:=Tryz.zeroValue148
 t173:=Tryz.underlying150
 a173:=Tryz.isAgg150
 z173:=Tryz.sizeOf150
 v173:=Tryz.zeroValue150
 t175:=Tryz.underlying191
 a175:=Tryz.isAgg191
 z175:=Tryz.sizeOf191
 v175:=Tryz.zeroValue191
 t210:=Tryz.underlying195
 a210:=Tryz.isAgg195
 z210:=Tryz.sizeOf195
 v210:=Tryz.zeroValue195
 t212:=Tryz.underlying172
 a212:=Tryz.isAgg172
 z212:=Tryz.sizeOf172
 v212:=Tryz.zeroValue172
 t213:=Tryz.underlying173
 a213:=Tryz.isAgg173
 z213:=Tryz.sizeOf173
 t232:=Tryz.underlying189
 a232:=Tryz.isAgg189
 z232:=Tryz.sizeOf189
 v232:=Tryz.zeroValue189
 t233:=Tryz.underlying190
 a233:=Tryz.isAgg190
 z233:=Tryz.sizeOf190
 v233:=Tryz.zeroValue190
 g15:=by kernel_rfl
 g16:=by kernel_rfl
 g17:=by kernel_rfl
 g18:=by kernel_rfl
 g19:=by kernel_rfl
 t80:=Tryz.underlying78
 a80:=Tryz.isAgg78
 z80:=Tryz.sizeOf78
 v80:=Tryz.zeroValue78
 i0:=by kernel_rfl
 i2:=by kernel_rfl
 i3:=by kernel_rfl
 i4:=by kernel_rfl
 i5:=by kernel_rfl
 i9:=by kernel_rfl
 i20:=by kernel_rfl
 i21:=by kernel_rfl
 i37:=by kernel_rfl
 i46:=by kernel_rfl
 i51:=by kernel_rfl
 i53:=by kernel_rfl
 i75:=by kernel_rfl
 i76:=by kernel_rfl
 i80:=by kernel_rfl
 i85:=by kernel_rfl
 i127:=by kernel_rfl
 i143:=by kernel_rfl
 i145:=by kernel_rfl
 i167:=by kernel_rfl
 i168:=by kernel_rfl
 i171:=by kernel_rfl
 i173:=by kernel_rfl
 i175:=by kernel_rfl
 i210:=by kernel_rfl
 i212:=by kernel_rfl
 i232:=by kernel_rfl
 i233:=by kernel_rfl
 m15:=by kernel_rfl
 m16:=by kernel_rfl
 m17:=by kernel_rfl
 m18:=by kernel_rfl
 m19:=by kernel_rfl
 c0:=by kernel_rfl
 c2:=by kernel_rfl
 c3:=by kernel_rfl
 c4:=by kernel_rfl
 c5:=by kernel_rfl
 c9:=by kernel_rfl
 c20:=by kernel_rfl
 c21:=by kernel_rfl
 c37:=by kernel_rfl
 c46:=by kernel_rfl
 c51:=by kernel_rfl
 c53:=by kernel_rfl
 c75:=by kernel_rfl
 c76:=by kernel_rfl
 c80:=by kernel_rfl
 c85:=by kernel_rfl
 c127:=by kernel_rfl
 c143:=by kernel_rfl
 c145:=by kernel_rfl
 c167:=by kernel_rfl
 c168:=by kernel_rfl
 c171:=by kernel_rfl
 c173:=by kernel_rfl
 c175:=by kernel_rfl
 c210:=by kernel_rfl
 c212:=by kernel_rfl
 c213:=by kernel_rfl
 c232:=by kernel_rfl
 c233:=by kernel_rfl}
def Tryz.lays171_ren:Go.Shelf.Ren:=⟨fun|171=>68|243=>90|246=>124|283=>150|284=>151|285=>152|286=>153|129=>137|317=>181|318=>182|319=>183|320=>184|337=>197|338=>198|n=>n,fun|3=>3|9=>9|2=>2|4=>4|171=>148|0=>0|53=>140|37=>127|5=>5|173=>150|212=>172|51=>138|20=>20|213=>173|46=>111|232=>189|233=>190|n=>n,fun|17=>1|18=>2|19=>3|n=>n⟩
theorem Tryz.lays171:Go.Proofs.LaysM.n171 Tryz.prog Tryz.lays171_ren:={
 mixed:=by kernel_rfl
 f129:=Tryz.func137.trans (congrArg some (by kernel_rfl))
 f171:=Tryz.func68.trans (congrArg some (by kernel_rfl))
 f243:=Tryz.func90.trans (congrArg some (by kernel_rfl))
 f246:=Tryz.func124.trans (congrArg some (by kernel_rfl))
 f283:=Tryz.func150.trans (congrArg some (by kernel_rfl))
 f284:=Tryz.func151.trans (congrArg some (by kernel_rfl))
 f285:=Tryz.func152.trans (congrArg some (by kernel_rfl))
 f286:=Tryz.func153.trans (congrArg some (by kernel_rfl))
 f317:=Tryz.func181.trans (congrArg some (by kernel_rfl))
 f318:=Tryz.func182.trans (congrArg some (by kernel_rfl))
 f319:=Tryz.func183.trans (congrArg some (by kernel_rfl))
 f320:=Tryz.func184.trans (congrArg some (by kernel_rfl))
 f337:=Tryz.func197.trans (congrArg some (by kernel_rfl))
 f338:=Tryz.func198.trans (congrArg some (by kernel_rfl))
 t0:=Tryz.underlying0
 a0:=Tryz.isAgg0
 z0:=Tryz.sizeOf0
 v0:=Tryz.zeroValue0
 t2:=Tryz.underlying2
 a2:=Tryz.isAgg2
 z2:=Tryz.sizeOf2
 v2:=Tryz.zeroValue2
 t3:=Tryz.underlying3
 a3:=Tryz.isAgg3
 z3:=Tryz.sizeOf3
 v3:=Tryz.zeroValue3
 t4:=Tryz.underlying4
 a4:=Tryz.isAgg4
 z4:=Tryz.sizeOf4
 v4:=Tryz.zeroValue4
 t5:=Tryz.underlying5
 a5:=Tryz.isAgg5
 z5:=Tryz.sizeOf5
 v5:=Tryz.zeroValue5
 t9:=Tryz.underlying9
 a9:=Tryz.isAgg9
 z9:=Tryz.sizeOf9
 v9:=Tryz.zeroValue9
 t20:=Tryz.underlying20
 a20:=Tryz.isAgg20
 z20:=Tryz.sizeOf20
 v20:=Tryz.zeroValue20
 t37:=Tryz.underlying127
 a37:=Tryz.isAgg127
 z37:=Tryz.sizeOf127
 v37:=Tryz.zeroValue127
 t46:=Tryz.underlying111
 a46:=Tryz.isAgg111
 z46:=Tryz.sizeOf111
 v46:=Tryz.zeroValue111
 t51:=Tryz.underlying138
 a51:=Tryz.isAgg138
 z51:=Tryz.sizeOf138
 v51:=Tryz.zeroValue138
 t53:=Tryz.underlying140
 a53:=Tryz.isAgg140
 z53:=Tryz.sizeOf140
 v53:=Tryz.zeroValue140
 t171:=Tryz.underlying148
 a171:=Tryz.isAgg148
 z171:=Tryz.sizeOf148
 v171:=Tryz.zeroValue148
 t173:=Tryz.underlying150
 a173:=Tryz.isAgg150
 z173:=Tryz.sizeOf150
 v173:=Tryz.zeroValue150
 t212:=Tryz.underlying172
 a212:=Tryz.isAgg172
 z212:=Tryz.sizeOf172
 v212:=Tryz.zeroValue172
 t213:=Tryz.underlying173
 a213:=Tryz.isAgg173
 z213:=Tryz.sizeOf173
 t232:=Tryz.underlying189
 a232:=Tryz.isAgg189
 z232:=Tryz.sizeOf189
 v232:=Tryz.zeroValue189
 t233:=Tryz.underlying190
 a233:=Tryz.isAgg190
 z233:=Tryz.sizeOf190
 v233:=Tryz.zeroValue190
 g17:=by kernel_rfl
 g18:=by kernel_rfl
 g19:=by kernel_rfl
 i0:=by kernel_rfl
 i2:=by kernel_rfl
 i3:=by kernel_rfl
 i4:=by kernel_rfl
 i5:=by kernel_rfl
 i9:=by kernel_rfl
 i20:=by kernel_rfl
 i37:=by kernel_rfl
 i46:=by kernel_rfl
 i51:=by kernel_rfl
 i53:=by kernel_rfl
 i171:=by kernel_rfl
 i173:=by kernel_rfl
 i212:=by kernel_rfl
 i232:=by kernel_rfl
 i233:=by kernel_rfl
 m17:=by kernel_rfl
 m18:=by kernel_rfl
 m19:=by kernel_rfl}
def Tryz.lays99_ren:Go.Shelf.Ren:=⟨fun|99=>169|206=>190|n=>n,fun|9=>9|4=>4|3=>3|n=>n,fun|n=>n⟩
theorem Tryz.lays99:Go.Proofs.Lays.n99 Tryz.prog Tryz.lays99_ren:={
 mixed:=by kernel_rfl
 f99:=Tryz.func169.trans (congrArg some (by kernel_rfl))
 f206:=Tryz.func190.trans (congrArg some (by kernel_rfl))
 t3:=Tryz.underlying3
 a3:=Tryz.isAgg3
 z3:=Tryz.sizeOf3
 v3:=Tryz.zeroValue3
 t4:=Tryz.underlying4
 a4:=Tryz.isAgg4
 z4:=Tryz.sizeOf4
 v4:=Tryz.zeroValue4
 t9:=Tryz.underlying9
 a9:=Tryz.isAgg9
 z9:=Tryz.sizeOf9
 v9:=Tryz.zeroValue9}
def Tryz.lays190_ren:Go.Shelf.Ren:=⟨fun|190=>78|125=>105|258=>104|128=>136|129=>137|302=>127|303=>128|304=>129|305=>130|306=>131|307=>132|308=>133|309=>134|310=>135|333=>163|329=>164|330=>165|334=>166|335=>167|336=>168|344=>189|n=>n,fun|31=>39|9=>9|3=>3|46=>111|0=>0|51=>138|53=>140|4=>4|183=>130|182=>129|131=>135|5=>5|218=>158|222=>162|228=>176|229=>177|n=>n,fun|n=>n⟩
theorem Tryz.lays190:Go.Proofs.Lays.n190 Tryz.prog Tryz.lays190_ren:={
 mixed:=by kernel_rfl
 f125:=Tryz.func105.trans (congrArg some (by kernel_rfl))
 f128:=Tryz.func136.trans (congrArg some (by kernel_rfl))
 f129:=Tryz.func137.trans (congrArg some (by kernel_rfl))
 f190:=Tryz.func78.trans (congrArg some (by kernel_rfl))
 f258:=Tryz.func104.trans (congrArg some (by kernel_rfl))
 f302:=Tryz.func127.trans (congrArg some (by kernel_rfl))
 f303:=Tryz.func128.trans (congrArg some (by kernel_rfl))
 f304:=Tryz.func129.trans (congrArg some (by kernel_rfl))
 f305:=Tryz.func130.trans (congrArg some (by kernel_rfl))
 f306:=Tryz.func131.trans (congrArg some (by kernel_rfl))
 f307:=Tryz.func132.trans (congrArg some (by kernel_rfl))
 f308:=Tryz.func133.trans (congrArg some (by kernel_rfl))
 f309:=Tryz.func134.trans (congrArg some (by kernel_rfl))
 f310:=Tryz.func135.trans (congrArg some (by kernel_rfl))
 f329:=Tryz.func164.trans (congrArg some (by kernel_rfl))
 f330:=Tryz.func165.trans (congrArg some (by kernel_rfl))
 f333:=Tryz.func163.trans (congrArg some (by kernel_rfl))
 f334:=Tryz.func166.trans (congrArg some (by kernel_rfl))
 f335:=Tryz.func167.trans (congrArg some (by kernel_rfl))
 f336:=Tryz.func168.trans (congrArg some (by kernel_rfl))
 f344:=Tryz.func189.trans (congrArg some (by kernel_rfl))
 t0:=Tryz.underlying0
 a0:=Tryz.isAgg0
 z0:=Tryz.sizeOf0
 v0:=Tryz.zeroValue0
 t3:=Tryz.underlying3
 a3:=Tryz.isAgg3
 z3:=Tryz.sizeOf3
 v3:=Tryz.zeroValue3
 t4:=Tryz.underlying4
 a4:=Tryz.isAgg4
 z4:=Tryz.sizeOf4
 v4:=Tryz.zeroValue4
 t5:=Tryz.underlying5
 a5:=Tryz.isAgg5
 z5:=Tryz.sizeOf5
 v5:=Tryz.zeroValue5
 t9:=Tryz.underlying9
 a9:=Tryz.isAgg9
 z9:=Tryz.sizeOf9
 v9:=Tryz.zeroValue9
 t31:=Tryz.underlying39
 a31:=Tryz.isAgg39
 z31:=Tryz.sizeOf39
 v31:=Tryz.zeroValue39
 t46:=Tryz.underlying111
 a46:=Tryz.isAgg111
 z46:=Tryz.sizeOf111
 v46:=Tryz.zeroValue111
 t51:=Tryz.underlying138
 a51:=Tryz.isAgg138
 z51:=Tryz.sizeOf138
 v51:=Tryz.zeroValue138
 t53:=Tryz.underlying140
 a53:=Tryz.isAgg140
 z53:=Tryz.sizeOf140
 v53:=Tryz.zeroValue140
 t131:=Tryz.underlying135
 a131:=Tryz.isAgg135
 z131:=Tryz.sizeOf135
 v131:=Tryz.zeroValue135
 t182:=Tryz.underlying129
 a182:=Tryz.isAgg129
 z182:=Tryz.sizeOf129
 v182:=Tryz.zeroValue129
 t183:=Tryz.underlying130
 a183:=Tryz.isAgg130
 z183:=Tryz.sizeOf130
 v183:=Tryz.zeroValue130
 t218:=Tryz.underlying158
 a218:=Tryz.isAgg158
 z218:=Tryz.sizeOf158
 v218:=Tryz.zeroValue158
 t222:=Tryz.underlying162
 a222:=Tryz.isAgg162
 z222:=Tryz.sizeOf162
 v222:=Tryz.zeroValue162
 t228:=Tryz.underlying176
 a228:=Tryz.isAgg176
 z228:=Tryz.sizeOf176
 v228:=Tryz.zeroValue176
 t229:=Tryz.underlying177
 a229:=Tryz.isAgg177
 z229:=Tryz.sizeOf177
 v229:=Tryz.zeroValue177}
end Go.Proofs.YtgdebdgkofkeeaaGreatDoor
namespace Go.Proofs.YtgdebdgkofkeeaaGreatDoor
open Go.Pl Go.RowKit
open Enc (enc dec is)
open EncL (encL decL isL)
set_option maxRecDepth 100000
theorem SB:Zm Tryz.prog 169 (fun _:Str×Str×Unit=>true) (fun x:Str×Str×Unit=>x.2.1.s.isPrefixOf x.1.s):=XZ (by
  rintro⟨⟨s⟩,⟨p⟩,⟨⟩⟩ hps Φ w vs hL hΦ hv
  obtain⟨u,v,rfl,h1,h2⟩:=d0m hv
  rw[K9 h1,K9 h2]
  refine(Any.strings_HasPrefix Tryz.lays99 ⟨s.toArray⟩ ⟨p.toArray⟩ w).mono ?_
  rintro e w' ⟨rfl,rfl⟩
  exact⟨_,rfl,.bool _,.refl _ _⟩)
theorem ML:Zm Tryz.prog 68 (fun x:Int×Unit=>decide (-9223372036854775808<=x.1)&&decide (x.1<=9223372036854775807)) (fun x:Int×Unit=>V7 x.1):=XZ (by
  rintro⟨n,⟨⟩⟩ hps Φ w vs hL hΦ hv
  obtain⟨v,rfl,h1⟩:=d0w hv
  have h1:RP Φ v (.int .i64 n):=h1
  rw[Rq h1]
  have hn : -9223372036854775808<=n∧n<=9223372036854775807:=by simpa using hps
  have hg:=hL.pow
  obtain⟨T,fz,hh⟩:=hΦ _ _ hg
  refine(Any.strconv_Itoa Tryz.lays171 n hn.1 hn.2 w ?_).mono ?_
  ·unfold Lib.TabIs World.var?
   rw[show Program.globalNamed Tryz.prog "internal/strconv.uint64pow10" = some 1 by kernel_rfl]
   simp only[Option.bind_some,hh]
   rfl
  ·rintro e w' ⟨rfl,k,os,rfl⟩
   refine⟨_,rfl,.str _,?_⟩
   exact⟨rfl,rfl,rfl,by show w.heap.size<=(w.heap++os).size;simp,fun j hj=>by show(w.heap++os)[j]? = _;rw[Array.getElem?_append_left hj]⟩)
end Go.Proofs.YtgdebdgkofkeeaaGreatDoor
namespace Go.Proofs.YtgdebdgkofkeeaaGreatDoor
open Go.Shelf
def Tryz.keysA_ren:Go.Shelf.Ren:=⟨fun|7=>57|10=>79|n=>n,fun|23=>64|26=>9|3=>4|28=>68|0=>0|27=>67|33=>33|4=>4|n=>n,fun|n=>n⟩
theorem Tryz.keysA:Go.Proofs.SlLaysZ.n7 Tryz.prog Tryz.keysA_ren:={
 mixed:=by kernel_rfl
 f7:=⟨Tryz.f57.name,by decide,Tryz.func57.trans (congrArg some (by kernel_rfl))⟩
 f10:=⟨Tryz.f79.name,by decide,Tryz.func79.trans (congrArg some (by kernel_rfl))⟩
 t0:=Tryz.underlying0
 a0:=Tryz.isAgg0
 z0:=Tryz.sizeOf0
 v0:=Tryz.zeroValue0
 t4:=Tryz.underlying4
 a4:=Tryz.isAgg4
 z4:=Tryz.sizeOf4
 v4:=Tryz.zeroValue4
 t23:=Tryz.underlying64
 a23:=Tryz.isAgg64
 z23:=Tryz.sizeOf64
 v23:=Tryz.zeroValue64
 t26:=Tryz.underlying9
 a26:=Tryz.isAgg9
 z26:=Tryz.sizeOf9
 v26:=Tryz.zeroValue9
 t27:=Tryz.underlying67
 a27:=Tryz.isAgg67
 z27:=Tryz.sizeOf67
 v27:=Tryz.zeroValue67
 t28:=Tryz.underlying68
 a28:=Tryz.isAgg68
 z28:=Tryz.sizeOf68
 v28:=Tryz.zeroValue68
 t33:=Tryz.underlying33
 a33:=Tryz.isAgg33
 z33:=Tryz.sizeOf33
 v33:=Tryz.zeroValue33}
def Tryz.sortedA_ren:Go.Shelf.Ren:=⟨fun|6=>56|8=>77|9=>78|11=>103|13=>105|12=>104|23=>136|24=>137|14=>127|15=>128|16=>129|17=>130|18=>131|19=>132|20=>133|21=>134|22=>135|25=>163|26=>164|27=>165|28=>166|29=>167|30=>168|31=>189|n=>n,fun|26=>9|28=>68|24=>39|0=>0|3=>3|37=>111|48=>138|50=>140|4=>4|40=>130|39=>129|45=>135|5=>5|9=>9|51=>158|55=>162|57=>176|58=>177|33=>33|n=>n,fun|n=>n⟩
theorem Tryz.sortedA:Go.Proofs.SlLaysZ.n6 Tryz.prog Tryz.sortedA_ren:={
 mixed:=by kernel_rfl
 f6:=⟨Tryz.f56.name,by decide,Tryz.func56.trans (congrArg some (by kernel_rfl))⟩
 f8:=⟨Tryz.f77.name,by decide,Tryz.func77.trans (congrArg some (by kernel_rfl))⟩
 f11:=⟨Tryz.f103.name,by decide,Tryz.func103.trans (congrArg some (by kernel_rfl))⟩
 t0:=Tryz.underlying0
 a0:=Tryz.isAgg0
 z0:=Tryz.sizeOf0
 v0:=Tryz.zeroValue0
 t24:=Tryz.underlying39
 a24:=Tryz.isAgg39
 z24:=Tryz.sizeOf39
 v24:=Tryz.zeroValue39
 t26:=Tryz.underlying9
 a26:=Tryz.isAgg9
 z26:=Tryz.sizeOf9
 v26:=Tryz.zeroValue9
 t28:=Tryz.underlying68
 a28:=Tryz.isAgg68
 z28:=Tryz.sizeOf68
 v28:=Tryz.zeroValue68
 i26:=by kernel_rfl}
end Go.Proofs.YtgdebdgkofkeeaaGreatDoor
namespace Go.Proofs.YtgdebdgkofkeeaaGreatDoor
open Go.RowKit Go.Shelf Go.Pl Go.Proofs
theorem c0w(m:Nat):AnyZ.SortsIn Tryz.prog Tryz.sortedA_ren Fence.wide m:=
  ⟨fun blk off cap ss W hH hblk hsz=>callsIn_wide.2 (Any.slices_Sort_string Tryz.lays190 blk off cap ss W hH hblk hsz),
   fun p cap W=>callsIn_wide.2 (Any.slices_Sort_string_none Tryz.lays190 p cap W)⟩
theorem c2t:SortedC Tryz.prog 56 79 9 where
 str:=by kernel_rfl
 run:=by
  intro Bm b nn D0 w hBm hm hown hmax hbytes
  have hseq:SeqGives Fence.wide 2 Tryz.prog 79 #[.pointer (some ⟨Bm,0,none⟩)] encStr (fun ss=>ss.Perm (strKeys D0)) (Maps.size D0) w:=
   AnyZ.keys_gives (ρ:=Tryz.keysA_ren) {Tryz.keysA with} Fence.wide _ trivial rfl (by omega) Bm b nn D0 _ hBm hm hown
  exact callsIn_wide.1 (AnyZ.sorted_in Tryz.sortedA Fence.wide 5 trivial trivial trivial trivial rfl (by omega) (c0w _) (enters_of Tryz.func78 (by kernel_rfl) rfl) 79 #[.pointer (some ⟨Bm,0,none⟩)] trivial (enters_of Tryz.func79 (by kernel_rfl) rfl) _ _ hmax hbytes _ hseq)
theorem c6e:Z0 Tryz.prog 56 (Vm 79) Ui:=ER (F6 c2t)
end Go.Proofs.YtgdebdgkofkeeaaGreatDoor
namespace Go.Proofs.YtgdebdgkofkeeaaGreatDoor
open Go.Pl Go.RowKit
open Enc (enc dec is)
open EncL (encL decL isL)
set_option maxRecDepth 100000
theorem c6n: ∀ s:List UInt8,((s.dropWhile fun c=>c != 46)=[]->Lib.index s [46] = -1) ∧
  ∀ (c:UInt8) (r:List UInt8),(s.dropWhile fun c=>c != 46)=c::r->Lib.index s [46]=((s.takeWhile fun c=>c != 46).length:Nat)∧s.drop ((s.takeWhile fun c=>c != 46).length+1)=r∧s.take (s.takeWhile fun c=>c != 46).length=s.takeWhile fun c=>c != 46
 | []=>⟨fun _=>rfl,fun _ _ h=>by cases h⟩
 | b::l=>by
  obtain⟨h1,h2⟩:=c6n l
  by_cases hb:b=46
  ·subst hb
   refine⟨fun h=>by simp at h,fun c r h=> ?_⟩
   have h:(46:UInt8)::l=c::r:=by simpa using h
   cases h
   exact⟨rfl,rfl,rfl⟩
  ·have hbn:(b != 46)=true:=by simpa using hb
   have hp:([46]:List UInt8).isPrefixOf (b::l)=false:=by simp[List.isPrefixOf];exact fun e=>hb e.symm
   have ei:Lib.index (b::l) [46]=if Lib.index l [46] == -1 then -1 else Lib.index l [46]+1:=by rw[Lib.index,hp];rfl
   rw[List.dropWhile_cons,if_pos hbn,List.takeWhile_cons,if_pos hbn]
   refine⟨fun h=>by rw[ei,h1 h];rfl,fun c r h=> ?_⟩
   obtain⟨k1,k2,k3⟩:=h2 c r h
   rw[ei,k1]
   refine⟨?_,?_,?_⟩
   ·rw[if_neg (by simp),List.length_cons];rfl
   ·rw[List.length_cons,List.drop_succ_cons];exact k2
   ·rw[List.length_cons,List.take_succ_cons,k3]
theorem c3y(s:List UInt8):Lib.cut s [46]=((VD ⟨s⟩).a.s,(VD ⟨s⟩).b.s,(VD ⟨s⟩).c):=by
 obtain⟨h1,h2⟩:=c6n s
 unfold Lib.cut VD
 cases hd:s.dropWhile fun c=>c != 46 with
 | nil=>
  rw[h1 hd]
  rfl
 | cons c r=>
  obtain⟨k1,k2,k3⟩:=h2 c r hd
  rw[k1,if_pos (by omega),Int.toNat_natCast,k3]
  show(_,s.drop ((s.takeWhile fun c=>c != 46).length+1),true)=_
  rw[k2]
theorem a9k:Zm Tryz.prog 145 (fun x:Str×Str×Unit=>decide (x.1.s.length<=1048576)&&decide (x.2.1.s=[46])) (fun x:Str×Str×Unit=>VD x.1):=XZ (by
  rintro⟨⟨s⟩,⟨p⟩,⟨⟩⟩ hps Φ w vs hL hΦ hv
  simp only[Bool.and_eq_true,decide_eq_true_eq]at hps
  obtain⟨hs,hp⟩:=hps
  have hp:p=[46]:=hp
  subst hp
  obtain⟨u,v,rfl,h1,h2⟩:=d0m hv
  rw[K9 h1,K9 h2]
  obtain⟨cs,m,hc,hm⟩:=hL.mx
  have hsz:(⟨s.toArray⟩:ByteArray).size=s.length:=rfl
  refine(Any.strings_Cut Tryz.lays145 ⟨s.toArray⟩ ⟨#[46]⟩ m w (by rw[hsz];have hs:s.length<=1048576:=hs;omega) (Df hΦ hc hm)).mono ?_
  rintro e w' ⟨rfl,k,rfl⟩
  refine⟨_,rfl,.tup _ _ rfl ?_,?_⟩
  ·rw[show(⟨s.toArray⟩:ByteArray).data.toList=s from rfl,show(⟨#[46]⟩:ByteArray).data.toList=[46]from rfl,c3y]
   intro j v x hv hx
   match j with
   | 0=>cases hv;cases hx;exact .str _
   | 1=>cases hv;cases hx;exact .str _
   | 2=>cases hv;cases hx;exact .bool _
   | j+3=>simp at hv
  ·exact⟨rfl,rfl,rfl,Nat.le_refl _,fun _ _=>rfl⟩)
theorem Mj:Zm Tryz.prog 122 (fun _:Str×Str×Unit=>true) (fun x:Str×Str×Unit=>Lib.compareBytes x.1.s x.2.1.s):=XZ (by
  rintro⟨⟨s⟩,⟨p⟩,⟨⟩⟩ hps Φ w vs hL hΦ hv
  obtain⟨u,v,rfl,h1,h2⟩:=d0m hv
  rw[K9 h1,K9 h2]
  refine(Any.strings_Compare Tryz.lays106 ⟨s.toArray⟩ ⟨p.toArray⟩ w).mono ?_
  rintro e w' ⟨rfl,rfl⟩
  exact⟨_,rfl,.int _ _,.refl _ _⟩)
theorem d2z:Z0 Tryz.prog 76 Vu Uf:=Bq fun b es clock w h=>AnyW.maps_Clone Tryz.mcB b es clock w h
theorem d2q:Z0 Tryz.prog 92 Vu Uf:=Bq fun b es clock w h=>AnyW.maps_Clone Tryz.mcS b es clock w h
end Go.Proofs.YtgdebdgkofkeeaaGreatDoor
namespace Go.Proofs.YtgdebdgkofkeeaaGreatDoor
open Go.RowKit Go.Lib Go.Pl
theorem b5r:(Tryz.prog.info? 3).map (fun i=>(i.zero,i.size,i.bytes))=some (some (.int .i64 0),1,8):=by kernel_rfl
theorem JK:Tryz.prog.underlying 22=some (.slice 3):=by kernel_rfl
theorem F9(n c:Nat)(w:World):Calls Tryz.prog 93 #[.slice none n c] w fun e w'=>e = .returned (.slice none 0 0)∧w'=w:=by
 have q22 : ∀ (w:World) (a:Option Addr) (n c n' c':Nat),(binOp .eql 22 (.slice a n c) (.slice none n' c')).run Tryz.prog w = .ok (.bool a.isNone) w:=fun w a n c n' c'=>Lib.run_eql_slice_nil w _ _ a n c n' c' JK
 go_enter Tryz.func93,Tryz.ntmps93
 go_wp2
 go_ret
 exact⟨rfl,rfl⟩
theorem Lt(a:Addr)(c:Nat)(w:World):Calls Tryz.prog 93 #[.slice (some a) 0 c] w fun e w'=>(∃ g,e = .returned (.slice (some g) 0 0))∧Below w.heap.size w w':=by
 have q22 : ∀ (w:World) (a:Option Addr) (n c n' c':Nat),(binOp .eql 22 (.slice a n c) (.slice none n' c')).run Tryz.prog w = .ok (.bool a.isNone) w:=fun w a n c n' c'=>Lib.run_eql_slice_nil w _ _ a n c n' c' JK
 obtain⟨i0,hi,hz0,hz1,hz2⟩:=info_parts b5r
 go_enter Tryz.func93,Tryz.ntmps93
 go_wp2_with (at_builtin;refine Lib.wpList_append_run _ rfl _ _ _ _ rfl _ _ rfl rfl _ _ (Yr JK hi (Nat.le_refl _)) ?_)
 go_ret
 exact⟨⟨_,rfl⟩,(Below.refl _ w).alloc (Nat.le_refl _) _⟩
theorem Fj(a:Addr)(n c:Nat)(news:List Value)(w:World)(h0:0<n)(hn:n<=2000000)(hl:news.length=n*1)(hc : ∀ j u,news[j]? = some u->w.cell? (a.add j)=some u)(h1 : ∀ u∈news,u.oneCell'=true):
  Calls Tryz.prog 93 #[.slice (some a) n c] w fun e w'=> ∃ v',e = .returned v'∧w'.ownsRow w.heap.size 3 1 v' n news∧Below w.heap.size w w':=by
 have q22 : ∀ (w:World) (a:Option Addr) (n c n' c':Nat),(binOp .eql 22 (.slice a n c) (.slice none n' c')).run Tryz.prog w = .ok (.bool a.isNone) w:=fun w a n c n' c'=>Lib.run_eql_slice_nil w _ _ a n c n' c' JK
 obtain⟨i0,hi,hz0,hz1,hz2⟩:=info_parts b5r
 have A:Aside (∀ j u,news[j]? = some u->w.cell? (a.add j)=some u):=hc
 clear hc
 go_enter Tryz.func93,Tryz.ntmps93
 go_wp2_with (at_builtin;refine wpList_append_own _ rfl _ _ 22 rfl w.heap.size 3 i0 (.int .i64 0) 1 8 JK hi hz0 hz1 hz2 rfl (by decide) _ _ _ rfl (World.ownsRow_made w #[] 0 (Nat.le_refl _) (Nat.zero_le _) rfl) a n c news rfl ?qc1 ?qc2 ?qc3 ?qc4 ?qc5 ?qc6 ?_)
 case qc1=>exact hl
 case qc2=>intro j u hj;exact Lib.cell?_alloc_some _ (A.out j u hj)
 case qc3=>exact h1
 case qc4=>unfold maxLen;omega
 case qc5=>omega
 case qc6=>simp
 intro v' w1 hown hgrow hnil
 go_wp2
 go_ret
 refine⟨v',rfl,by simpa using hown,?_⟩
 exact((Below.refl _ w).alloc (Nat.le_refl _) _).grown hgrow (by simp) (by intro k hk;simp[Value.ownBlock]at hk;omega)
theorem b6k:CloneC Tryz.prog 93 3 1:=⟨F9,Lt,Fj⟩
end Go.Proofs.YtgdebdgkofkeeaaGreatDoor
namespace Go.Proofs.YtgdebdgkofkeeaaGreatDoor
open Go.RowKit Go.Pl
set_option maxRecDepth 100000
noncomputable def cpO:Array Oper:=Q6 (Tryz.f71.body.getD .skip) 13
noncomputable def Sb(i:Nat):Oper:=cpO.getD i default
set_option maxHeartbeats 2000000 in
theorem cpR{K:Act->World->Prop}{R:Ending->World->Prop}{a:Act}{w:World}{Bt B c i n:Nat}{ct cs:Array Value}{T0:TypeId}(hb:w.heap[Bt]? = some (.cells ct T0 (0,0)))(hk:ct[9]? = some (.slice (some ⟨B,0,none⟩) n c))(hB:w.heap[B]? = some (.cells cs 28 (0,0)))(hne:Bt≠B)(hin:i<n)(hsz:n*10<=cs.size)
  (hbox:a.eval (.tmp 1) = .pointer (some ⟨Bt,0,none⟩)) (hidx:a.eval (.tmp 4) = .int .i64 (i:Int))  (hts:a.tmps.size=67) (hcall:Calls Tryz.prog 71 #[(.agg ((cs.toList.drop (i*10)).take 10).toArray)] {w with drawn:=w.drawn+1} R)
  (hR : ∀ e w',R e w'-> ∃ vs:List Value,e = .returned (.agg vs.toArray)∧vs.length=10∧ZW vs∧w'.heap[Bt]? = w.heap[Bt]? ∧w'.heap[B]? = w.heap[B]? ∧ ∀ a',SameT [55,56,57,58,59,60,61,62,63,64] a a'->K a' (w'.setRow B (splice cs.toList (i*10) vs).toArray)) :
  (Code.region 13 cpO true).wp Tryz.prog (fun e a w=>e = .normal∧K a w) a w:=by
 have hS0:w.cell? ⟨Bt,9,none⟩=some (.slice (some ⟨B,0,none⟩) n c):=by simp[World.cell?,hb,hk]
 have hlen:((cs.toList.drop (i*10)).take 10).length=10:=by simp;omega
 have s0:SameT [55,56,57,58,59,60,61,62,63,64] a a:=.refl _ _
 refine wp_region_held (S:=fun w=>w.cell? ⟨Bt,9,none⟩=some (.slice (some ⟨B,0,none⟩) n c)) (by kernel_rfl) ?_
 rw[show cpO.size=11 from by kernel_rfl]
 generalize hwd:({w with drawn:=w.drawn+1}:World)=wd at hcall ⊢
 have hh:wd.heap=w.heap:=by rw[<- hwd]
 have hS:wd.cell? ⟨Bt,9,none⟩=some (.slice (some ⟨B,0,none⟩) n c):=by rw[<- hS0];simp[World.cell?,hh]
 refine wpAnyH_take (i:=0) (oi:=Sb 0) (v:=.pointer (some ⟨Bt,0+9,none⟩)) (by kernel_rfl) (by kernel_rfl) (by kernel_rfl) (by kernel_rfl) (fun _ _ _ h=>nomatch h.1) ((ZP Bt 0 9)▸SY (s:=28) (x:=1) (n:=7) (off:=9) (by kernel_rfl) (by kernel_rfl) (by kernel_rfl) hbox) hS ?_
 rw[show(Sb 0).dst=some 55 from by kernel_rfl]
 have s1:=s0.put (d:=55) (by decide) (.pointer (some ⟨Bt,0+9,none⟩))
 have g1_55:(a.put (some 55) (.pointer (some ⟨Bt,0+9,none⟩))).eval (.tmp 55) = .pointer (some ⟨Bt,0+9,none⟩):=Zj (by rw[s0.size,hts];decide)
 have g1_1:=(Za (v:=.pointer (some ⟨Bt,0+9,none⟩)) (show 55≠1 by decide)).trans hbox
 have g1_4:=(Za (v:=.pointer (some ⟨Bt,0+9,none⟩)) (show 55≠4 by decide)).trans hidx
 generalize a.put (some 55) (.pointer (some ⟨Bt,0+9,none⟩))=a1 at *
 refine wpAnyH_take (i:=1) (oi:=Sb 1) (v:=.slice (some ⟨B,0,none⟩) n c) (by kernel_rfl) (by kernel_rfl) (by kernel_rfl) (by kernel_rfl) (fun _ _ _ h=>nomatch h.1) (TF (t:=26) (x:=55) (sz:=1) (by kernel_rfl) (by kernel_rfl) (by kernel_rfl) g1_55 (fun w h=>(by rw[Nat.zero_add];exact h))) hS ?_
 rw[show(Sb 1).dst=some 56 from by kernel_rfl]
 have s2:=s1.put (d:=56) (by decide) (.slice (some ⟨B,0,none⟩) n c)
 have g2_56:(a1.put (some 56) (.slice (some ⟨B,0,none⟩) n c)).eval (.tmp 56) = .slice (some ⟨B,0,none⟩) n c:=Zj (by rw[s1.size,hts];decide)
 have g2_1:=(Za (v:=.slice (some ⟨B,0,none⟩) n c) (show 56≠1 by decide)).trans g1_1
 have g2_4:=(Za (v:=.slice (some ⟨B,0,none⟩) n c) (show 56≠4 by decide)).trans g1_4
 have g2_55:=(Za (v:=.slice (some ⟨B,0,none⟩) n c) (show 56≠55 by decide)).trans g1_55
 generalize a1.put (some 56) (.slice (some ⟨B,0,none⟩) n c)=a2 at *
 refine wpAnyH_take (i:=2) (oi:=Sb 2) (v:=.int .i64 (i:Int)) (by kernel_rfl) (by kernel_rfl) (by kernel_rfl) (by kernel_rfl) (fun _ _ _ h=>nomatch h.1) (KT (x:=4) (by kernel_rfl) (by kernel_rfl) g2_4) hS ?_
 rw[show(Sb 2).dst=some 57 from by kernel_rfl]
 have s3:=s2.put (d:=57) (by decide) (.int .i64 (i:Int))
 have g3_57:(a2.put (some 57) (.int .i64 (i:Int))).eval (.tmp 57) = .int .i64 (i:Int):=Zj (by rw[s2.size,hts];decide)
 have g3_1:=(Za (v:=.int .i64 (i:Int)) (show 57≠1 by decide)).trans g2_1
 have g3_4:=(Za (v:=.int .i64 (i:Int)) (show 57≠4 by decide)).trans g2_4
 have g3_55:=(Za (v:=.int .i64 (i:Int)) (show 57≠55 by decide)).trans g2_55
 have g3_56:=(Za (v:=.int .i64 (i:Int)) (show 57≠56 by decide)).trans g2_56
 generalize a2.put (some 57) (.int .i64 (i:Int))=a3 at *
 refine wpAnyH_take (i:=3) (oi:=Sb 3) (v:=.pointer (some ⟨Bt,0+9,none⟩)) (by kernel_rfl) (by kernel_rfl) (by kernel_rfl) (by kernel_rfl) (fun _ _ _ h=>nomatch h.1) ((ZP Bt 0 9)▸SY (s:=28) (x:=1) (n:=7) (off:=9) (by kernel_rfl) (by kernel_rfl) (by kernel_rfl) g3_1) hS ?_
 rw[show(Sb 3).dst=some 58 from by kernel_rfl]
 have s4:=s3.put (d:=58) (by decide) (.pointer (some ⟨Bt,0+9,none⟩))
 have g4_58:(a3.put (some 58) (.pointer (some ⟨Bt,0+9,none⟩))).eval (.tmp 58) = .pointer (some ⟨Bt,0+9,none⟩):=Zj (by rw[s3.size,hts];decide)
 have g4_1:=(Za (v:=.pointer (some ⟨Bt,0+9,none⟩)) (show 58≠1 by decide)).trans g3_1
 have g4_4:=(Za (v:=.pointer (some ⟨Bt,0+9,none⟩)) (show 58≠4 by decide)).trans g3_4
 have g4_55:=(Za (v:=.pointer (some ⟨Bt,0+9,none⟩)) (show 58≠55 by decide)).trans g3_55
 have g4_56:=(Za (v:=.pointer (some ⟨Bt,0+9,none⟩)) (show 58≠56 by decide)).trans g3_56
 have g4_57:=(Za (v:=.pointer (some ⟨Bt,0+9,none⟩)) (show 58≠57 by decide)).trans g3_57
 generalize a3.put (some 58) (.pointer (some ⟨Bt,0+9,none⟩))=a4 at *
 refine wpAnyH_take (i:=4) (oi:=Sb 4) (v:=.slice (some ⟨B,0,none⟩) n c) (by kernel_rfl) (by kernel_rfl) (by kernel_rfl) (by kernel_rfl) (fun _ _ _ h=>nomatch h.1) (TF (t:=26) (x:=58) (sz:=1) (by kernel_rfl) (by kernel_rfl) (by kernel_rfl) g4_58 (fun w h=>(by rw[Nat.zero_add];exact h))) hS ?_
 rw[show(Sb 4).dst=some 59 from by kernel_rfl]
 have s5:=s4.put (d:=59) (by decide) (.slice (some ⟨B,0,none⟩) n c)
 have g5_59:(a4.put (some 59) (.slice (some ⟨B,0,none⟩) n c)).eval (.tmp 59) = .slice (some ⟨B,0,none⟩) n c:=Zj (by rw[s4.size,hts];decide)
 have g5_1:=(Za (v:=.slice (some ⟨B,0,none⟩) n c) (show 59≠1 by decide)).trans g4_1
 have g5_4:=(Za (v:=.slice (some ⟨B,0,none⟩) n c) (show 59≠4 by decide)).trans g4_4
 have g5_55:=(Za (v:=.slice (some ⟨B,0,none⟩) n c) (show 59≠55 by decide)).trans g4_55
 have g5_56:=(Za (v:=.slice (some ⟨B,0,none⟩) n c) (show 59≠56 by decide)).trans g4_56
 have g5_57:=(Za (v:=.slice (some ⟨B,0,none⟩) n c) (show 59≠57 by decide)).trans g4_57
 have g5_58:=(Za (v:=.slice (some ⟨B,0,none⟩) n c) (show 59≠58 by decide)).trans g4_58
 generalize a4.put (some 59) (.slice (some ⟨B,0,none⟩) n c)=a5 at *
 refine wpAnyH_take (i:=5) (oi:=Sb 5) (v:=.int .i64 (i:Int)) (by kernel_rfl) (by kernel_rfl) (by kernel_rfl) (by kernel_rfl) (fun _ _ _ h=>nomatch h.1) (KT (x:=4) (by kernel_rfl) (by kernel_rfl) g5_4) hS ?_
 rw[show(Sb 5).dst=some 60 from by kernel_rfl]
 have s6:=s5.put (d:=60) (by decide) (.int .i64 (i:Int))
 have g6_60:(a5.put (some 60) (.int .i64 (i:Int))).eval (.tmp 60) = .int .i64 (i:Int):=Zj (by rw[s5.size,hts];decide)
 have g6_1:=(Za (v:=.int .i64 (i:Int)) (show 60≠1 by decide)).trans g5_1
 have g6_4:=(Za (v:=.int .i64 (i:Int)) (show 60≠4 by decide)).trans g5_4
 have g6_55:=(Za (v:=.int .i64 (i:Int)) (show 60≠55 by decide)).trans g5_55
 have g6_56:=(Za (v:=.int .i64 (i:Int)) (show 60≠56 by decide)).trans g5_56
 have g6_57:=(Za (v:=.int .i64 (i:Int)) (show 60≠57 by decide)).trans g5_57
 have g6_58:=(Za (v:=.int .i64 (i:Int)) (show 60≠58 by decide)).trans g5_58
 have g6_59:=(Za (v:=.int .i64 (i:Int)) (show 60≠59 by decide)).trans g5_59
 generalize a5.put (some 60) (.int .i64 (i:Int))=a6 at *
 refine wpAnyH_take (i:=6) (oi:=Sb 6) (v:=.pointer (some ⟨B,0+i*10,none⟩)) (by kernel_rfl) (by kernel_rfl) (by kernel_rfl) (by kernel_rfl) (fun _ _ _ h=>nomatch h.1) ((ZP B 0 (i*10))▸TG (t:=26) (x:=59) (y:=60) (sz:=10) (by kernel_rfl) (by kernel_rfl) (by kernel_rfl) g6_59 g6_60 hin) hS ?_
 rw[show(Sb 6).dst=some 61 from by kernel_rfl]
 have s7:=s6.put (d:=61) (by decide) (.pointer (some ⟨B,0+i*10,none⟩))
 have g7_61:(a6.put (some 61) (.pointer (some ⟨B,0+i*10,none⟩))).eval (.tmp 61) = .pointer (some ⟨B,0+i*10,none⟩):=Zj (by rw[s6.size,hts];decide)
 have g7_1:=(Za (v:=.pointer (some ⟨B,0+i*10,none⟩)) (show 61≠1 by decide)).trans g6_1
 have g7_4:=(Za (v:=.pointer (some ⟨B,0+i*10,none⟩)) (show 61≠4 by decide)).trans g6_4
 have g7_55:=(Za (v:=.pointer (some ⟨B,0+i*10,none⟩)) (show 61≠55 by decide)).trans g6_55
 have g7_56:=(Za (v:=.pointer (some ⟨B,0+i*10,none⟩)) (show 61≠56 by decide)).trans g6_56
 have g7_57:=(Za (v:=.pointer (some ⟨B,0+i*10,none⟩)) (show 61≠57 by decide)).trans g6_57
 have g7_58:=(Za (v:=.pointer (some ⟨B,0+i*10,none⟩)) (show 61≠58 by decide)).trans g6_58
 have g7_59:=(Za (v:=.pointer (some ⟨B,0+i*10,none⟩)) (show 61≠59 by decide)).trans g6_59
 have g7_60:=(Za (v:=.pointer (some ⟨B,0+i*10,none⟩)) (show 61≠60 by decide)).trans g6_60
 generalize a6.put (some 61) (.pointer (some ⟨B,0+i*10,none⟩))=a7 at *
 refine wpAnyH_all (rs:=[7]) (by kernel_rfl) (by simp) (fun j hj=> ?_)
 obtain rfl:j=7:=by simpa using hj
 refine El (o:=Sb 7) (t:=28) (sz:=10) (x:=61) (by kernel_rfl) (by kernel_rfl) (by kernel_rfl) (by kernel_rfl) hlen g7_61 (by rw[Nat.zero_add];exact ZJ ((congrArg (·[B]?) hh).trans hB) _ _) ⟨hS,?_⟩
 rw[show(Sb 7).dst=some 62 from by kernel_rfl]
 have s8:=s7.put (d:=62) (by decide) (.agg ((cs.toList.drop (i*10)).take 10).toArray)
 have g8_62:(a7.put (some 62) (.agg ((cs.toList.drop (i*10)).take 10).toArray)).eval (.tmp 62) = .agg ((cs.toList.drop (i*10)).take 10).toArray:=Zj (by rw[s7.size,hts];decide)
 have g8_1:=(Za (v:=.agg ((cs.toList.drop (i*10)).take 10).toArray) (show 62≠1 by decide)).trans g7_1
 have g8_4:=(Za (v:=.agg ((cs.toList.drop (i*10)).take 10).toArray) (show 62≠4 by decide)).trans g7_4
 have g8_55:=(Za (v:=.agg ((cs.toList.drop (i*10)).take 10).toArray) (show 62≠55 by decide)).trans g7_55
 have g8_56:=(Za (v:=.agg ((cs.toList.drop (i*10)).take 10).toArray) (show 62≠56 by decide)).trans g7_56
 have g8_57:=(Za (v:=.agg ((cs.toList.drop (i*10)).take 10).toArray) (show 62≠57 by decide)).trans g7_57
 have g8_58:=(Za (v:=.agg ((cs.toList.drop (i*10)).take 10).toArray) (show 62≠58 by decide)).trans g7_58
 have g8_59:=(Za (v:=.agg ((cs.toList.drop (i*10)).take 10).toArray) (show 62≠59 by decide)).trans g7_59
 have g8_60:=(Za (v:=.agg ((cs.toList.drop (i*10)).take 10).toArray) (show 62≠60 by decide)).trans g7_60
 have g8_61:=(Za (v:=.agg ((cs.toList.drop (i*10)).take 10).toArray) (show 62≠61 by decide)).trans g7_61
 generalize a7.put (some 62) (.agg ((cs.toList.drop (i*10)).take 10).toArray)=a8 at *
 refine wpAnyH_all (rs:=[8]) (by kernel_rfl) (by simp) (fun j hj=> ?_)
 obtain rfl:j=8:=by simpa using hj
 refine Rp (o:=Sb 8) (f:=71) (xs:=#[.tmp 62]) (ts:=#[28]) (by kernel_rfl) (by kernel_rfl) (by kernel_rfl) Tryz.func71 (by kernel_rfl) (by kernel_rfl) (vs:=#[(.agg ((cs.toList.drop (i*10)).take 10).toArray)]) (by simp only[List.map_toArray,List.map_cons,List.map_nil,g8_62]) hcall ?_
 intro e w2 hr
 obtain⟨vs,rfl,hvl,hv1,hb2,hB2,hK⟩:=hR e w2 hr
 have hS2:w2.cell? ⟨Bt,9,none⟩=some (.slice (some ⟨B,0,none⟩) n c):=by simp[World.cell?,hb2,hb,hk]
 refine⟨_,rfl,hS2,?_⟩
 rw[show(Sb 8).dst=some 63 from by kernel_rfl]
 have s9:=s8.put (d:=63) (by decide) (.agg vs.toArray)
 have g9_63:(a8.put (some 63) (.agg vs.toArray)).eval (.tmp 63) = .agg vs.toArray:=Zj (by rw[s8.size,hts];decide)
 have g9_1:=(Za (v:=.agg vs.toArray) (show 63≠1 by decide)).trans g8_1
 have g9_4:=(Za (v:=.agg vs.toArray) (show 63≠4 by decide)).trans g8_4
 have g9_55:=(Za (v:=.agg vs.toArray) (show 63≠55 by decide)).trans g8_55
 have g9_56:=(Za (v:=.agg vs.toArray) (show 63≠56 by decide)).trans g8_56
 have g9_57:=(Za (v:=.agg vs.toArray) (show 63≠57 by decide)).trans g8_57
 have g9_58:=(Za (v:=.agg vs.toArray) (show 63≠58 by decide)).trans g8_58
 have g9_59:=(Za (v:=.agg vs.toArray) (show 63≠59 by decide)).trans g8_59
 have g9_60:=(Za (v:=.agg vs.toArray) (show 63≠60 by decide)).trans g8_60
 have g9_61:=(Za (v:=.agg vs.toArray) (show 63≠61 by decide)).trans g8_61
 have g9_62:=(Za (v:=.agg vs.toArray) (show 63≠62 by decide)).trans g8_62
 generalize a8.put (some 63) (.agg vs.toArray)=a9 at *
 refine wpAnyH_take (i:=9) (oi:=Sb 9) (v:=.pointer (some ⟨B,0+i*10,none⟩)) (by kernel_rfl) (by kernel_rfl) (by kernel_rfl) (by kernel_rfl) (fun _ _ _ h=>nomatch h.1) ((ZP B 0 (i*10))▸TG (t:=26) (x:=56) (y:=57) (sz:=10) (by kernel_rfl) (by kernel_rfl) (by kernel_rfl) g9_56 g9_57 hin) hS2 ?_
 rw[show(Sb 9).dst=some 64 from by kernel_rfl]
 have s10:=s9.put (d:=64) (by decide) (.pointer (some ⟨B,0+i*10,none⟩))
 have g10_64:(a9.put (some 64) (.pointer (some ⟨B,0+i*10,none⟩))).eval (.tmp 64) = .pointer (some ⟨B,0+i*10,none⟩):=Zj (by rw[s9.size,hts];decide)
 have g10_1:=(Za (v:=.pointer (some ⟨B,0+i*10,none⟩)) (show 64≠1 by decide)).trans g9_1
 have g10_4:=(Za (v:=.pointer (some ⟨B,0+i*10,none⟩)) (show 64≠4 by decide)).trans g9_4
 have g10_55:=(Za (v:=.pointer (some ⟨B,0+i*10,none⟩)) (show 64≠55 by decide)).trans g9_55
 have g10_56:=(Za (v:=.pointer (some ⟨B,0+i*10,none⟩)) (show 64≠56 by decide)).trans g9_56
 have g10_57:=(Za (v:=.pointer (some ⟨B,0+i*10,none⟩)) (show 64≠57 by decide)).trans g9_57
 have g10_58:=(Za (v:=.pointer (some ⟨B,0+i*10,none⟩)) (show 64≠58 by decide)).trans g9_58
 have g10_59:=(Za (v:=.pointer (some ⟨B,0+i*10,none⟩)) (show 64≠59 by decide)).trans g9_59
 have g10_60:=(Za (v:=.pointer (some ⟨B,0+i*10,none⟩)) (show 64≠60 by decide)).trans g9_60
 have g10_61:=(Za (v:=.pointer (some ⟨B,0+i*10,none⟩)) (show 64≠61 by decide)).trans g9_61
 have g10_62:=(Za (v:=.pointer (some ⟨B,0+i*10,none⟩)) (show 64≠62 by decide)).trans g9_62
 have g10_63:=(Za (v:=.pointer (some ⟨B,0+i*10,none⟩)) (show 64≠63 by decide)).trans g9_63
 generalize a9.put (some 64) (.pointer (some ⟨B,0+i*10,none⟩))=a10 at *
 refine wpAnyH_all (rs:=[10]) (by kernel_rfl) (by simp) (fun j hj=> ?_)
 obtain rfl:j=10:=by simpa using hj
 refine Au (o:=Sb 10) (t:=28) (x:=64) (y:=63) (by kernel_rfl) (by kernel_rfl) (by kernel_rfl) g10_64 g10_63 (Nj (sz:=10) (by kernel_rfl) hvl (hB2.trans hB) (by rw[Nat.zero_add];have:=Nat.mul_le_mul_right 10 (show i+1<=n from hin);omega) hv1) ⟨?_,?_⟩
 ·rw[<- hS2];simp only[World.cell?,setRow_other _ B Bt _ hne]
 ·rw[show(Sb 10).dst=none from by kernel_rfl]
  refine wpAnyH_done (by kernel_rfl) ⟨rfl,?_⟩ _
  rw[Nat.zero_add]
  exact hK _ s10
noncomputable def raO:Array Oper:=Q6 (Tryz.f70.body.getD .skip) 13
noncomputable def Ca(i:Nat):Oper:=raO.getD i default
set_option maxHeartbeats 2000000 in
theorem raR{K:Act->World->Prop}{R:Ending->World->Prop}{a:Act}{w:World}{Bt B c i n:Nat}{ct cs:Array Value}{T0:TypeId}(x1:Value)(x2:Value)(hb:w.heap[Bt]? = some (.cells ct T0 (0,0)))(hk:ct[9]? = some (.slice (some ⟨B,0,none⟩) n c))(hB:w.heap[B]? = some (.cells cs 28 (0,0)))(hne:Bt≠B)(hin:i<n)(hsz:n*10<=cs.size)
  (hbox:a.eval (.tmp 3) = .pointer (some ⟨Bt,0,none⟩)) (hidx:a.eval (.tmp 10) = .int .i64 (i:Int)) (hx1:a.eval (.tmp 1)=x1) (hx2:a.eval (.tmp 2)=x2) (hts:a.tmps.size=82) (hcall:Calls Tryz.prog 70 #[(.agg ((cs.toList.drop (i*10)).take 10).toArray),x1,x2] {w with drawn:=w.drawn+1} R)
  (hR : ∀ e w',R e w'-> ∃ vs:List Value,e = .returned (.agg vs.toArray)∧vs.length=10∧ZW vs∧w'.heap[Bt]? = w.heap[Bt]? ∧w'.heap[B]? = w.heap[B]? ∧ ∀ a',SameT [56,57,58,59,60,61,62,63,64,65,66,67] a a'->K a' (w'.setRow B (splice cs.toList (i*10) vs).toArray)) :
  (Code.region 13 raO true).wp Tryz.prog (fun e a w=>e = .normal∧K a w) a w:=by
 have hS0:w.cell? ⟨Bt,9,none⟩=some (.slice (some ⟨B,0,none⟩) n c):=by simp[World.cell?,hb,hk]
 have hlen:((cs.toList.drop (i*10)).take 10).length=10:=by simp;omega
 have s0:SameT [56,57,58,59,60,61,62,63,64,65,66,67] a a:=.refl _ _
 refine wp_region_held (S:=fun w=>w.cell? ⟨Bt,9,none⟩=some (.slice (some ⟨B,0,none⟩) n c)) (by kernel_rfl) ?_
 rw[show raO.size=13 from by kernel_rfl]
 generalize hwd:({w with drawn:=w.drawn+1}:World)=wd at hcall ⊢
 have hh:wd.heap=w.heap:=by rw[<- hwd]
 have hS:wd.cell? ⟨Bt,9,none⟩=some (.slice (some ⟨B,0,none⟩) n c):=by rw[<- hS0];simp[World.cell?,hh]
 refine wpAnyH_take (i:=0) (oi:=Ca 0) (v:=.pointer (some ⟨Bt,0+9,none⟩)) (by kernel_rfl) (by kernel_rfl) (by kernel_rfl) (by kernel_rfl) (fun _ _ _ h=>nomatch h.1) ((ZP Bt 0 9)▸SY (s:=28) (x:=3) (n:=7) (off:=9) (by kernel_rfl) (by kernel_rfl) (by kernel_rfl) hbox) hS ?_
 rw[show(Ca 0).dst=some 56 from by kernel_rfl]
 have s1:=s0.put (d:=56) (by decide) (.pointer (some ⟨Bt,0+9,none⟩))
 have g1_56:(a.put (some 56) (.pointer (some ⟨Bt,0+9,none⟩))).eval (.tmp 56) = .pointer (some ⟨Bt,0+9,none⟩):=Zj (by rw[s0.size,hts];decide)
 have g1_3:=(Za (v:=.pointer (some ⟨Bt,0+9,none⟩)) (show 56≠3 by decide)).trans hbox
 have g1_10:=(Za (v:=.pointer (some ⟨Bt,0+9,none⟩)) (show 56≠10 by decide)).trans hidx
 have g1_1:=(Za (v:=.pointer (some ⟨Bt,0+9,none⟩)) (show 56≠1 by decide)).trans hx1
 have g1_2:=(Za (v:=.pointer (some ⟨Bt,0+9,none⟩)) (show 56≠2 by decide)).trans hx2
 generalize a.put (some 56) (.pointer (some ⟨Bt,0+9,none⟩))=a1 at *
 refine wpAnyH_take (i:=1) (oi:=Ca 1) (v:=.slice (some ⟨B,0,none⟩) n c) (by kernel_rfl) (by kernel_rfl) (by kernel_rfl) (by kernel_rfl) (fun _ _ _ h=>nomatch h.1) (TF (t:=26) (x:=56) (sz:=1) (by kernel_rfl) (by kernel_rfl) (by kernel_rfl) g1_56 (fun w h=>(by rw[Nat.zero_add];exact h))) hS ?_
 rw[show(Ca 1).dst=some 57 from by kernel_rfl]
 have s2:=s1.put (d:=57) (by decide) (.slice (some ⟨B,0,none⟩) n c)
 have g2_57:(a1.put (some 57) (.slice (some ⟨B,0,none⟩) n c)).eval (.tmp 57) = .slice (some ⟨B,0,none⟩) n c:=Zj (by rw[s1.size,hts];decide)
 have g2_3:=(Za (v:=.slice (some ⟨B,0,none⟩) n c) (show 57≠3 by decide)).trans g1_3
 have g2_10:=(Za (v:=.slice (some ⟨B,0,none⟩) n c) (show 57≠10 by decide)).trans g1_10
 have g2_1:=(Za (v:=.slice (some ⟨B,0,none⟩) n c) (show 57≠1 by decide)).trans g1_1
 have g2_2:=(Za (v:=.slice (some ⟨B,0,none⟩) n c) (show 57≠2 by decide)).trans g1_2
 have g2_56:=(Za (v:=.slice (some ⟨B,0,none⟩) n c) (show 57≠56 by decide)).trans g1_56
 generalize a1.put (some 57) (.slice (some ⟨B,0,none⟩) n c)=a2 at *
 refine wpAnyH_take (i:=2) (oi:=Ca 2) (v:=.int .i64 (i:Int)) (by kernel_rfl) (by kernel_rfl) (by kernel_rfl) (by kernel_rfl) (fun _ _ _ h=>nomatch h.1) (KT (x:=10) (by kernel_rfl) (by kernel_rfl) g2_10) hS ?_
 rw[show(Ca 2).dst=some 58 from by kernel_rfl]
 have s3:=s2.put (d:=58) (by decide) (.int .i64 (i:Int))
 have g3_58:(a2.put (some 58) (.int .i64 (i:Int))).eval (.tmp 58) = .int .i64 (i:Int):=Zj (by rw[s2.size,hts];decide)
 have g3_3:=(Za (v:=.int .i64 (i:Int)) (show 58≠3 by decide)).trans g2_3
 have g3_10:=(Za (v:=.int .i64 (i:Int)) (show 58≠10 by decide)).trans g2_10
 have g3_1:=(Za (v:=.int .i64 (i:Int)) (show 58≠1 by decide)).trans g2_1
 have g3_2:=(Za (v:=.int .i64 (i:Int)) (show 58≠2 by decide)).trans g2_2
 have g3_56:=(Za (v:=.int .i64 (i:Int)) (show 58≠56 by decide)).trans g2_56
 have g3_57:=(Za (v:=.int .i64 (i:Int)) (show 58≠57 by decide)).trans g2_57
 generalize a2.put (some 58) (.int .i64 (i:Int))=a3 at *
 refine wpAnyH_take (i:=3) (oi:=Ca 3) (v:=.pointer (some ⟨Bt,0+9,none⟩)) (by kernel_rfl) (by kernel_rfl) (by kernel_rfl) (by kernel_rfl) (fun _ _ _ h=>nomatch h.1) ((ZP Bt 0 9)▸SY (s:=28) (x:=3) (n:=7) (off:=9) (by kernel_rfl) (by kernel_rfl) (by kernel_rfl) g3_3) hS ?_
 rw[show(Ca 3).dst=some 59 from by kernel_rfl]
 have s4:=s3.put (d:=59) (by decide) (.pointer (some ⟨Bt,0+9,none⟩))
 have g4_59:(a3.put (some 59) (.pointer (some ⟨Bt,0+9,none⟩))).eval (.tmp 59) = .pointer (some ⟨Bt,0+9,none⟩):=Zj (by rw[s3.size,hts];decide)
 have g4_3:=(Za (v:=.pointer (some ⟨Bt,0+9,none⟩)) (show 59≠3 by decide)).trans g3_3
 have g4_10:=(Za (v:=.pointer (some ⟨Bt,0+9,none⟩)) (show 59≠10 by decide)).trans g3_10
 have g4_1:=(Za (v:=.pointer (some ⟨Bt,0+9,none⟩)) (show 59≠1 by decide)).trans g3_1
 have g4_2:=(Za (v:=.pointer (some ⟨Bt,0+9,none⟩)) (show 59≠2 by decide)).trans g3_2
 have g4_56:=(Za (v:=.pointer (some ⟨Bt,0+9,none⟩)) (show 59≠56 by decide)).trans g3_56
 have g4_57:=(Za (v:=.pointer (some ⟨Bt,0+9,none⟩)) (show 59≠57 by decide)).trans g3_57
 have g4_58:=(Za (v:=.pointer (some ⟨Bt,0+9,none⟩)) (show 59≠58 by decide)).trans g3_58
 generalize a3.put (some 59) (.pointer (some ⟨Bt,0+9,none⟩))=a4 at *
 refine wpAnyH_take (i:=4) (oi:=Ca 4) (v:=.slice (some ⟨B,0,none⟩) n c) (by kernel_rfl) (by kernel_rfl) (by kernel_rfl) (by kernel_rfl) (fun _ _ _ h=>nomatch h.1) (TF (t:=26) (x:=59) (sz:=1) (by kernel_rfl) (by kernel_rfl) (by kernel_rfl) g4_59 (fun w h=>(by rw[Nat.zero_add];exact h))) hS ?_
 rw[show(Ca 4).dst=some 60 from by kernel_rfl]
 have s5:=s4.put (d:=60) (by decide) (.slice (some ⟨B,0,none⟩) n c)
 have g5_60:(a4.put (some 60) (.slice (some ⟨B,0,none⟩) n c)).eval (.tmp 60) = .slice (some ⟨B,0,none⟩) n c:=Zj (by rw[s4.size,hts];decide)
 have g5_3:=(Za (v:=.slice (some ⟨B,0,none⟩) n c) (show 60≠3 by decide)).trans g4_3
 have g5_10:=(Za (v:=.slice (some ⟨B,0,none⟩) n c) (show 60≠10 by decide)).trans g4_10
 have g5_1:=(Za (v:=.slice (some ⟨B,0,none⟩) n c) (show 60≠1 by decide)).trans g4_1
 have g5_2:=(Za (v:=.slice (some ⟨B,0,none⟩) n c) (show 60≠2 by decide)).trans g4_2
 have g5_56:=(Za (v:=.slice (some ⟨B,0,none⟩) n c) (show 60≠56 by decide)).trans g4_56
 have g5_57:=(Za (v:=.slice (some ⟨B,0,none⟩) n c) (show 60≠57 by decide)).trans g4_57
 have g5_58:=(Za (v:=.slice (some ⟨B,0,none⟩) n c) (show 60≠58 by decide)).trans g4_58
 have g5_59:=(Za (v:=.slice (some ⟨B,0,none⟩) n c) (show 60≠59 by decide)).trans g4_59
 generalize a4.put (some 60) (.slice (some ⟨B,0,none⟩) n c)=a5 at *
 refine wpAnyH_take (i:=5) (oi:=Ca 5) (v:=.int .i64 (i:Int)) (by kernel_rfl) (by kernel_rfl) (by kernel_rfl) (by kernel_rfl) (fun _ _ _ h=>nomatch h.1) (KT (x:=10) (by kernel_rfl) (by kernel_rfl) g5_10) hS ?_
 rw[show(Ca 5).dst=some 61 from by kernel_rfl]
 have s6:=s5.put (d:=61) (by decide) (.int .i64 (i:Int))
 have g6_61:(a5.put (some 61) (.int .i64 (i:Int))).eval (.tmp 61) = .int .i64 (i:Int):=Zj (by rw[s5.size,hts];decide)
 have g6_3:=(Za (v:=.int .i64 (i:Int)) (show 61≠3 by decide)).trans g5_3
 have g6_10:=(Za (v:=.int .i64 (i:Int)) (show 61≠10 by decide)).trans g5_10
 have g6_1:=(Za (v:=.int .i64 (i:Int)) (show 61≠1 by decide)).trans g5_1
 have g6_2:=(Za (v:=.int .i64 (i:Int)) (show 61≠2 by decide)).trans g5_2
 have g6_56:=(Za (v:=.int .i64 (i:Int)) (show 61≠56 by decide)).trans g5_56
 have g6_57:=(Za (v:=.int .i64 (i:Int)) (show 61≠57 by decide)).trans g5_57
 have g6_58:=(Za (v:=.int .i64 (i:Int)) (show 61≠58 by decide)).trans g5_58
 have g6_59:=(Za (v:=.int .i64 (i:Int)) (show 61≠59 by decide)).trans g5_59
 have g6_60:=(Za (v:=.int .i64 (i:Int)) (show 61≠60 by decide)).trans g5_60
 generalize a5.put (some 61) (.int .i64 (i:Int))=a6 at *
 refine wpAnyH_take (i:=6) (oi:=Ca 6) (v:=.pointer (some ⟨B,0+i*10,none⟩)) (by kernel_rfl) (by kernel_rfl) (by kernel_rfl) (by kernel_rfl) (fun _ _ _ h=>nomatch h.1) ((ZP B 0 (i*10))▸TG (t:=26) (x:=60) (y:=61) (sz:=10) (by kernel_rfl) (by kernel_rfl) (by kernel_rfl) g6_60 g6_61 hin) hS ?_
 rw[show(Ca 6).dst=some 62 from by kernel_rfl]
 have s7:=s6.put (d:=62) (by decide) (.pointer (some ⟨B,0+i*10,none⟩))
 have g7_62:(a6.put (some 62) (.pointer (some ⟨B,0+i*10,none⟩))).eval (.tmp 62) = .pointer (some ⟨B,0+i*10,none⟩):=Zj (by rw[s6.size,hts];decide)
 have g7_3:=(Za (v:=.pointer (some ⟨B,0+i*10,none⟩)) (show 62≠3 by decide)).trans g6_3
 have g7_10:=(Za (v:=.pointer (some ⟨B,0+i*10,none⟩)) (show 62≠10 by decide)).trans g6_10
 have g7_1:=(Za (v:=.pointer (some ⟨B,0+i*10,none⟩)) (show 62≠1 by decide)).trans g6_1
 have g7_2:=(Za (v:=.pointer (some ⟨B,0+i*10,none⟩)) (show 62≠2 by decide)).trans g6_2
 have g7_56:=(Za (v:=.pointer (some ⟨B,0+i*10,none⟩)) (show 62≠56 by decide)).trans g6_56
 have g7_57:=(Za (v:=.pointer (some ⟨B,0+i*10,none⟩)) (show 62≠57 by decide)).trans g6_57
 have g7_58:=(Za (v:=.pointer (some ⟨B,0+i*10,none⟩)) (show 62≠58 by decide)).trans g6_58
 have g7_59:=(Za (v:=.pointer (some ⟨B,0+i*10,none⟩)) (show 62≠59 by decide)).trans g6_59
 have g7_60:=(Za (v:=.pointer (some ⟨B,0+i*10,none⟩)) (show 62≠60 by decide)).trans g6_60
 have g7_61:=(Za (v:=.pointer (some ⟨B,0+i*10,none⟩)) (show 62≠61 by decide)).trans g6_61
 generalize a6.put (some 62) (.pointer (some ⟨B,0+i*10,none⟩))=a7 at *
 refine wpAnyH_take (i:=8) (oi:=Ca 8) (v:=x1) (by kernel_rfl) (by kernel_rfl) (by kernel_rfl) (by kernel_rfl) (fun _ _ _ h=>nomatch h.1) (KT (x:=1) (by kernel_rfl) (by kernel_rfl) g7_1) hS ?_
 rw[show(Ca 8).dst=some 64 from by kernel_rfl]
 have s8:=s7.put (d:=64) (by decide) (x1)
 have g8_64:(a7.put (some 64) (x1)).eval (.tmp 64)=x1:=Zj (by rw[s7.size,hts];decide)
 have g8_3:=(Za (v:=x1) (show 64≠3 by decide)).trans g7_3
 have g8_10:=(Za (v:=x1) (show 64≠10 by decide)).trans g7_10
 have g8_1:=(Za (v:=x1) (show 64≠1 by decide)).trans g7_1
 have g8_2:=(Za (v:=x1) (show 64≠2 by decide)).trans g7_2
 have g8_56:=(Za (v:=x1) (show 64≠56 by decide)).trans g7_56
 have g8_57:=(Za (v:=x1) (show 64≠57 by decide)).trans g7_57
 have g8_58:=(Za (v:=x1) (show 64≠58 by decide)).trans g7_58
 have g8_59:=(Za (v:=x1) (show 64≠59 by decide)).trans g7_59
 have g8_60:=(Za (v:=x1) (show 64≠60 by decide)).trans g7_60
 have g8_61:=(Za (v:=x1) (show 64≠61 by decide)).trans g7_61
 have g8_62:=(Za (v:=x1) (show 64≠62 by decide)).trans g7_62
 generalize a7.put (some 64) (x1)=a8 at *
 refine wpAnyH_take (i:=9) (oi:=Ca 9) (v:=x2) (by kernel_rfl) (by kernel_rfl) (by kernel_rfl) (by kernel_rfl) (fun _ _ _ h=>nomatch h.1) (KT (x:=2) (by kernel_rfl) (by kernel_rfl) g8_2) hS ?_
 rw[show(Ca 9).dst=some 65 from by kernel_rfl]
 have s9:=s8.put (d:=65) (by decide) (x2)
 have g9_65:(a8.put (some 65) (x2)).eval (.tmp 65)=x2:=Zj (by rw[s8.size,hts];decide)
 have g9_3:=(Za (v:=x2) (show 65≠3 by decide)).trans g8_3
 have g9_10:=(Za (v:=x2) (show 65≠10 by decide)).trans g8_10
 have g9_1:=(Za (v:=x2) (show 65≠1 by decide)).trans g8_1
 have g9_2:=(Za (v:=x2) (show 65≠2 by decide)).trans g8_2
 have g9_56:=(Za (v:=x2) (show 65≠56 by decide)).trans g8_56
 have g9_57:=(Za (v:=x2) (show 65≠57 by decide)).trans g8_57
 have g9_58:=(Za (v:=x2) (show 65≠58 by decide)).trans g8_58
 have g9_59:=(Za (v:=x2) (show 65≠59 by decide)).trans g8_59
 have g9_60:=(Za (v:=x2) (show 65≠60 by decide)).trans g8_60
 have g9_61:=(Za (v:=x2) (show 65≠61 by decide)).trans g8_61
 have g9_62:=(Za (v:=x2) (show 65≠62 by decide)).trans g8_62
 have g9_64:=(Za (v:=x2) (show 65≠64 by decide)).trans g8_64
 generalize a8.put (some 65) (x2)=a9 at *
 refine wpAnyH_all (rs:=[7]) (by kernel_rfl) (by simp) (fun j hj=> ?_)
 obtain rfl:j=7:=by simpa using hj
 refine El (o:=Ca 7) (t:=28) (sz:=10) (x:=62) (by kernel_rfl) (by kernel_rfl) (by kernel_rfl) (by kernel_rfl) hlen g9_62 (by rw[Nat.zero_add];exact ZJ ((congrArg (·[B]?) hh).trans hB) _ _) ⟨hS,?_⟩
 rw[show(Ca 7).dst=some 63 from by kernel_rfl]
 have s10:=s9.put (d:=63) (by decide) (.agg ((cs.toList.drop (i*10)).take 10).toArray)
 have g10_63:(a9.put (some 63) (.agg ((cs.toList.drop (i*10)).take 10).toArray)).eval (.tmp 63) = .agg ((cs.toList.drop (i*10)).take 10).toArray:=Zj (by rw[s9.size,hts];decide)
 have g10_3:=(Za (v:=.agg ((cs.toList.drop (i*10)).take 10).toArray) (show 63≠3 by decide)).trans g9_3
 have g10_10:=(Za (v:=.agg ((cs.toList.drop (i*10)).take 10).toArray) (show 63≠10 by decide)).trans g9_10
 have g10_1:=(Za (v:=.agg ((cs.toList.drop (i*10)).take 10).toArray) (show 63≠1 by decide)).trans g9_1
 have g10_2:=(Za (v:=.agg ((cs.toList.drop (i*10)).take 10).toArray) (show 63≠2 by decide)).trans g9_2
 have g10_56:=(Za (v:=.agg ((cs.toList.drop (i*10)).take 10).toArray) (show 63≠56 by decide)).trans g9_56
 have g10_57:=(Za (v:=.agg ((cs.toList.drop (i*10)).take 10).toArray) (show 63≠57 by decide)).trans g9_57
 have g10_58:=(Za (v:=.agg ((cs.toList.drop (i*10)).take 10).toArray) (show 63≠58 by decide)).trans g9_58
 have g10_59:=(Za (v:=.agg ((cs.toList.drop (i*10)).take 10).toArray) (show 63≠59 by decide)).trans g9_59
 have g10_60:=(Za (v:=.agg ((cs.toList.drop (i*10)).take 10).toArray) (show 63≠60 by decide)).trans g9_60
 have g10_61:=(Za (v:=.agg ((cs.toList.drop (i*10)).take 10).toArray) (show 63≠61 by decide)).trans g9_61
 have g10_62:=(Za (v:=.agg ((cs.toList.drop (i*10)).take 10).toArray) (show 63≠62 by decide)).trans g9_62
 have g10_64:=(Za (v:=.agg ((cs.toList.drop (i*10)).take 10).toArray) (show 63≠64 by decide)).trans g9_64
 have g10_65:=(Za (v:=.agg ((cs.toList.drop (i*10)).take 10).toArray) (show 63≠65 by decide)).trans g9_65
 generalize a9.put (some 63) (.agg ((cs.toList.drop (i*10)).take 10).toArray)=a10 at *
 refine wpAnyH_all (rs:=[10]) (by kernel_rfl) (by simp) (fun j hj=> ?_)
 obtain rfl:j=10:=by simpa using hj
 refine Rp (o:=Ca 10) (f:=70) (xs:=#[.tmp 63,.tmp 64,.tmp 65]) (ts:=#[28,80,78]) (by kernel_rfl) (by kernel_rfl) (by kernel_rfl) Tryz.func70 (by kernel_rfl) (by kernel_rfl) (vs:=#[(.agg ((cs.toList.drop (i*10)).take 10).toArray),x1,x2]) (by simp only[List.map_toArray,List.map_cons,List.map_nil,g10_63,g10_64,g10_65]) hcall ?_
 intro e w2 hr
 obtain⟨vs,rfl,hvl,hv1,hb2,hB2,hK⟩:=hR e w2 hr
 have hS2:w2.cell? ⟨Bt,9,none⟩=some (.slice (some ⟨B,0,none⟩) n c):=by simp[World.cell?,hb2,hb,hk]
 refine⟨_,rfl,hS2,?_⟩
 rw[show(Ca 10).dst=some 66 from by kernel_rfl]
 have s11:=s10.put (d:=66) (by decide) (.agg vs.toArray)
 have g11_66:(a10.put (some 66) (.agg vs.toArray)).eval (.tmp 66) = .agg vs.toArray:=Zj (by rw[s10.size,hts];decide)
 have g11_3:=(Za (v:=.agg vs.toArray) (show 66≠3 by decide)).trans g10_3
 have g11_10:=(Za (v:=.agg vs.toArray) (show 66≠10 by decide)).trans g10_10
 have g11_1:=(Za (v:=.agg vs.toArray) (show 66≠1 by decide)).trans g10_1
 have g11_2:=(Za (v:=.agg vs.toArray) (show 66≠2 by decide)).trans g10_2
 have g11_56:=(Za (v:=.agg vs.toArray) (show 66≠56 by decide)).trans g10_56
 have g11_57:=(Za (v:=.agg vs.toArray) (show 66≠57 by decide)).trans g10_57
 have g11_58:=(Za (v:=.agg vs.toArray) (show 66≠58 by decide)).trans g10_58
 have g11_59:=(Za (v:=.agg vs.toArray) (show 66≠59 by decide)).trans g10_59
 have g11_60:=(Za (v:=.agg vs.toArray) (show 66≠60 by decide)).trans g10_60
 have g11_61:=(Za (v:=.agg vs.toArray) (show 66≠61 by decide)).trans g10_61
 have g11_62:=(Za (v:=.agg vs.toArray) (show 66≠62 by decide)).trans g10_62
 have g11_64:=(Za (v:=.agg vs.toArray) (show 66≠64 by decide)).trans g10_64
 have g11_65:=(Za (v:=.agg vs.toArray) (show 66≠65 by decide)).trans g10_65
 have g11_63:=(Za (v:=.agg vs.toArray) (show 66≠63 by decide)).trans g10_63
 generalize a10.put (some 66) (.agg vs.toArray)=a11 at *
 refine wpAnyH_take (i:=11) (oi:=Ca 11) (v:=.pointer (some ⟨B,0+i*10,none⟩)) (by kernel_rfl) (by kernel_rfl) (by kernel_rfl) (by kernel_rfl) (fun _ _ _ h=>nomatch h.1) ((ZP B 0 (i*10))▸TG (t:=26) (x:=57) (y:=58) (sz:=10) (by kernel_rfl) (by kernel_rfl) (by kernel_rfl) g11_57 g11_58 hin) hS2 ?_
 rw[show(Ca 11).dst=some 67 from by kernel_rfl]
 have s12:=s11.put (d:=67) (by decide) (.pointer (some ⟨B,0+i*10,none⟩))
 have g12_67:(a11.put (some 67) (.pointer (some ⟨B,0+i*10,none⟩))).eval (.tmp 67) = .pointer (some ⟨B,0+i*10,none⟩):=Zj (by rw[s11.size,hts];decide)
 have g12_3:=(Za (v:=.pointer (some ⟨B,0+i*10,none⟩)) (show 67≠3 by decide)).trans g11_3
 have g12_10:=(Za (v:=.pointer (some ⟨B,0+i*10,none⟩)) (show 67≠10 by decide)).trans g11_10
 have g12_1:=(Za (v:=.pointer (some ⟨B,0+i*10,none⟩)) (show 67≠1 by decide)).trans g11_1
 have g12_2:=(Za (v:=.pointer (some ⟨B,0+i*10,none⟩)) (show 67≠2 by decide)).trans g11_2
 have g12_56:=(Za (v:=.pointer (some ⟨B,0+i*10,none⟩)) (show 67≠56 by decide)).trans g11_56
 have g12_57:=(Za (v:=.pointer (some ⟨B,0+i*10,none⟩)) (show 67≠57 by decide)).trans g11_57
 have g12_58:=(Za (v:=.pointer (some ⟨B,0+i*10,none⟩)) (show 67≠58 by decide)).trans g11_58
 have g12_59:=(Za (v:=.pointer (some ⟨B,0+i*10,none⟩)) (show 67≠59 by decide)).trans g11_59
 have g12_60:=(Za (v:=.pointer (some ⟨B,0+i*10,none⟩)) (show 67≠60 by decide)).trans g11_60
 have g12_61:=(Za (v:=.pointer (some ⟨B,0+i*10,none⟩)) (show 67≠61 by decide)).trans g11_61
 have g12_62:=(Za (v:=.pointer (some ⟨B,0+i*10,none⟩)) (show 67≠62 by decide)).trans g11_62
 have g12_64:=(Za (v:=.pointer (some ⟨B,0+i*10,none⟩)) (show 67≠64 by decide)).trans g11_64
 have g12_65:=(Za (v:=.pointer (some ⟨B,0+i*10,none⟩)) (show 67≠65 by decide)).trans g11_65
 have g12_63:=(Za (v:=.pointer (some ⟨B,0+i*10,none⟩)) (show 67≠63 by decide)).trans g11_63
 have g12_66:=(Za (v:=.pointer (some ⟨B,0+i*10,none⟩)) (show 67≠66 by decide)).trans g11_66
 generalize a11.put (some 67) (.pointer (some ⟨B,0+i*10,none⟩))=a12 at *
 refine wpAnyH_all (rs:=[12]) (by kernel_rfl) (by simp) (fun j hj=> ?_)
 obtain rfl:j=12:=by simpa using hj
 refine Au (o:=Ca 12) (t:=28) (x:=67) (y:=66) (by kernel_rfl) (by kernel_rfl) (by kernel_rfl) g12_67 g12_66 (Nj (sz:=10) (by kernel_rfl) hvl (hB2.trans hB) (by rw[Nat.zero_add];have:=Nat.mul_le_mul_right 10 (show i+1<=n from hin);omega) hv1) ⟨?_,?_⟩
 ·rw[<- hS2];simp only[World.cell?,setRow_other _ B Bt _ hne]
 ·rw[show(Ca 12).dst=none from by kernel_rfl]
  refine wpAnyH_done (by kernel_rfl) ⟨rfl,?_⟩ _
  rw[Nat.zero_add]
  exact hK _ s12
noncomputable def rbO:Array Oper:=Q6 (Tryz.f70.body.getD .skip) 14
noncomputable def DL(i:Nat):Oper:=rbO.getD i default
set_option maxHeartbeats 2000000 in
theorem rbR{K:Act->World->Prop}{R:Ending->World->Prop}{a:Act}{w:World}{Bt B c i n:Nat}{ct cs:Array Value}{T0:TypeId}(x9:Value)(x2:Value)(hb:w.heap[Bt]? = some (.cells ct T0 (0,0)))(hk:ct[9]? = some (.slice (some ⟨B,0,none⟩) n c))(hB:w.heap[B]? = some (.cells cs 28 (0,0)))(hne:Bt≠B)(hin:i<n)(hsz:n*10<=cs.size)
  (hbox:a.eval (.tmp 3) = .pointer (some ⟨Bt,0,none⟩)) (hidx:a.eval (.tmp 10) = .int .i64 (i:Int)) (hx9:a.eval (.tmp 9)=x9) (hx2:a.eval (.tmp 2)=x2) (hts:a.tmps.size=82) (hcall:Calls Tryz.prog 70 #[(.agg ((cs.toList.drop (i*10)).take 10).toArray),x9,x2] {w with drawn:=w.drawn+1} R)
  (hR : ∀ e w',R e w'-> ∃ vs:List Value,e = .returned (.agg vs.toArray)∧vs.length=10∧ZW vs∧w'.heap[Bt]? = w.heap[Bt]? ∧w'.heap[B]? = w.heap[B]? ∧ ∀ a',SameT [68,69,70,71,72,73,74,75,76,77,78,79] a a'->K a' (w'.setRow B (splice cs.toList (i*10) vs).toArray)) :
  (Code.region 14 rbO true).wp Tryz.prog (fun e a w=>e = .normal∧K a w) a w:=by
 have hS0:w.cell? ⟨Bt,9,none⟩=some (.slice (some ⟨B,0,none⟩) n c):=by simp[World.cell?,hb,hk]
 have hlen:((cs.toList.drop (i*10)).take 10).length=10:=by simp;omega
 have s0:SameT [68,69,70,71,72,73,74,75,76,77,78,79] a a:=.refl _ _
 refine wp_region_held (S:=fun w=>w.cell? ⟨Bt,9,none⟩=some (.slice (some ⟨B,0,none⟩) n c)) (by kernel_rfl) ?_
 rw[show rbO.size=13 from by kernel_rfl]
 generalize hwd:({w with drawn:=w.drawn+1}:World)=wd at hcall ⊢
 have hh:wd.heap=w.heap:=by rw[<- hwd]
 have hS:wd.cell? ⟨Bt,9,none⟩=some (.slice (some ⟨B,0,none⟩) n c):=by rw[<- hS0];simp[World.cell?,hh]
 refine wpAnyH_take (i:=0) (oi:=DL 0) (v:=.pointer (some ⟨Bt,0+9,none⟩)) (by kernel_rfl) (by kernel_rfl) (by kernel_rfl) (by kernel_rfl) (fun _ _ _ h=>nomatch h.1) ((ZP Bt 0 9)▸SY (s:=28) (x:=3) (n:=7) (off:=9) (by kernel_rfl) (by kernel_rfl) (by kernel_rfl) hbox) hS ?_
 rw[show(DL 0).dst=some 68 from by kernel_rfl]
 have s1:=s0.put (d:=68) (by decide) (.pointer (some ⟨Bt,0+9,none⟩))
 have g1_68:(a.put (some 68) (.pointer (some ⟨Bt,0+9,none⟩))).eval (.tmp 68) = .pointer (some ⟨Bt,0+9,none⟩):=Zj (by rw[s0.size,hts];decide)
 have g1_3:=(Za (v:=.pointer (some ⟨Bt,0+9,none⟩)) (show 68≠3 by decide)).trans hbox
 have g1_10:=(Za (v:=.pointer (some ⟨Bt,0+9,none⟩)) (show 68≠10 by decide)).trans hidx
 have g1_9:=(Za (v:=.pointer (some ⟨Bt,0+9,none⟩)) (show 68≠9 by decide)).trans hx9
 have g1_2:=(Za (v:=.pointer (some ⟨Bt,0+9,none⟩)) (show 68≠2 by decide)).trans hx2
 generalize a.put (some 68) (.pointer (some ⟨Bt,0+9,none⟩))=a1 at *
 refine wpAnyH_take (i:=1) (oi:=DL 1) (v:=.slice (some ⟨B,0,none⟩) n c) (by kernel_rfl) (by kernel_rfl) (by kernel_rfl) (by kernel_rfl) (fun _ _ _ h=>nomatch h.1) (TF (t:=26) (x:=68) (sz:=1) (by kernel_rfl) (by kernel_rfl) (by kernel_rfl) g1_68 (fun w h=>(by rw[Nat.zero_add];exact h))) hS ?_
 rw[show(DL 1).dst=some 69 from by kernel_rfl]
 have s2:=s1.put (d:=69) (by decide) (.slice (some ⟨B,0,none⟩) n c)
 have g2_69:(a1.put (some 69) (.slice (some ⟨B,0,none⟩) n c)).eval (.tmp 69) = .slice (some ⟨B,0,none⟩) n c:=Zj (by rw[s1.size,hts];decide)
 have g2_3:=(Za (v:=.slice (some ⟨B,0,none⟩) n c) (show 69≠3 by decide)).trans g1_3
 have g2_10:=(Za (v:=.slice (some ⟨B,0,none⟩) n c) (show 69≠10 by decide)).trans g1_10
 have g2_9:=(Za (v:=.slice (some ⟨B,0,none⟩) n c) (show 69≠9 by decide)).trans g1_9
 have g2_2:=(Za (v:=.slice (some ⟨B,0,none⟩) n c) (show 69≠2 by decide)).trans g1_2
 have g2_68:=(Za (v:=.slice (some ⟨B,0,none⟩) n c) (show 69≠68 by decide)).trans g1_68
 generalize a1.put (some 69) (.slice (some ⟨B,0,none⟩) n c)=a2 at *
 refine wpAnyH_take (i:=2) (oi:=DL 2) (v:=.int .i64 (i:Int)) (by kernel_rfl) (by kernel_rfl) (by kernel_rfl) (by kernel_rfl) (fun _ _ _ h=>nomatch h.1) (KT (x:=10) (by kernel_rfl) (by kernel_rfl) g2_10) hS ?_
 rw[show(DL 2).dst=some 70 from by kernel_rfl]
 have s3:=s2.put (d:=70) (by decide) (.int .i64 (i:Int))
 have g3_70:(a2.put (some 70) (.int .i64 (i:Int))).eval (.tmp 70) = .int .i64 (i:Int):=Zj (by rw[s2.size,hts];decide)
 have g3_3:=(Za (v:=.int .i64 (i:Int)) (show 70≠3 by decide)).trans g2_3
 have g3_10:=(Za (v:=.int .i64 (i:Int)) (show 70≠10 by decide)).trans g2_10
 have g3_9:=(Za (v:=.int .i64 (i:Int)) (show 70≠9 by decide)).trans g2_9
 have g3_2:=(Za (v:=.int .i64 (i:Int)) (show 70≠2 by decide)).trans g2_2
 have g3_68:=(Za (v:=.int .i64 (i:Int)) (show 70≠68 by decide)).trans g2_68
 have g3_69:=(Za (v:=.int .i64 (i:Int)) (show 70≠69 by decide)).trans g2_69
 generalize a2.put (some 70) (.int .i64 (i:Int))=a3 at *
 refine wpAnyH_take (i:=3) (oi:=DL 3) (v:=.pointer (some ⟨Bt,0+9,none⟩)) (by kernel_rfl) (by kernel_rfl) (by kernel_rfl) (by kernel_rfl) (fun _ _ _ h=>nomatch h.1) ((ZP Bt 0 9)▸SY (s:=28) (x:=3) (n:=7) (off:=9) (by kernel_rfl) (by kernel_rfl) (by kernel_rfl) g3_3) hS ?_
 rw[show(DL 3).dst=some 71 from by kernel_rfl]
 have s4:=s3.put (d:=71) (by decide) (.pointer (some ⟨Bt,0+9,none⟩))
 have g4_71:(a3.put (some 71) (.pointer (some ⟨Bt,0+9,none⟩))).eval (.tmp 71) = .pointer (some ⟨Bt,0+9,none⟩):=Zj (by rw[s3.size,hts];decide)
 have g4_3:=(Za (v:=.pointer (some ⟨Bt,0+9,none⟩)) (show 71≠3 by decide)).trans g3_3
 have g4_10:=(Za (v:=.pointer (some ⟨Bt,0+9,none⟩)) (show 71≠10 by decide)).trans g3_10
 have g4_9:=(Za (v:=.pointer (some ⟨Bt,0+9,none⟩)) (show 71≠9 by decide)).trans g3_9
 have g4_2:=(Za (v:=.pointer (some ⟨Bt,0+9,none⟩)) (show 71≠2 by decide)).trans g3_2
 have g4_68:=(Za (v:=.pointer (some ⟨Bt,0+9,none⟩)) (show 71≠68 by decide)).trans g3_68
 have g4_69:=(Za (v:=.pointer (some ⟨Bt,0+9,none⟩)) (show 71≠69 by decide)).trans g3_69
 have g4_70:=(Za (v:=.pointer (some ⟨Bt,0+9,none⟩)) (show 71≠70 by decide)).trans g3_70
 generalize a3.put (some 71) (.pointer (some ⟨Bt,0+9,none⟩))=a4 at *
 refine wpAnyH_take (i:=4) (oi:=DL 4) (v:=.slice (some ⟨B,0,none⟩) n c) (by kernel_rfl) (by kernel_rfl) (by kernel_rfl) (by kernel_rfl) (fun _ _ _ h=>nomatch h.1) (TF (t:=26) (x:=71) (sz:=1) (by kernel_rfl) (by kernel_rfl) (by kernel_rfl) g4_71 (fun w h=>(by rw[Nat.zero_add];exact h))) hS ?_
 rw[show(DL 4).dst=some 72 from by kernel_rfl]
 have s5:=s4.put (d:=72) (by decide) (.slice (some ⟨B,0,none⟩) n c)
 have g5_72:(a4.put (some 72) (.slice (some ⟨B,0,none⟩) n c)).eval (.tmp 72) = .slice (some ⟨B,0,none⟩) n c:=Zj (by rw[s4.size,hts];decide)
 have g5_3:=(Za (v:=.slice (some ⟨B,0,none⟩) n c) (show 72≠3 by decide)).trans g4_3
 have g5_10:=(Za (v:=.slice (some ⟨B,0,none⟩) n c) (show 72≠10 by decide)).trans g4_10
 have g5_9:=(Za (v:=.slice (some ⟨B,0,none⟩) n c) (show 72≠9 by decide)).trans g4_9
 have g5_2:=(Za (v:=.slice (some ⟨B,0,none⟩) n c) (show 72≠2 by decide)).trans g4_2
 have g5_68:=(Za (v:=.slice (some ⟨B,0,none⟩) n c) (show 72≠68 by decide)).trans g4_68
 have g5_69:=(Za (v:=.slice (some ⟨B,0,none⟩) n c) (show 72≠69 by decide)).trans g4_69
 have g5_70:=(Za (v:=.slice (some ⟨B,0,none⟩) n c) (show 72≠70 by decide)).trans g4_70
 have g5_71:=(Za (v:=.slice (some ⟨B,0,none⟩) n c) (show 72≠71 by decide)).trans g4_71
 generalize a4.put (some 72) (.slice (some ⟨B,0,none⟩) n c)=a5 at *
 refine wpAnyH_take (i:=5) (oi:=DL 5) (v:=.int .i64 (i:Int)) (by kernel_rfl) (by kernel_rfl) (by kernel_rfl) (by kernel_rfl) (fun _ _ _ h=>nomatch h.1) (KT (x:=10) (by kernel_rfl) (by kernel_rfl) g5_10) hS ?_
 rw[show(DL 5).dst=some 73 from by kernel_rfl]
 have s6:=s5.put (d:=73) (by decide) (.int .i64 (i:Int))
 have g6_73:(a5.put (some 73) (.int .i64 (i:Int))).eval (.tmp 73) = .int .i64 (i:Int):=Zj (by rw[s5.size,hts];decide)
 have g6_3:=(Za (v:=.int .i64 (i:Int)) (show 73≠3 by decide)).trans g5_3
 have g6_10:=(Za (v:=.int .i64 (i:Int)) (show 73≠10 by decide)).trans g5_10
 have g6_9:=(Za (v:=.int .i64 (i:Int)) (show 73≠9 by decide)).trans g5_9
 have g6_2:=(Za (v:=.int .i64 (i:Int)) (show 73≠2 by decide)).trans g5_2
 have g6_68:=(Za (v:=.int .i64 (i:Int)) (show 73≠68 by decide)).trans g5_68
 have g6_69:=(Za (v:=.int .i64 (i:Int)) (show 73≠69 by decide)).trans g5_69
 have g6_70:=(Za (v:=.int .i64 (i:Int)) (show 73≠70 by decide)).trans g5_70
 have g6_71:=(Za (v:=.int .i64 (i:Int)) (show 73≠71 by decide)).trans g5_71
 have g6_72:=(Za (v:=.int .i64 (i:Int)) (show 73≠72 by decide)).trans g5_72
 generalize a5.put (some 73) (.int .i64 (i:Int))=a6 at *
 refine wpAnyH_take (i:=6) (oi:=DL 6) (v:=.pointer (some ⟨B,0+i*10,none⟩)) (by kernel_rfl) (by kernel_rfl) (by kernel_rfl) (by kernel_rfl) (fun _ _ _ h=>nomatch h.1) ((ZP B 0 (i*10))▸TG (t:=26) (x:=72) (y:=73) (sz:=10) (by kernel_rfl) (by kernel_rfl) (by kernel_rfl) g6_72 g6_73 hin) hS ?_
 rw[show(DL 6).dst=some 74 from by kernel_rfl]
 have s7:=s6.put (d:=74) (by decide) (.pointer (some ⟨B,0+i*10,none⟩))
 have g7_74:(a6.put (some 74) (.pointer (some ⟨B,0+i*10,none⟩))).eval (.tmp 74) = .pointer (some ⟨B,0+i*10,none⟩):=Zj (by rw[s6.size,hts];decide)
 have g7_3:=(Za (v:=.pointer (some ⟨B,0+i*10,none⟩)) (show 74≠3 by decide)).trans g6_3
 have g7_10:=(Za (v:=.pointer (some ⟨B,0+i*10,none⟩)) (show 74≠10 by decide)).trans g6_10
 have g7_9:=(Za (v:=.pointer (some ⟨B,0+i*10,none⟩)) (show 74≠9 by decide)).trans g6_9
 have g7_2:=(Za (v:=.pointer (some ⟨B,0+i*10,none⟩)) (show 74≠2 by decide)).trans g6_2
 have g7_68:=(Za (v:=.pointer (some ⟨B,0+i*10,none⟩)) (show 74≠68 by decide)).trans g6_68
 have g7_69:=(Za (v:=.pointer (some ⟨B,0+i*10,none⟩)) (show 74≠69 by decide)).trans g6_69
 have g7_70:=(Za (v:=.pointer (some ⟨B,0+i*10,none⟩)) (show 74≠70 by decide)).trans g6_70
 have g7_71:=(Za (v:=.pointer (some ⟨B,0+i*10,none⟩)) (show 74≠71 by decide)).trans g6_71
 have g7_72:=(Za (v:=.pointer (some ⟨B,0+i*10,none⟩)) (show 74≠72 by decide)).trans g6_72
 have g7_73:=(Za (v:=.pointer (some ⟨B,0+i*10,none⟩)) (show 74≠73 by decide)).trans g6_73
 generalize a6.put (some 74) (.pointer (some ⟨B,0+i*10,none⟩))=a7 at *
 refine wpAnyH_take (i:=8) (oi:=DL 8) (v:=x9) (by kernel_rfl) (by kernel_rfl) (by kernel_rfl) (by kernel_rfl) (fun _ _ _ h=>nomatch h.1) (KT (x:=9) (by kernel_rfl) (by kernel_rfl) g7_9) hS ?_
 rw[show(DL 8).dst=some 76 from by kernel_rfl]
 have s8:=s7.put (d:=76) (by decide) (x9)
 have g8_76:(a7.put (some 76) (x9)).eval (.tmp 76)=x9:=Zj (by rw[s7.size,hts];decide)
 have g8_3:=(Za (v:=x9) (show 76≠3 by decide)).trans g7_3
 have g8_10:=(Za (v:=x9) (show 76≠10 by decide)).trans g7_10
 have g8_9:=(Za (v:=x9) (show 76≠9 by decide)).trans g7_9
 have g8_2:=(Za (v:=x9) (show 76≠2 by decide)).trans g7_2
 have g8_68:=(Za (v:=x9) (show 76≠68 by decide)).trans g7_68
 have g8_69:=(Za (v:=x9) (show 76≠69 by decide)).trans g7_69
 have g8_70:=(Za (v:=x9) (show 76≠70 by decide)).trans g7_70
 have g8_71:=(Za (v:=x9) (show 76≠71 by decide)).trans g7_71
 have g8_72:=(Za (v:=x9) (show 76≠72 by decide)).trans g7_72
 have g8_73:=(Za (v:=x9) (show 76≠73 by decide)).trans g7_73
 have g8_74:=(Za (v:=x9) (show 76≠74 by decide)).trans g7_74
 generalize a7.put (some 76) (x9)=a8 at *
 refine wpAnyH_take (i:=9) (oi:=DL 9) (v:=x2) (by kernel_rfl) (by kernel_rfl) (by kernel_rfl) (by kernel_rfl) (fun _ _ _ h=>nomatch h.1) (KT (x:=2) (by kernel_rfl) (by kernel_rfl) g8_2) hS ?_
 rw[show(DL 9).dst=some 77 from by kernel_rfl]
 have s9:=s8.put (d:=77) (by decide) (x2)
 have g9_77:(a8.put (some 77) (x2)).eval (.tmp 77)=x2:=Zj (by rw[s8.size,hts];decide)
 have g9_3:=(Za (v:=x2) (show 77≠3 by decide)).trans g8_3
 have g9_10:=(Za (v:=x2) (show 77≠10 by decide)).trans g8_10
 have g9_9:=(Za (v:=x2) (show 77≠9 by decide)).trans g8_9
 have g9_2:=(Za (v:=x2) (show 77≠2 by decide)).trans g8_2
 have g9_68:=(Za (v:=x2) (show 77≠68 by decide)).trans g8_68
 have g9_69:=(Za (v:=x2) (show 77≠69 by decide)).trans g8_69
 have g9_70:=(Za (v:=x2) (show 77≠70 by decide)).trans g8_70
 have g9_71:=(Za (v:=x2) (show 77≠71 by decide)).trans g8_71
 have g9_72:=(Za (v:=x2) (show 77≠72 by decide)).trans g8_72
 have g9_73:=(Za (v:=x2) (show 77≠73 by decide)).trans g8_73
 have g9_74:=(Za (v:=x2) (show 77≠74 by decide)).trans g8_74
 have g9_76:=(Za (v:=x2) (show 77≠76 by decide)).trans g8_76
 generalize a8.put (some 77) (x2)=a9 at *
 refine wpAnyH_all (rs:=[7]) (by kernel_rfl) (by simp) (fun j hj=> ?_)
 obtain rfl:j=7:=by simpa using hj
 refine El (o:=DL 7) (t:=28) (sz:=10) (x:=74) (by kernel_rfl) (by kernel_rfl) (by kernel_rfl) (by kernel_rfl) hlen g9_74 (by rw[Nat.zero_add];exact ZJ ((congrArg (·[B]?) hh).trans hB) _ _) ⟨hS,?_⟩
 rw[show(DL 7).dst=some 75 from by kernel_rfl]
 have s10:=s9.put (d:=75) (by decide) (.agg ((cs.toList.drop (i*10)).take 10).toArray)
 have g10_75:(a9.put (some 75) (.agg ((cs.toList.drop (i*10)).take 10).toArray)).eval (.tmp 75) = .agg ((cs.toList.drop (i*10)).take 10).toArray:=Zj (by rw[s9.size,hts];decide)
 have g10_3:=(Za (v:=.agg ((cs.toList.drop (i*10)).take 10).toArray) (show 75≠3 by decide)).trans g9_3
 have g10_10:=(Za (v:=.agg ((cs.toList.drop (i*10)).take 10).toArray) (show 75≠10 by decide)).trans g9_10
 have g10_9:=(Za (v:=.agg ((cs.toList.drop (i*10)).take 10).toArray) (show 75≠9 by decide)).trans g9_9
 have g10_2:=(Za (v:=.agg ((cs.toList.drop (i*10)).take 10).toArray) (show 75≠2 by decide)).trans g9_2
 have g10_68:=(Za (v:=.agg ((cs.toList.drop (i*10)).take 10).toArray) (show 75≠68 by decide)).trans g9_68
 have g10_69:=(Za (v:=.agg ((cs.toList.drop (i*10)).take 10).toArray) (show 75≠69 by decide)).trans g9_69
 have g10_70:=(Za (v:=.agg ((cs.toList.drop (i*10)).take 10).toArray) (show 75≠70 by decide)).trans g9_70
 have g10_71:=(Za (v:=.agg ((cs.toList.drop (i*10)).take 10).toArray) (show 75≠71 by decide)).trans g9_71
 have g10_72:=(Za (v:=.agg ((cs.toList.drop (i*10)).take 10).toArray) (show 75≠72 by decide)).trans g9_72
 have g10_73:=(Za (v:=.agg ((cs.toList.drop (i*10)).take 10).toArray) (show 75≠73 by decide)).trans g9_73
 have g10_74:=(Za (v:=.agg ((cs.toList.drop (i*10)).take 10).toArray) (show 75≠74 by decide)).trans g9_74
 have g10_76:=(Za (v:=.agg ((cs.toList.drop (i*10)).take 10).toArray) (show 75≠76 by decide)).trans g9_76
 have g10_77:=(Za (v:=.agg ((cs.toList.drop (i*10)).take 10).toArray) (show 75≠77 by decide)).trans g9_77
 generalize a9.put (some 75) (.agg ((cs.toList.drop (i*10)).take 10).toArray)=a10 at *
 refine wpAnyH_all (rs:=[10]) (by kernel_rfl) (by simp) (fun j hj=> ?_)
 obtain rfl:j=10:=by simpa using hj
 refine Rp (o:=DL 10) (f:=70) (xs:=#[.tmp 75,.tmp 76,.tmp 77]) (ts:=#[28,80,78]) (by kernel_rfl) (by kernel_rfl) (by kernel_rfl) Tryz.func70 (by kernel_rfl) (by kernel_rfl) (vs:=#[(.agg ((cs.toList.drop (i*10)).take 10).toArray),x9,x2]) (by simp only[List.map_toArray,List.map_cons,List.map_nil,g10_75,g10_76,g10_77]) hcall ?_
 intro e w2 hr
 obtain⟨vs,rfl,hvl,hv1,hb2,hB2,hK⟩:=hR e w2 hr
 have hS2:w2.cell? ⟨Bt,9,none⟩=some (.slice (some ⟨B,0,none⟩) n c):=by simp[World.cell?,hb2,hb,hk]
 refine⟨_,rfl,hS2,?_⟩
 rw[show(DL 10).dst=some 78 from by kernel_rfl]
 have s11:=s10.put (d:=78) (by decide) (.agg vs.toArray)
 have g11_78:(a10.put (some 78) (.agg vs.toArray)).eval (.tmp 78) = .agg vs.toArray:=Zj (by rw[s10.size,hts];decide)
 have g11_3:=(Za (v:=.agg vs.toArray) (show 78≠3 by decide)).trans g10_3
 have g11_10:=(Za (v:=.agg vs.toArray) (show 78≠10 by decide)).trans g10_10
 have g11_9:=(Za (v:=.agg vs.toArray) (show 78≠9 by decide)).trans g10_9
 have g11_2:=(Za (v:=.agg vs.toArray) (show 78≠2 by decide)).trans g10_2
 have g11_68:=(Za (v:=.agg vs.toArray) (show 78≠68 by decide)).trans g10_68
 have g11_69:=(Za (v:=.agg vs.toArray) (show 78≠69 by decide)).trans g10_69
 have g11_70:=(Za (v:=.agg vs.toArray) (show 78≠70 by decide)).trans g10_70
 have g11_71:=(Za (v:=.agg vs.toArray) (show 78≠71 by decide)).trans g10_71
 have g11_72:=(Za (v:=.agg vs.toArray) (show 78≠72 by decide)).trans g10_72
 have g11_73:=(Za (v:=.agg vs.toArray) (show 78≠73 by decide)).trans g10_73
 have g11_74:=(Za (v:=.agg vs.toArray) (show 78≠74 by decide)).trans g10_74
 have g11_76:=(Za (v:=.agg vs.toArray) (show 78≠76 by decide)).trans g10_76
 have g11_77:=(Za (v:=.agg vs.toArray) (show 78≠77 by decide)).trans g10_77
 have g11_75:=(Za (v:=.agg vs.toArray) (show 78≠75 by decide)).trans g10_75
 generalize a10.put (some 78) (.agg vs.toArray)=a11 at *
 refine wpAnyH_take (i:=11) (oi:=DL 11) (v:=.pointer (some ⟨B,0+i*10,none⟩)) (by kernel_rfl) (by kernel_rfl) (by kernel_rfl) (by kernel_rfl) (fun _ _ _ h=>nomatch h.1) ((ZP B 0 (i*10))▸TG (t:=26) (x:=69) (y:=70) (sz:=10) (by kernel_rfl) (by kernel_rfl) (by kernel_rfl) g11_69 g11_70 hin) hS2 ?_
 rw[show(DL 11).dst=some 79 from by kernel_rfl]
 have s12:=s11.put (d:=79) (by decide) (.pointer (some ⟨B,0+i*10,none⟩))
 have g12_79:(a11.put (some 79) (.pointer (some ⟨B,0+i*10,none⟩))).eval (.tmp 79) = .pointer (some ⟨B,0+i*10,none⟩):=Zj (by rw[s11.size,hts];decide)
 have g12_3:=(Za (v:=.pointer (some ⟨B,0+i*10,none⟩)) (show 79≠3 by decide)).trans g11_3
 have g12_10:=(Za (v:=.pointer (some ⟨B,0+i*10,none⟩)) (show 79≠10 by decide)).trans g11_10
 have g12_9:=(Za (v:=.pointer (some ⟨B,0+i*10,none⟩)) (show 79≠9 by decide)).trans g11_9
 have g12_2:=(Za (v:=.pointer (some ⟨B,0+i*10,none⟩)) (show 79≠2 by decide)).trans g11_2
 have g12_68:=(Za (v:=.pointer (some ⟨B,0+i*10,none⟩)) (show 79≠68 by decide)).trans g11_68
 have g12_69:=(Za (v:=.pointer (some ⟨B,0+i*10,none⟩)) (show 79≠69 by decide)).trans g11_69
 have g12_70:=(Za (v:=.pointer (some ⟨B,0+i*10,none⟩)) (show 79≠70 by decide)).trans g11_70
 have g12_71:=(Za (v:=.pointer (some ⟨B,0+i*10,none⟩)) (show 79≠71 by decide)).trans g11_71
 have g12_72:=(Za (v:=.pointer (some ⟨B,0+i*10,none⟩)) (show 79≠72 by decide)).trans g11_72
 have g12_73:=(Za (v:=.pointer (some ⟨B,0+i*10,none⟩)) (show 79≠73 by decide)).trans g11_73
 have g12_74:=(Za (v:=.pointer (some ⟨B,0+i*10,none⟩)) (show 79≠74 by decide)).trans g11_74
 have g12_76:=(Za (v:=.pointer (some ⟨B,0+i*10,none⟩)) (show 79≠76 by decide)).trans g11_76
 have g12_77:=(Za (v:=.pointer (some ⟨B,0+i*10,none⟩)) (show 79≠77 by decide)).trans g11_77
 have g12_75:=(Za (v:=.pointer (some ⟨B,0+i*10,none⟩)) (show 79≠75 by decide)).trans g11_75
 have g12_78:=(Za (v:=.pointer (some ⟨B,0+i*10,none⟩)) (show 79≠78 by decide)).trans g11_78
 generalize a11.put (some 79) (.pointer (some ⟨B,0+i*10,none⟩))=a12 at *
 refine wpAnyH_all (rs:=[12]) (by kernel_rfl) (by simp) (fun j hj=> ?_)
 obtain rfl:j=12:=by simpa using hj
 refine Au (o:=DL 12) (t:=28) (x:=79) (y:=78) (by kernel_rfl) (by kernel_rfl) (by kernel_rfl) g12_79 g12_78 (Nj (sz:=10) (by kernel_rfl) hvl (hB2.trans hB) (by rw[Nat.zero_add];have:=Nat.mul_le_mul_right 10 (show i+1<=n from hin);omega) hv1) ⟨?_,?_⟩
 ·rw[<- hS2];simp only[World.cell?,setRow_other _ B Bt _ hne]
 ·rw[show(DL 12).dst=none from by kernel_rfl]
  refine wpAnyH_done (by kernel_rfl) ⟨rfl,?_⟩ _
  rw[Nat.zero_add]
  exact hK _ s12
end Go.Proofs.YtgdebdgkofkeeaaGreatDoor
namespace Go.Proofs.YtgdebdgkofkeeaaGreatDoor
open Go.RowKit Go.Lib Go.Pl
theorem c7p:(Tryz.prog.info? 89).map (fun i=>(i.zero,i.size,i.bytes))=some (some (.agg #[.string ByteArray.empty,.int .i64 0]),2,24):=by kernel_rfl
theorem NF:Tryz.prog.underlying 60=some (.slice 89):=by kernel_rfl
theorem ES(n c:Nat)(w:World):Calls Tryz.prog 95 #[.slice none n c] w fun e w'=>e = .returned (.slice none 0 0)∧w'=w:=by
 have q22 : ∀ (w:World) (a:Option Addr) (n c n' c':Nat),(binOp .eql 60 (.slice a n c) (.slice none n' c')).run Tryz.prog w = .ok (.bool a.isNone) w:=fun w a n c n' c'=>Lib.run_eql_slice_nil w _ _ a n c n' c' NF
 go_enter Tryz.func95,Tryz.ntmps95
 go_wp2
 go_ret
 exact⟨rfl,rfl⟩
theorem NT(a:Addr)(c:Nat)(w:World):Calls Tryz.prog 95 #[.slice (some a) 0 c] w fun e w'=>(∃ g,e = .returned (.slice (some g) 0 0))∧Below w.heap.size w w':=by
 have q22 : ∀ (w:World) (a:Option Addr) (n c n' c':Nat),(binOp .eql 60 (.slice a n c) (.slice none n' c')).run Tryz.prog w = .ok (.bool a.isNone) w:=fun w a n c n' c'=>Lib.run_eql_slice_nil w _ _ a n c n' c' NF
 obtain⟨i0,hi,hz0,hz1,hz2⟩:=info_parts c7p
 go_enter Tryz.func95,Tryz.ntmps95
 go_wp2_with (at_builtin;refine Lib.wpList_append_run _ rfl _ _ _ _ rfl _ _ rfl rfl _ _ (Yr NF hi (Nat.le_refl _)) ?_)
 go_ret
 exact⟨⟨_,rfl⟩,(Below.refl _ w).alloc (Nat.le_refl _) _⟩
theorem NS(a:Addr)(n c:Nat)(news:List Value)(w:World)(h0:0<n)(hn:n<=2000000)(hl:news.length=n*2)(hc : ∀ j u,news[j]? = some u->w.cell? (a.add j)=some u)(h1 : ∀ u∈news,u.oneCell'=true):
  Calls Tryz.prog 95 #[.slice (some a) n c] w fun e w'=> ∃ v',e = .returned v'∧w'.ownsRow w.heap.size 89 2 v' n news∧Below w.heap.size w w':=by
 have q22 : ∀ (w:World) (a:Option Addr) (n c n' c':Nat),(binOp .eql 60 (.slice a n c) (.slice none n' c')).run Tryz.prog w = .ok (.bool a.isNone) w:=fun w a n c n' c'=>Lib.run_eql_slice_nil w _ _ a n c n' c' NF
 obtain⟨i0,hi,hz0,hz1,hz2⟩:=info_parts c7p
 have A:Aside (∀ j u,news[j]? = some u->w.cell? (a.add j)=some u):=hc
 clear hc
 go_enter Tryz.func95,Tryz.ntmps95
 go_wp2_with (at_builtin;refine wpList_append_own _ rfl _ _ 60 rfl w.heap.size 89 i0 (.agg #[.string ByteArray.empty,.int .i64 0]) 2 24 NF hi hz0 hz1 hz2 rfl (by decide) _ _ _ rfl (World.ownsRow_made w #[] 0 (Nat.le_refl _) (Nat.zero_le _) rfl) a n c news rfl ?qc1 ?qc2 ?qc3 ?qc4 ?qc5 ?qc6 ?_)
 case qc1=>exact hl
 case qc2=>intro j u hj;exact Lib.cell?_alloc_some _ (A.out j u hj)
 case qc3=>exact h1
 case qc4=>unfold maxLen;omega
 case qc5=>omega
 case qc6=>simp
 intro v' w1 hown hgrow hnil
 go_wp2
 go_ret
 refine⟨v',rfl,by simpa using hown,?_⟩
 exact((Below.refl _ w).alloc (Nat.le_refl _) _).grown hgrow (by simp) (by intro k hk;simp[Value.ownBlock]at hk;omega)
theorem d1l:CloneC Tryz.prog 95 89 2:=⟨ES,NT,NS⟩
theorem c6l:(Tryz.prog.info? 62).map (fun i=>(i.zero,i.size,i.bytes))=some (some (.agg #[.int .i64 0,.slice none 0 0]),2,32):=by kernel_rfl
theorem MH:Tryz.prog.underlying 25=some (.slice 62):=by kernel_rfl
theorem O3(n c:Nat)(w:World):Calls Tryz.prog 94 #[.slice none n c] w fun e w'=>e = .returned (.slice none 0 0)∧w'=w:=by
 have q22 : ∀ (w:World) (a:Option Addr) (n c n' c':Nat),(binOp .eql 25 (.slice a n c) (.slice none n' c')).run Tryz.prog w = .ok (.bool a.isNone) w:=fun w a n c n' c'=>Lib.run_eql_slice_nil w _ _ a n c n' c' MH
 go_enter Tryz.func94,Tryz.ntmps94
 go_wp2
 go_ret
 exact⟨rfl,rfl⟩
theorem LZ(a:Addr)(c:Nat)(w:World):Calls Tryz.prog 94 #[.slice (some a) 0 c] w fun e w'=>(∃ g,e = .returned (.slice (some g) 0 0))∧Below w.heap.size w w':=by
 have q22 : ∀ (w:World) (a:Option Addr) (n c n' c':Nat),(binOp .eql 25 (.slice a n c) (.slice none n' c')).run Tryz.prog w = .ok (.bool a.isNone) w:=fun w a n c n' c'=>Lib.run_eql_slice_nil w _ _ a n c n' c' MH
 obtain⟨i0,hi,hz0,hz1,hz2⟩:=info_parts c6l
 go_enter Tryz.func94,Tryz.ntmps94
 go_wp2_with (at_builtin;refine Lib.wpList_append_run _ rfl _ _ _ _ rfl _ _ rfl rfl _ _ (Yr MH hi (Nat.le_refl _)) ?_)
 go_ret
 exact⟨⟨_,rfl⟩,(Below.refl _ w).alloc (Nat.le_refl _) _⟩
theorem Fv(a:Addr)(n c:Nat)(news:List Value)(w:World)(h0:0<n)(hn:n<=2000000)(hl:news.length=n*2)(hc : ∀ j u,news[j]? = some u->w.cell? (a.add j)=some u)(h1 : ∀ u∈news,u.oneCell'=true):
  Calls Tryz.prog 94 #[.slice (some a) n c] w fun e w'=> ∃ v',e = .returned v'∧w'.ownsRow w.heap.size 62 2 v' n news∧Below w.heap.size w w':=by
 have q22 : ∀ (w:World) (a:Option Addr) (n c n' c':Nat),(binOp .eql 25 (.slice a n c) (.slice none n' c')).run Tryz.prog w = .ok (.bool a.isNone) w:=fun w a n c n' c'=>Lib.run_eql_slice_nil w _ _ a n c n' c' MH
 obtain⟨i0,hi,hz0,hz1,hz2⟩:=info_parts c6l
 have A:Aside (∀ j u,news[j]? = some u->w.cell? (a.add j)=some u):=hc
 clear hc
 go_enter Tryz.func94,Tryz.ntmps94
 go_wp2_with (at_builtin;refine wpList_append_own _ rfl _ _ 25 rfl w.heap.size 62 i0 (.agg #[.int .i64 0,.slice none 0 0]) 2 32 MH hi hz0 hz1 hz2 rfl (by decide) _ _ _ rfl (World.ownsRow_made w #[] 0 (Nat.le_refl _) (Nat.zero_le _) rfl) a n c news rfl ?qc1 ?qc2 ?qc3 ?qc4 ?qc5 ?qc6 ?_)
 case qc1=>exact hl
 case qc2=>intro j u hj;exact Lib.cell?_alloc_some _ (A.out j u hj)
 case qc3=>exact h1
 case qc4=>unfold maxLen;omega
 case qc5=>omega
 case qc6=>simp
 intro v' w1 hown hgrow hnil
 go_wp2
 go_ret
 refine⟨v',rfl,by simpa using hown,?_⟩
 exact((Below.refl _ w).alloc (Nat.le_refl _) _).grown hgrow (by simp) (by intro k hk;simp[Value.ownBlock]at hk;omega)
theorem b1m:CloneC Tryz.prog 94 62 2:=⟨O3,LZ,Fv⟩
theorem c7v:(Tryz.prog.info? 28).map (fun i=>(i.zero,i.size,i.bytes))=some (some (.agg #[.int .i64 0,.int .i64 0,.string ByteArray.empty,.int .i64 0,.string ByteArray.empty,.slice none 0 0,.slice none 0 0,.slice none 0 0,.slice none 0 0,.slice none 0 0]),10,176):=by kernel_rfl
theorem FD:Tryz.prog.underlying 26=some (.slice 28):=by kernel_rfl
theorem Oq(n c:Nat)(w:World):Calls Tryz.prog 96 #[.slice none n c] w fun e w'=>e = .returned (.slice none 0 0)∧w'=w:=by
 have q22 : ∀ (w:World) (a:Option Addr) (n c n' c':Nat),(binOp .eql 26 (.slice a n c) (.slice none n' c')).run Tryz.prog w = .ok (.bool a.isNone) w:=fun w a n c n' c'=>Lib.run_eql_slice_nil w _ _ a n c n' c' FD
 go_enter Tryz.func96,Tryz.ntmps96
 go_wp2
 go_ret
 exact⟨rfl,rfl⟩
theorem Nz(a:Addr)(c:Nat)(w:World):Calls Tryz.prog 96 #[.slice (some a) 0 c] w fun e w'=>(∃ g,e = .returned (.slice (some g) 0 0))∧Below w.heap.size w w':=by
 have q22 : ∀ (w:World) (a:Option Addr) (n c n' c':Nat),(binOp .eql 26 (.slice a n c) (.slice none n' c')).run Tryz.prog w = .ok (.bool a.isNone) w:=fun w a n c n' c'=>Lib.run_eql_slice_nil w _ _ a n c n' c' FD
 obtain⟨i0,hi,hz0,hz1,hz2⟩:=info_parts c7v
 go_enter Tryz.func96,Tryz.ntmps96
 go_wp2_with (at_builtin;refine Lib.wpList_append_run _ rfl _ _ _ _ rfl _ _ rfl rfl _ _ (Yr FD hi (Nat.le_refl _)) ?_)
 go_ret
 exact⟨⟨_,rfl⟩,(Below.refl _ w).alloc (Nat.le_refl _) _⟩
theorem NU(a:Addr)(n c:Nat)(news:List Value)(w:World)(h0:0<n)(hn:n<=2000000)(hl:news.length=n*10)(hc : ∀ j u,news[j]? = some u->w.cell? (a.add j)=some u)(h1 : ∀ u∈news,u.oneCell'=true):
  Calls Tryz.prog 96 #[.slice (some a) n c] w fun e w'=> ∃ v',e = .returned v'∧w'.ownsRow w.heap.size 28 10 v' n news∧Below w.heap.size w w':=by
 have q22 : ∀ (w:World) (a:Option Addr) (n c n' c':Nat),(binOp .eql 26 (.slice a n c) (.slice none n' c')).run Tryz.prog w = .ok (.bool a.isNone) w:=fun w a n c n' c'=>Lib.run_eql_slice_nil w _ _ a n c n' c' FD
 obtain⟨i0,hi,hz0,hz1,hz2⟩:=info_parts c7v
 have A:Aside (∀ j u,news[j]? = some u->w.cell? (a.add j)=some u):=hc
 clear hc
 go_enter Tryz.func96,Tryz.ntmps96
 go_wp2_with (at_builtin;refine wpList_append_own _ rfl _ _ 26 rfl w.heap.size 28 i0 (.agg #[.int .i64 0,.int .i64 0,.string ByteArray.empty,.int .i64 0,.string ByteArray.empty,.slice none 0 0,.slice none 0 0,.slice none 0 0,.slice none 0 0,.slice none 0 0]) 10 176 FD hi hz0 hz1 hz2 rfl (by decide) _ _ _ rfl (World.ownsRow_made w #[] 0 (Nat.le_refl _) (Nat.zero_le _) rfl) a n c news rfl ?qc1 ?qc2 ?qc3 ?qc4 ?qc5 ?qc6 ?_)
 case qc1=>exact hl
 case qc2=>intro j u hj;exact Lib.cell?_alloc_some _ (A.out j u hj)
 case qc3=>exact h1
 case qc4=>unfold maxLen;omega
 case qc5=>omega
 case qc6=>simp
 intro v' w1 hown hgrow hnil
 go_wp2
 go_ret
 refine⟨v',rfl,by simpa using hown,?_⟩
 exact((Below.refl _ w).alloc (Nat.le_refl _) _).grown hgrow (by simp) (by intro k hk;simp[Value.ownBlock]at hk;omega)
theorem b2f:CloneC Tryz.prog 96 28 10:=⟨Oq,Nz,NU⟩
end Go.Proofs.YtgdebdgkofkeeaaGreatDoor
namespace Go.Proofs.YtgdebdgkofkeeaaGreatDoor
open Go.RowKit Go.Pl
open Enc (enc dec is)
open EncL (encL decL isL)
set_option maxRecDepth 100000
def JW(Φ:Zv)(w:World)(t:Tm)(e:Ending)(w':World):Prop:=
 ∃ (vs:List Value) (Φ':Zv) (X:Nat->Prop) (u:Value),e = .returned (.agg vs.toArray)∧vs.length=10∧ZW vs∧X7 Φ' vs.toArray 0 t.n∧vs[9]? = some u∧OwnK Φ' w' X u t.kids∧Φ.le Φ'∧Ye Φ' w'∧Below w.heap.size w w' ∧
  (∀ b cs,Φ' b=some cs->Φ b=some cs∨w.heap.size<=b)∧ ∀ b,X b->w.heap.size<=b
structure CpW (W0:World) (Φ0:Zv) (n:Nd) (ks:List Tm) (Bt Br B c T Tr:Nat) (i:Nat) (Φ:Zv) (Xs:Nat->Nat->Prop) (us:Nat->Value) (ct cr cs:Array Value) (w:World):Prop where
 le:Φ0.le Φ
 phi:Ye Φ w
 dom : ∀ b cs,Φ b=some cs->Φ0 b=some cs∨W0.heap.size<=b
 below:Below W0.heap.size W0 w
 hBt:W0.heap.size<=Bt
 hBr:W0.heap.size<=Br
 hB:W0.heap.size<=B
 ne1:Bt≠Br
 ne2:Bt≠B
 ne3:Br≠B
 pBt:Φ Bt=none
 pBr:Φ Br=none
 pB:Φ B=none
 bt:w.heap[Bt]? = some (.cells ct T (0,0))
 cts:ct.size=10
 ct1:ZW ct.toList
 nd:X7 Φ ct 0 n
 kid:ct[9]? = some (.slice (some ⟨B,0,none⟩) ks.length c)
 br:w.heap[Br]? = some (.cells cr Tr (0,0))
 crs:cr.size=10
 row:w.heap[B]? = some (.cells cs 28 (0,0))
 css:cs.size=c*10
 len:ks.length<=c
 ones:ZW (cs.toList.take (ks.length*10))
 done : ∀ (j:Nat) k,j<i->ks[j]? = some k->X7 Φ cs (j*10) k.n∧cs[j*10+9]? = some (us j)∧OwnK Φ w (Xs j) (us j) k.kids∧ ∀ b,Xs j b->W0.heap.size<=b∧b≠Bt∧b≠Br∧b≠B
 apart : ∀ j j',j<i->j'<i->j≠j'-> ∀ b,Xs j b-> ¬ Xs j' b
 todo : ∀ (j:Nat) k,i<=j->ks[j]? = some k->Xy Φ ((cs.toList.drop (j*10)).take 10) (enc k:PV).cells
theorem Yi{w:World}{B:Nat}{o:Obj}(h:w.heap[B]? = some o):B<w.heap.size:=(Array.getElem?_eq_some_iff.1 h).1
theorem b3m{cs:List Value}{m i:Nat}(h:ZW (cs.take (m*10)))(hi:i<m):ZW ((cs.drop (i*10)).take 10):=by
 intro v hv
 refine h v ?_
 have e:(cs.drop (i*10)).take 10=((cs.take (m*10)).drop (i*10)).take 10:=by
  rw[List.drop_take,List.take_take]
  congr 1
  have:=Nat.mul_le_mul_right 10 (show i+1<=m from hi)
  omega
 rw[e]at hv
 exact List.mem_of_mem_drop (List.mem_of_mem_take hv)
theorem CpW.cell{W0:World}{Φ0:Zv}{n:Nd}{ks:List Tm}{Bt Br B c T Tr i:Nat}{Φ:Zv}{Xs:Nat->Nat->Prop}{us:Nat->Value}{ct cr cs:Array Value}{w:World}(h:CpW W0 Φ0 n ks Bt Br B c T Tr i Φ Xs us ct cr cs w){k:Tm}(hk:ks[i]? = some k){w1:World}(e:w1.heap=w.heap):
  RP Φ (.agg ((cs.toList.drop (i*10)).take 10).toArray) (enc k):=by
 have hi:i<ks.length:=(List.getElem?_eq_some_iff.1 hk).1
 have h1:=h.todo i k (Nat.le_refl _) hk
 obtain⟨kn,kk⟩:=k
 rw[ZE]at h1 ⊢
 refine .agg _ _ (by simpa [PV.cells]using h1.1) (fun v hv=>b3m h.ones hi v (by simpa using hv)) fun j v x hv hx=>h1.2 j v x (by simpa using hv) hx
theorem CpW.next{W0:World}{Φ0:Zv}{n:Nd}{ks:List Tm}{Bt Br B c T Tr i:Nat}{Φ:Zv}{Xs:Nat->Nat->Prop}{us:Nat->Value}{ct cr cs:Array Value}{w:World}(h:CpW W0 Φ0 n ks Bt Br B c T Tr i Φ Xs us ct cr cs w){k:Tm}(hk:ks[i]? = some k){w1 w2:World}(e:w1.heap=w.heap)
  (e1:w1.os=w.os) (e2:w1.tape=w.tape) (e3:w1.output=w.output) {vs:List Value} {Φ':Zv} {X:Nat->Prop} {u:Value} (hl:vs.length=10) (h1:ZW vs) (hn:X7 Φ' vs.toArray 0 k.n) (hu:vs[9]? = some u) (ho:OwnK Φ' w2 X u k.kids) (hle:Φ.le Φ') (hp:Ye Φ' w2)
  (hb:Below w1.heap.size w1 w2) (hd : ∀ b cs,Φ' b=some cs->Φ b=some cs∨w1.heap.size<=b) (hX : ∀ b,X b->w1.heap.size<=b) :
  CpW W0 Φ0 n ks Bt Br B c T Tr (i+1) Φ' (fun j=>if j=i then X else Xs j) (fun j=>if j=i then u else us j) ct cr (splice cs.toList (i*10) vs).toArray (w2.setRow B (splice cs.toList (i*10) vs).toArray):=by
 have hi:i<ks.length:=(List.getElem?_eq_some_iff.1 hk).1
 have hsz:w1.heap.size=w.heap.size:=by rw[e]
 have hmul:i*10+10<=cs.size:=by
  have:=Nat.mul_le_mul_right 10 (show i+1<=ks.length from hi)
  have:=Nat.mul_le_mul_right 10 h.len
  have:=h.css
  omega
 have hW:W0.heap.size<=w.heap.size:=h.below.size
 have up : ∀ b,b<w.heap.size->w2.heap[b]? = w.heap[b]? :=fun b hb'=>(hb.block b (by rw[hsz];exact hb')).trans (by rw[e])
 have nn : ∀ b,b<w.heap.size->Φ b=none->Φ' b=none:=fun b hb' hn=>by
  cases hq:Φ' b with
  | none=>rfl
  | some q=>
   rcases hd b q hq with h1|h1
   ·rw[hn]at h1;cases h1
   ·rw[hsz]at h1;omega
 have lBt:=Yi h.bt
 have lBr:=Yi h.br
 have lB:=Yi h.row
 have row2:w2.heap[B]? = some (.cells cs 28 (0,0)):=(up B lB).trans h.row
 have hsl:(splice cs.toList (i*10) vs).length=cs.size:=by rw[YU (by rw[hl];simpa using hmul)];simp
 have oth : ∀ b,b≠B->(w2.setRow B (splice cs.toList (i*10) vs).toArray).heap[b]? = w2.heap[b]? :=fun b hne=>setRow_other w2 B b _ hne
 have get : ∀ j,(splice cs.toList (i*10) vs).toArray[j]? = if j<i*10 then cs[j]? else if j<i*10+10 then vs[j - i*10]? else cs[j]? :=fun j=>by
  rw[List.getElem?_toArray,Xf (by rw[hl];simpa using hmul),hl]
  simp
 refine⟨h.le.trans hle,fun b q hq=> ?_,fun b q hq=> ?_,?_,h.hBt,h.hBr,h.hB,h.ne1,h.ne2,h.ne3,nn _ lBt h.pBt,nn _ lBr h.pBr,nn _ lB h.pB,(oth _ h.ne2).trans ((up _ lBt).trans h.bt),h.cts,h.ct1,h.nd.mono hle,h.kid,(oth _ h.ne3).trans ((up _ lBr).trans h.br),h.crs,
  setRow_heap w2 B cs _ _ _ row2,by simp only[List.size_toArray,hsl];exact h.css,h.len,?_,?_,?_,?_⟩
 ·obtain⟨T',fz,hh⟩:=hp b q hq
  have hne:b≠B:=fun e=>by rw[e,nn _ lB h.pB]at hq;cases hq
  exact⟨T',fz,(oth b hne).trans hh⟩
 ·rcases hd b q hq with h1|h1
  ·exact h.dom b q h1
  ·exact .inr (by omega)
 ·refine⟨?_,?_,?_,?_,fun b hb'=> ?_⟩
  ·rw[setRow_os];exact hb.os.trans (e1.trans h.below.os)
  ·rw[setRow_tape];exact hb.tape.trans (e2.trans h.below.tape)
  ·rw[setRow_output];exact hb.output.trans (e3.trans h.below.output)
  ·rw[setRow_size];have:=hb.size;omega
  ·have:=h.hB
   exact(oth b (by omega)).trans ((up b (by omega)).trans (h.below.block b hb'))
 ·intro v hv
  rw[DW (by rw[hl];have:=Nat.mul_le_mul_right 10 (show i+1<=ks.length from hi);omega) (by have:=Nat.mul_le_mul_right 10 h.len;have:=h.css;simp;omega)]at hv
  rcases BA hv with hv|hv
  ·exact h.ones v hv
  ·exact h1 v hv
 ·intro j x hj hx
  by_cases e:j=i
  ·subst e
   rw[hk]at hx
   cases hx
   simp only[if_pos]
   refine⟨fun q p hp'=> ?_,?_,?_,fun b hb'=> ?_⟩
   ·obtain⟨v,q1,q2,q3⟩:=hn q p hp'
    have hq:q<9:=(List.getElem?_eq_some_iff.1 hp').1
    refine⟨v,?_,q2,q3⟩
    rw[get,if_neg (by omega),if_pos (by omega),Nat.add_sub_cancel_left]
    rw[Nat.zero_add]at q1
    simpa using q1
   ·rw[get,if_neg (by omega),if_pos (by omega),Nat.add_sub_cancel_left]
    exact hu
   ·refine ho.mono (.refl _) (fun b hb'=>(ho.out b hb').2.1) fun b hb'=>oth b ?_
    have:=hX b hb'
    omega
   ·have:=hX b hb'
    omega
  ·have hj':j<i:=by omega
   obtain⟨q1,q2,q3,q4⟩:=h.done j x hj' hx
   have hmj:j*10+10<=i*10:=by have:=Nat.mul_le_mul_right 10 (show j+1<=i from hj');omega
   simp only[if_neg e]
   refine⟨fun q p hp'=> ?_,?_,q3.mono hle (fun b hb'=>nn b (q3.out b hb').1 (q3.out b hb').2.1) fun b hb'=>(oth b (q4 b hb').2.2.2).trans (up b (q3.out b hb').1),q4⟩
   ·obtain⟨v,r1,r2,r3⟩:=(q1.mono hle) q p hp'
    have hq:q<9:=(List.getElem?_eq_some_iff.1 hp').1
    exact⟨v,by rw[get,if_pos (by omega)];exact r1,r2,r3⟩
   ·rw[get,if_pos (by omega)]
    exact q2
 ·intro j j' hj hj' hne b hb' hb2
  by_cases e:j=i
  ·rw[if_pos e]at hb'
   rw[if_neg (fun e'=>hne (e.trans e'.symm))]at hb2
   have hj2:j'<i:=by omega
   have hj3:j'<ks.length:=by omega
   have:=((h.done j' _ hj2 (List.getElem?_eq_getElem hj3)).2.2.1.out b hb2).1
   have:=hX b hb'
   omega
  ·rw[if_neg e]at hb'
   by_cases e':j'=i
   ·rw[if_pos e']at hb2
    have hj2:j<i:=by omega
    have hj3:j<ks.length:=by omega
    have:=((h.done j _ hj2 (List.getElem?_eq_getElem hj3)).2.2.1.out b hb').1
    have:=hX b hb2
    omega
   ·rw[if_neg e']at hb2
    exact h.apart j j' (by omega) (by omega) hne b hb' hb2
 ·intro j x hj hx
  have hjl:j<ks.length:=(List.getElem?_eq_some_iff.1 hx).1
  have hmj:i*10+10<=j*10:=by have:=Nat.mul_le_mul_right 10 (show i+1<=j from hj);omega
  have e:((splice cs.toList (i*10) vs).toArray.toList.drop (j*10)).take 10=(cs.toList.drop (j*10)).take 10:=by
   apply List.ext_getElem?
   intro q
   rw[List.getElem?_take,List.getElem?_take]
   split
   ·rw[List.getElem?_drop,List.getElem?_drop,Array.getElem?_toList,Array.getElem?_toList,get,if_neg (by omega),if_neg (by omega)]
   ·rfl
  rw[e]
  exact(h.todo j x (by omega) hx).mono hle
noncomputable def cpB:Code:=Tryz.f71.body.getD .skip
noncomputable def cO(i:Nat):Array Oper:=Q6 cpB i
noncomputable def cX(i k:Nat):Oper:=(cO i).getD k default
def c7l:Code->Bool
 | .seq (.seq (.region 10 _ _) _) _=>true
 | _=>false
noncomputable def OE:Code:=(Code.region 11 (cO 11) false).seq ((Code.cond (.tmp 53) .skip (.exit 2)).seq ((Code.block 3 ((Code.region 12 (cO 12) false).seq (Code.region 13 cpO true))).seq (Code.region 14 (cO 14) false)))
noncomputable def Gu:Code:=((Code.region 10 (cO 10) false).seq (.block 2 (.loop OE))).seq ((Code.region 15 (cO 15) false).seq .ret)
theorem c2m:WR Tryz.prog c7l Tryz.f71 0=some Gu:=by kernel_rfl
abbrev cpN(Φ0:Zv)(W0:World)(t:Tm):Act->World->Prop:=bodyPost Tryz.prog Tryz.f71 (JW Φ0 W0 t) .ret
theorem a1b{a:Act}{w:World}{Bt Br T Tr:Nat}{ct cr:Array Value}(h1:a.eval (.tmp 1) = .pointer (some ⟨Bt,0,none⟩))(h2:a.eval (.tmp 2) = .pointer (some ⟨Br,0,none⟩))(hs:a.tmps.size=67)(hd:a.defers=[])(hb:w.heap[Bt]? = some (.cells ct T (0,0)))
  (hr:w.heap[Br]? = some (.cells cr Tr (0,0))) (hct:ct.size=10) (hcr:cr.size=10) (ho:ZW ct.toList) {R:Ending->World->Prop} (hR:R (.returned (.agg ct)) (w.setRow Br ct)) :
  ((Code.region 15 (cO 15) false).seq .ret).wp Tryz.prog (fun e a w=>e = .ret∧bodyPost Tryz.prog Tryz.f71 R .ret a w) a w:=by
 refine wp_seq (b3d (o:=cX 15 0) (o1:=cX 15 1) (t:=28) (x:=1) (y:=2) (d:=66) (by kernel_rfl) (by kernel_rfl) (by kernel_rfl) (by kernel_rfl) (by kernel_rfl) (by kernel_rfl) (by kernel_rfl) (by kernel_rfl) h1 h2 (by decide) hb hr hct hcr ho (by omega) (wp_ret ⟨rfl,hd,_,?_,hR⟩))
 refine Ai (b:=2) (t:=28) (Br:=Br) (sz:=10) (T:=Tr) (z:=(0,0)) (by kernel_rfl) ?_ (by kernel_rfl) (setRow_heap w Br cr ct Tr (0,0) hr) hct
 exact(Za (a:=a) (d:=66) (t:=2) (by decide)).trans h2
theorem c2e{Φ0:Zv}{W0:World}{n:Nd}{ks:List Tm}{Bt Br B c T Tr:Nat}{Φ:Zv}{Xs:Nat->Nat->Prop}{us:Nat->Value}{ct cr cs:Array Value}{a:Act}{w:World}(hne:ks≠[])(hlen:ks.length<=1048576)(hL:GlobOK Φ0)
  (ih : ∀ k∈ks,∀ (Φ:Zv) (w:World) (v:Value),GlobOK Φ->Ye Φ w->RP Φ v (enc k)->Calls Tryz.prog 71 #[v] w (JW Φ w k)) (h:CpW W0 Φ0 n ks Bt Br B c T Tr 0 Φ Xs us ct cr cs w)
  (h1:a.eval (.tmp 1) = .pointer (some ⟨Bt,0,none⟩)) (h2:a.eval (.tmp 2) = .pointer (some ⟨Br,0,none⟩)) (hs:a.tmps.size=67) (hd:a.defers=[]):Gu.wp Tryz.prog (fun e a w=>e = .ret∧cpN Φ0 W0 (.mk n ks) a w) a w:=by
 unfold Gu
 refine wp_seq (wp_seq (a1g (p:=some ⟨B,0,none⟩) (n:=ks.length) (c:=c) (o:=cX 10 0) (o1:=cX 10 1) (o2:=cX 10 2) (o3:=cX 10 3) (s:=28) (t:=26) (b:=1) (f:=7) (off:=9) (d1:=49) (d2:=50) (d3:=51) (d4:=52) (by kernel_rfl) (by kernel_rfl) (by kernel_rfl) (by kernel_rfl) (by kernel_rfl) (by kernel_rfl) (by kernel_rfl) (by kernel_rfl) (by kernel_rfl)
  (by kernel_rfl) (by kernel_rfl) (by kernel_rfl) (by kernel_rfl) (by kernel_rfl) (by kernel_rfl) (by kernel_rfl) h1 (by simp[World.cell?,h.bt,h.kid]) (by omega) (by omega) ?_))
 generalize ha1:(((a.put (some 49) (.pointer (some ⟨Bt,9,none⟩))).put (some 50) (.slice (some ⟨B,0,none⟩) ks.length c)).put (some 51) (.int .i64 (ks.length:Int))).put (some 52) (.int .i64 0)=a1
 have e1:a1.eval (.tmp 1) = .pointer (some ⟨Bt,0,none⟩):=by rw[<- ha1,Za (by decide),Za (by decide),Za (by decide),Za (by decide)];exact h1
 have e2:a1.eval (.tmp 2) = .pointer (some ⟨Br,0,none⟩):=by rw[<- ha1,Za (by decide),Za (by decide),Za (by decide),Za (by decide)];exact h2
 have e51:a1.eval (.tmp 51) = .int .i64 (ks.length:Int):=by rw[<- ha1,Za (by decide)];exact Zj (by simp[Act.put];omega)
 have e52:a1.eval (.tmp 52) = .int .i64 ((0:Nat):Int):=by rw[<- ha1];exact Zj (by simp[Act.put];omega)
 have es:a1.tmps.size=67:=by rw[<- ha1];simp[Act.put];omega
 have ed:a1.defers=[]:=by rw[<- ha1];exact hd
 clear ha1 h1 h2 hs hd
 refine wp_block (wp_loop_ghost (fun(z:Nat) (a:Act) (w:World)=> ∃ (i:Nat) (Φ:Zv) (Xs:Nat->Nat->Prop) (us:Nat->Value) (cs:Array Value),z=ks.length - i∧i<=ks.length∧CpW W0 Φ0 n ks Bt Br B c T Tr i Φ Xs us ct cr cs w∧a.eval (.tmp 1) = .pointer (some ⟨Bt,0,none⟩)∧a.eval (.tmp 2) = .pointer (some ⟨Br,0,none⟩) ∧
  a.eval (.tmp 51) = .int .i64 (ks.length:Int)∧a.eval (.tmp 52) = .int .i64 (i:Int)∧a.tmps.size=67∧a.defers=[]) _ ⟨0,Φ,Xs,us,cs,rfl,Nat.zero_le _,h,e1,e2,e51,e52,es,ed⟩ ?_)
 clear h e1 e2 e51 e52 es ed Xs us cs a1 a w
 rintro z a w ⟨i,Φi,Xs,us,cs,rfl,hi,h,e1,e2,e51,e52,es,ed⟩
 unfold OE
 refine wp_seq (a0r (o:=cX 11 0) (op:=.lss) (t:=3) (t':=3) (d:=53) (x:=.tmp 52) (y:=.tmp 51) (b:=decide ((i:Int)<(ks.length:Int))) (by kernel_rfl) (by kernel_rfl) (by kernel_rfl) (by kernel_rfl) e52 e51 (.inl ⟨rfl,rfl⟩) ?_)
 have s1:SameT [53] a (a.put (some 53) (.bool (decide ((i:Int)<(ks.length:Int))))):=(SameT.refl _ _).put (by simp) _
 have e53:(a.put (some 53) (.bool (decide ((i:Int)<(ks.length:Int))))).eval (.tmp 53) = .bool (decide ((i:Int)<(ks.length:Int))):=Zj (by omega)
 generalize a.put (some 53) (.bool (decide ((i:Int)<(ks.length:Int))))=a1 at s1 e53 ⊢
 by_cases hlt:i<ks.length
 ·have hb:decide ((i:Int)<(ks.length:Int))=true:=by simpa using hlt
  rw[hb]at e53
  refine wp_seq (wp_cond (t:=true) e53 (wp_skip ?_))
  refine wp_seq (wp_block (wp_seq (c7n (o:=cX 12 0) (o1:=cX 12 1) (d:=54) (e:=4) (x:=52) (by kernel_rfl) (by kernel_rfl) (by kernel_rfl) (by kernel_rfl) (by kernel_rfl) (by kernel_rfl) (by kernel_rfl) ((s1.eval (by decide)).trans e52) (by rw[s1.size];omega) ?_)))
  generalize ha2:(a1.put (some 54) (.int .i64 (i:Int))).put (some 4) (.int .i64 (i:Int))=a2
  have s2:SameT [53,54,4] a a2:=by
   have s1':SameT [53,54,4] a a1:=⟨s1.size,s1.defers,fun t ht=>s1.tmp t (by simp at ht ⊢;omega)⟩
   rw[<- ha2]
   exact(s1'.put (by simp) _).put (by simp) _
  have f4:a2.eval (.tmp 4) = .int .i64 (i:Int):=by rw[<- ha2];exact Zj (by simp[Act.put,s1.size];omega)
  obtain⟨k,hk⟩ : ∃ k,ks[i]? = some k:=⟨_,List.getElem?_eq_getElem hlt⟩
  have hmem:k∈ks:=List.mem_of_getElem? hk
  have hcs:ks.length*10<=cs.size:=by rw[h.css];exact Nat.mul_le_mul_right 10 h.len
  refine wp_mono (cpR (a:=a2) (w:=w) (K:=fun a' w'=>SameT [55,56,57,58,59,60,61,62,63,64] a2 a'∧ ∃ Φ' Xs' us' cs',CpW W0 Φ0 n ks Bt Br B c T Tr (i+1) Φ' Xs' us' ct cr cs' w') h.bt h.kid h.row h.ne2 hlt hcs ((s2.eval (by decide)).trans e1) f4 (by rw[s2.size];exact es)
   (ih k hmem Φi {w with drawn:=w.drawn+1} _ (hL.mono h.le) h.phi (h.cell hk rfl)) ?_) ?_
  ·rintro e w' ⟨vs,Φ',X,u,rfl,q1,q2,q3,q4,q5,q6,q7,q8,q9,q10⟩
   refine⟨vs,rfl,q1,q2,q8.block Bt (Yi h.bt),q8.block B (Yi h.row),fun a' hs'=>⟨hs',_,_,_,_,h.next hk (w1:={w with drawn:=w.drawn+1}) rfl rfl rfl rfl q1 q2 q3 q4 q5 q6 q7 q8 q9 q10⟩⟩
  ·rintro e a3 w3 ⟨rfl,s3,Φ',Xs',us',cs',h'⟩
   have g52:a3.eval (.tmp 52) = .int .i64 (i:Int):=(s3.eval (by decide)).trans ((s2.eval (by decide)).trans e52)
   have es3:a3.tmps.size=67:=by rw[s3.size,s2.size,es]
   refine c6f (o:=cX 14 0) (o1:=cX 14 1) (t:=3) (t':=3) (d:=65) (x:=52) (by kernel_rfl) (by kernel_rfl) (by kernel_rfl) (by kernel_rfl) (by kernel_rfl) (by kernel_rfl) (by kernel_rfl) g52 (by omega) ?_
   rw[next (show i<9223372036854775807 by omega)]
   refine⟨ks.length - (i+1),by omega,i+1,Φ',Xs',us',cs',rfl,hlt,h',?_,?_,?_,?_,by simp[Act.put];omega,by show a3.defers=[];rw[s3.defers,s2.defers,ed]⟩
   ·rw[Za (by decide),Za (by decide)];exact(s3.eval (by decide)).trans ((s2.eval (by decide)).trans e1)
   ·rw[Za (by decide),Za (by decide)];exact(s3.eval (by decide)).trans ((s2.eval (by decide)).trans e2)
   ·rw[Za (by decide),Za (by decide)];exact(s3.eval (by decide)).trans ((s2.eval (by decide)).trans e51)
   ·exact Zj (by simp[Act.put];omega)
 ·have hb:decide ((i:Int)<(ks.length:Int))=false:=by simpa using hlt
  rw[hb]at e53
  refine wp_seq (wp_cond (t:=false) e53 (wp_exit ?_))
  have hii:i=ks.length:=by omega
  subst hii
  have g1:=(s1.eval (t:=1) (by decide)).trans e1
  have g2:=(s1.eval (t:=2) (by decide)).trans e2
  refine a1b g1 g2 (by rw[s1.size];exact es) (by rw[s1.defers];exact ed) h.bt h.br h.cts h.crs h.ct1 ?_
  have oth : ∀ b,b≠Br->(w.setRow Br ct).heap[b]? = w.heap[b]? :=fun b hne'=>setRow_other w Br b _ hne'
  refine⟨ct.toList,Φi,fun b=>b=B ∨ ∃ j,j<ks.length∧Xs j b,.slice (some ⟨B,0,none⟩) ks.length c,by simp,by simpa using h.cts,h.ct1,by simpa using h.nd,by simpa using h.kid,?_,h.le,?_,?_,h.dom,?_⟩
  ·refine .row _ B c cs ks Xs us ⟨hne,(oth B (Ne.symm h.ne3)).trans h.row,h.css,h.len,h.pB,fun b=>.rfl,fun j k hk=>(h.done j k (List.getElem?_eq_some_iff.1 hk).1 hk).1,fun j hj=> ?_,h.apart,fun j hj hb'=>((h.done j _ hj (List.getElem?_eq_getElem hj)).2.2.2 B hb').2.2.2 rfl⟩ fun j k hk=> ?_
   ·obtain⟨q1,q2,q3,q4⟩:=h.done j _ hj (List.getElem?_eq_getElem hj)
    exact⟨q2,q3.one⟩
   ·obtain⟨q1,q2,q3,q4⟩:=h.done j k (List.getElem?_eq_some_iff.1 hk).1 hk
    exact q3.mono (.refl _) (fun b hb'=>(q3.out b hb').2.1) fun b hb'=>oth b (q4 b hb').2.2.1
  ·intro b q hq
   obtain⟨T',fz,hh⟩:=h.phi b q hq
   have hneb:b≠Br:=fun e=>by rw[e,h.pBr]at hq;cases hq
   exact⟨T',fz,(oth b hneb).trans hh⟩
  ·refine⟨?_,?_,?_,?_,fun b hb'=> ?_⟩
   ·rw[setRow_os];exact h.below.os
   ·rw[setRow_tape];exact h.below.tape
   ·rw[setRow_output];exact h.below.output
   ·rw[setRow_size];exact h.below.size
   ·have:=h.hBr
    exact(oth b (by omega)).trans (h.below.block b hb')
  ·rintro b (rfl|⟨j,hj,hb'⟩)
   ·exact h.hB
   ·exact((h.done j _ hj (List.getElem?_eq_getElem hj)).2.2.2 b hb').1
theorem DV{Φ0 Φ:Zv}{W0 w:World}{μ:Mu}{σ:Zu}(h:Go.Pl.Good (ZU (fun _ _=>none) Φ0 [] W0) μ Φ σ w):Below W0.heap.size W0 w∧(∀ b cs,Φ b=some cs->Φ0 b=some cs∨W0.heap.size<=b)∧ ∀ l o,σ[l]? = some (.obj o)->W0.heap.size<=blk μ l o:=by
 refine⟨⟨h.os,h.tape,h.output,h.size,fun b hb=>h.frame b hb (by rintro⟨l,o,ho,_⟩;simp at ho)⟩,fun b cs hc=> ?_,fun l o ho=> ?_⟩
 ·rcases h.dom b cs hc with h1|h1|h1
  ·exact .inl h1
  ·exact .inr h1
  ·obtain⟨l,o,ho,_⟩:=h1;simp at ho
 ·rcases h.own l o ho with h1|h1
  ·exact h1
  ·obtain⟨l,o,ho,_⟩:=h1;simp at ho
theorem b9i{σ:Zu}{l n ty sz:Nat}{xs:List PV}(h:σ[l]? = some (.obj (.row false ty sz xs)))(hn:xs.length=n):(frz (.row l n 0 n)).run σ=some (.sl sz false xs,σ.set l (.obj (.row true ty sz xs))):=by
 subst hn
 simp[frz,HM.run,h]
theorem RL.getAt{μ:Mu}{Φ:Zv}{cs:List Value}{xs:List AV}(h:RL μ Φ cs xs){j:Nat}{x:AV}(hx:xs[j]? = some x): ∃ v,cs[j]? = some v∧R μ Φ v x:=h.at_ hx
theorem b1z{Φ0:Zv}{W0:World}{n:Nd}{ks:List Tm}{st:St}{a:Act}{w:World}(hR:Go.Pl.cpR n ks 0 st)(hr:XI (ZU (fun _ _=>none) Φ0 [] W0) st a w):
  ∃ (Bt Br T Tr:Nat) (Φ:Zv) (ct cr:Array Value),Φ0.le Φ∧Ye Φ w∧(∀ b cs,Φ b=some cs->Φ0 b=some cs∨W0.heap.size<=b)∧Below W0.heap.size W0 w∧W0.heap.size<=Bt∧W0.heap.size<=Br∧Bt≠Br∧Φ Bt=none∧Φ Br=none∧w.heap[Bt]? = some (.cells ct T (0,0))∧ct.size=10∧ZW ct.toList∧X7 Φ ct 0 n ∧
   w.heap[Br]? = some (.cells cr Tr (0,0))∧cr.size=10∧a.eval (.tmp 1) = .pointer (some ⟨Bt,0,none⟩)∧a.eval (.tmp 2) = .pointer (some ⟨Br,0,none⟩)∧a.tmps.size=67∧a.defers=[] ∧
   ((ks=[]∧ ∃ p c,ct[9]? = some (.slice p 0 c))∨(ks≠[]∧ ∃ B c cs,ct[9]? = some (.slice (some ⟨B,0,none⟩) ks.length c)∧W0.heap.size<=B∧Bt≠B∧Br≠B∧Φ B=none∧w.heap[B]? = some (.cells cs 28 (0,0))∧cs.size=c*10∧ks.length<=c∧ZW (cs.toList.take (ks.length*10)) ∧
    Xy Φ (cs.toList.take (ks.length*10)) (flat (ks.map enc)))):=by
 obtain⟨_,henv,SZ,KD,b,rest,hh,hS,hK⟩:=hR
 obtain⟨env,σ⟩:=st
 simp only at henv hh hS hK
 subst henv
 obtain⟨μ,Φ1,hg,he,hd⟩:=hr
 have h0:σ[0]? = some (.obj (.box (b6v n SZ++[KD]))):=by rw[hh];rfl
 have h1:σ[1]? = some (.obj (.box cpZ)):=by rw[hh];rfl
 obtain⟨Bt,C0,S0,T,ct,m0,b1,b2,b3,b4⟩:=hg.obj 0 _ h0
 obtain⟨v7,hv7,hr7⟩:=RL.getAt b2 (j:=7) (x:=SZ) rfl
 -- the list of sizes is plain data from here on
 obtain⟨Φ,σ',hle,hg',hsz,hkeep⟩ : ∃ Φ σ',Φ1.le Φ∧Go.Pl.Good (ZU (fun _ _=>none) Φ0 [] W0) μ Φ σ' w∧RP Φ v7 (enc n.sizes)∧(∀ l o,σ[l]? = some (.obj o)->(b=true->l≠2)->σ'[l]? = some (.obj o)):=by
  rcases hS with ⟨rfl,rfl⟩|⟨rfl,rfl,h2⟩
  ·exact⟨Φ1,σ,.refl _,hg,ZR hr7,fun l o h _=>h⟩
  ·obtain⟨Φ',f1,f2,f3⟩:=Dq _ (b9i h2 (List.length_map _)) hg hr7
   refine⟨Φ',_,f1,f2,f3,fun l o h hl=> ?_⟩
   rw[List.getElem?_set_ne (Ne.symm (hl rfl))]
   exact h
 have h0':=hkeep 0 _ h0 (fun _=>by decide)
 have h1':=hkeep 1 _ h1 (fun _=>by decide)
 obtain⟨Bt',C0',S0',T',ct',m0',c1,c2,c3,c4⟩:=hg'.obj 0 _ h0'
 rw[m0]at m0'
 cases m0'
 rw[b1]at c1
 cases c1
 obtain⟨Br,C1,S1,Tr,cr,m1,d1,d2,d3,d4⟩:=hg'.obj 1 _ h1'
 obtain⟨g1,g2,g3⟩:=DV hg'
 have k0:blk μ 0 (.box (b6v n SZ++[KD]))=Bt:=by simp[blk,m0]
 have k1:blk μ 1 (.box cpZ)=Br:=by simp[blk,m1]
 have hBt:W0.heap.size<=Bt:=by have:=g3 0 _ h0';rwa [k0]at this
 have hBr:W0.heap.size<=Br:=by have:=g3 1 _ h1';rwa [k1]at this
 have hne:Bt≠Br:=by have:=hg'.apart 0 1 _ _ (by decide) h0' h1';rwa [k0,k1]at this
 obtain⟨e67,eat⟩:=BZ he
 have t1:a.eval (.tmp 1) = .pointer (some ⟨Bt,0,none⟩):=by
  obtain⟨v,hv,hr⟩:=eat 1 (.ptr 0 0) (by decide) rfl
  cases hr with
  | ptr _ _ B C S h=>rw[m0]at h;cases h;simp[Act.eval,Array.getD_eq_getD_getElem?,hv]
 have t2:a.eval (.tmp 2) = .pointer (some ⟨Br,0,none⟩):=by
  obtain⟨v,hv,hr⟩:=eat 2 (.ptr 1 0) (by decide) rfl
  cases hr with
  | ptr _ _ B C S h=>rw[m1]at h;cases h;simp[Act.eval,Array.getD_eq_getD_getElem?,hv]
 have hcs:ct.size=10:=by have:=c2.1;simpa [b6v]using this
 have hrs:cr.size=10:=by have:=d2.1;simpa [cpZ]using this
 have hnd:X7 Φ ct 0 n:=by
  intro i p hp
  have hi:i<9:=(List.getElem?_eq_some_iff.1 hp).1
  by_cases e:i=7
  ·subst e
   obtain rfl:enc n.sizes=p:=by simpa [nd9]using hp
   refine⟨v7,by simpa using hv7,c3 v7 (List.mem_of_getElem? (by simpa using hv7)),hsz⟩
  ·have hx:(b6v n SZ++[KD])[i]? = some (.pv p):=by
    match i,hi,e,hp with
    | 0,_,_,hp|1,_,_,hp|2,_,_,hp|3,_,_,hp|4,_,_,hp|5,_,_,hp|6,_,_,hp|8,_,_,hp=>simp[nd9]at hp;subst hp;rfl
   obtain⟨v,hv,hr⟩:=RL.getAt c2 hx
   exact⟨v,by simpa using hv,c3 v (List.mem_of_getElem? hv),ZR hr⟩
 refine⟨Bt,Br,T,Tr,Φ,ct,cr,hg'.Φle,hg'.phi,g2,g1,hBt,hBr,hne,c4,d4,b1,hcs,c3,hnd,d1,hrs,t1,t2,e67,hd,?_⟩
 obtain⟨v9,hv9,hr9⟩:=RL.getAt c2 (j:=9) (x:=KD) rfl
 rcases hK with ⟨rfl,rfl⟩|⟨hk,rfl,h3⟩
 ·refine .inl ⟨rfl,?_⟩
  have hr9:=ZR hr9
  obtain⟨p,c,rfl⟩ : ∃ p c,v9 = .slice p 0 c:=by
   generalize hq:(enc ([]:List Tm):PV)=q at hr9
   cases hr9 with
   | sl0 a c=>exact⟨_,_,rfl⟩
   | sl b off cs c sz t xs=> 
    have:xs=[]:=by cases hq;rfl
    subst this;exact⟨_,_,rfl⟩
   | raw=>cases hq
   | _=>cases hq
  exact⟨p,c,by simpa using hv9⟩
 ·have h3':=hkeep _ _ h3 (fun hb=>by rw[hb];decide)
  obtain⟨B,C,cs,m3,m3n,r1,r2,r3,r4,r5,r6,r7,r8⟩:=hg'.obj _ _ h3'
  rw[List.length_map]at m3 r3 r6 r7
  have hl2:(2:Nat)<=(if b=true then 3 else 2):=by split <;> decide
  have k3:blk μ (if b=true then 3 else 2) (.row false 28 10 (ks.map enc))=B:=by simp only[blk,List.length_map,m3]
  have hB:W0.heap.size<=B:=by have:=g3 _ _ h3';rwa [k3]at this
  have n1:Bt≠B:=by have:=hg'.apart 0 _ _ _ (by omega) h0' h3';rwa [k0,k3]at this
  have n2:Br≠B:=by have:=hg'.apart 1 _ _ _ (by omega) h1' h3';rwa [k1,k3]at this
  refine .inr ⟨hk,B,C,cs,?_,hB,n1,n2,r8,r1.other (by decide),r2,r3,r7,r6⟩
  cases hr9 with
  | row _ _ _ _ B' C' S' q h h1 h2 h3 ha=>
   rw[m3]at h
   cases h
   have:=ha (.inr rfl)
   subst this
   simpa using hv9
theorem c4y{Φ Φ0:Zv}{W0:World}{n:Nd}{Bt Br T Tr c:Nat}{p:Option Addr}{ct cr:Array Value}{a:Act}{w:World}(hle:Φ0.le Φ)(hp:Ye Φ w)(hdm : ∀ b cs,Φ b=some cs->Φ0 b=some cs∨W0.heap.size<=b)(hb:Below W0.heap.size W0 w)(hBr:W0.heap.size<=Br)(pBr:Φ Br=none)
  (bt:w.heap[Bt]? = some (.cells ct T (0,0))) (cts:ct.size=10) (ct1:ZW ct.toList) (nd:X7 Φ ct 0 n) (br:w.heap[Br]? = some (.cells cr Tr (0,0))) (crs:cr.size=10) (kid:ct[9]? = some (.slice p 0 c))
  (h1:a.eval (.tmp 1) = .pointer (some ⟨Bt,0,none⟩)) (h2:a.eval (.tmp 2) = .pointer (some ⟨Br,0,none⟩)) (hs:a.tmps.size=67) (hd:a.defers=[]):Gu.wp Tryz.prog (fun e a w=>e = .ret∧cpN Φ0 W0 (.mk n []) a w) a w:=by
 unfold Gu
 refine wp_seq (wp_seq (a1g (p:=p) (n:=0) (c:=c) (o:=cX 10 0) (o1:=cX 10 1) (o2:=cX 10 2) (o3:=cX 10 3) (s:=28) (t:=26) (b:=1) (f:=7) (off:=9) (d1:=49) (d2:=50) (d3:=51) (d4:=52) (by kernel_rfl) (by kernel_rfl) (by kernel_rfl) (by kernel_rfl) (by kernel_rfl) (by kernel_rfl) (by kernel_rfl) (by kernel_rfl) (by kernel_rfl)
  (by kernel_rfl) (by kernel_rfl) (by kernel_rfl) (by kernel_rfl) (by kernel_rfl) (by kernel_rfl) (by kernel_rfl) h1 (by simp[World.cell?,bt,kid]) (by omega) (by omega) ?_))
 generalize ha1:(((a.put (some 49) (.pointer (some ⟨Bt,9,none⟩))).put (some 50) (.slice p 0 c)).put (some 51) (.int .i64 ((0:Nat):Int))).put (some 52) (.int .i64 0)=a1
 have e1:a1.eval (.tmp 1) = .pointer (some ⟨Bt,0,none⟩):=by rw[<- ha1,Za (by decide),Za (by decide),Za (by decide),Za (by decide)];exact h1
 have e2:a1.eval (.tmp 2) = .pointer (some ⟨Br,0,none⟩):=by rw[<- ha1,Za (by decide),Za (by decide),Za (by decide),Za (by decide)];exact h2
 have e51:a1.eval (.tmp 51) = .int .i64 ((0:Nat):Int):=by rw[<- ha1,Za (by decide)];exact Zj (by simp[Act.put];omega)
 have e52:a1.eval (.tmp 52) = .int .i64 ((0:Nat):Int):=by rw[<- ha1];exact Zj (by simp[Act.put];omega)
 have es:a1.tmps.size=67:=by rw[<- ha1];simp[Act.put];omega
 have ed:a1.defers=[]:=by rw[<- ha1];exact hd
 refine wp_block (wp_loop_ghost (fun(z:Nat) (a:Act) (w':World)=>a1=a∧w=w') 0 ⟨rfl,rfl⟩ ?_)
 rintro z _ _ ⟨rfl,rfl⟩
 unfold OE
 refine wp_seq (a0r (o:=cX 11 0) (op:=.lss) (t:=3) (t':=3) (d:=53) (x:=.tmp 52) (y:=.tmp 51) (b:=decide (((0:Nat):Int)<((0:Nat):Int))) (by kernel_rfl) (by kernel_rfl) (by kernel_rfl) (by kernel_rfl) e52 e51 (.inl ⟨rfl,rfl⟩) ?_)
 refine wp_seq (wp_cond (t:=false) (Zj (by omega)) (wp_exit ?_))
 refine a1b (a:=_) ((Za (by decide)).trans e1) ((Za (by decide)).trans e2) (by simp[Act.put];omega) ed bt br cts crs ct1 ?_
 have oth : ∀ b,b≠Br->(w.setRow Br ct).heap[b]? = w.heap[b]? :=fun b hne'=>setRow_other w Br b _ hne'
 refine⟨ct.toList,Φ,fun _=>False,.slice p 0 c,by simp,by simpa using cts,ct1,by simpa using nd,by simpa using kid,.nil _ _ _ (fun _ h=>h),hle,?_,?_,hdm,fun b h=>h.elim⟩
 ·intro b q hq
  obtain⟨T',fz,hh⟩:=hp b q hq
  have hneb:b≠Br:=fun e=>by rw[e,pBr]at hq;cases hq
  exact⟨T',fz,(oth b hneb).trans hh⟩
 ·refine⟨?_,?_,?_,?_,fun b hb'=> ?_⟩
  ·rw[setRow_os];exact hb.os
  ·rw[setRow_tape];exact hb.tape
  ·rw[setRow_output];exact hb.output
  ·rw[setRow_size];exact hb.size
  ·exact(oth b (by omega)).trans (hb.block b hb')
theorem Ct:Zm Tryz.prog 93 (fun x:List Int×Unit=>decide (x.1.length<=2000000)) (fun x:List Int×Unit=>x.1):=V4 (α:=Int) (by decide) (WY b6k (by decide))
theorem Hd:Zm Tryz.prog 95 (fun x:List Coef×Unit=>decide (x.1.length<=2000000)) (fun x:List Coef×Unit=>x.1):=V4 (α:=Coef) (by decide) (WY d1l (by decide))
theorem Fx:Zm Tryz.prog 94 (fun x:List Lin×Unit=>x.1.isEmpty) (fun x:List Lin×Unit=>x.1):=(V4 (α:=Lin) (by decide) (WY b1m (by decide))).weaken (fun a h=>by rw[List.isEmpty_iff]at h;rw[h];rfl) (fun _ _=>rfl)
theorem a2k:Zm Tryz.prog 96 (fun x:List Tm×Unit=>x.1.isEmpty) (fun x:List Tm×Unit=>x.1):=(V4 (α:=Tm) (by decide) (WY b2f (by decide))).weaken (fun a h=>by rw[List.isEmpty_iff]at h;rw[h];rfl) (fun _ _=>rfl)
theorem Mc:Z0 Tryz.prog 94 (Yd 2) (XD 62 2):=AZ (WY b1m (by decide))
theorem a0f:Z0 Tryz.prog 96 (Yd 10) (XD 28 10):=AZ (WY b2f (by decide))
set_option maxHeartbeats 1000000 in
theorem a5o: ∀ (m:Nat) (t:Tm),SizeOf.sizeOf t<m->tW t=true-> ∀ (Φ:Zv) (w:World) (v:Value),GlobOK Φ->Ye Φ w->RP Φ v (enc t)->Calls Tryz.prog 71 #[v] w (JW Φ w t):=by
 intro m
 induction m with
 | zero=>intro t h;omega
 | succ m ih=>
  intro t ht hw Φ w v hL hp hv
  obtain⟨n,ks⟩:=t
  have tail : ∀ st' a' w',Go.Pl.cpR n ks 0 st'->XI (ZU (fun _ _=>none) Φ [] w) st' a' w'->Gu.wp Tryz.prog (fun e a w'=>e = .ret∧cpN Φ w (.mk n ks) a w') a' w':=by
   intro st' a' w' hR hr
   obtain⟨Bt,Br,T,Tr,Φ1,ct,cr,q1,q2,q3,q4,q5,q6,q7,q8,q9,q10,q11,q12,q13,q14,q15,q16,q17,q18,q19,q20⟩:=b1z hR hr
   rcases q20 with ⟨rfl,p,c,hk⟩|⟨hne,B,c,cs,hk,r1,r2,r3,r4,r5,r6,r7,r8,r9⟩
   ·exact c4y q1 q2 q3 q4 q6 q9 q10 q11 q12 q13 q14 q15 hk q16 q17 q18 q19
   ·refine c2e (Xs:=fun _ _=>False) (us:=fun _=>undef) hne (by have:=(Xu hw).1;omega) hL (fun k hk Φ w v h1 h2 h3=>ih k (by have:=EN (n:=n) hk;omega) ((Xu hw).2 k hk) Φ w v h1 h2 h3)
     ⟨q1,q2,q3,q4,q5,q6,r1,q7,r2,r3,q8,q9,r4,q10,q11,q12,q13,hk,q14,q15,r5,r6,r7,r8,fun j k h=>by omega,fun j j' h=>by omega,fun j k _ hj=> ?_⟩ q16 q17 q18 q19
    have hjl:j<ks.length:=(List.getElem?_eq_some_iff.1 hj).1
    have hs : ∀ x∈ks.map (enc:Tm->PV),x.cells.length=10:=fun x hx=>by
     obtain⟨k,_,rfl⟩:=List.mem_map.1 hx
     exact Hu k
    have hy:(ks.map (enc:Tm->PV))[j]? = some (enc k):=by rw[List.getElem?_map,hj];rfl
    have e:=HY hs hy
    have e2:(cs.toList.drop (j*10)).take 10=((cs.toList.take (ks.length*10)).drop (j*10)).take 10:=by
     rw[List.drop_take,List.take_take]
     congr 1
     have:=Nat.mul_le_mul_right 10 (show j+1<=ks.length from hjl)
     omega
    rw[e2,<- e]
    exact(r9.drop _).take _
  have key : ∀ {T:ZA} {ic:IC} (hT:ZX Tryz.prog T) (hic:Am Tryz.prog c7l Tryz.f71=some ic) (hrun:ZC T (Vb fun m S=>Go.Pl.cpR n ks 0 S∧m=0) 0 (fun _=>False) (.inl ic) [] (Ei n ks)),Calls Tryz.prog 71 #[v] w (JW Φ w (.mk n ks)):=by
   intro T ic hT hic hrun
   obtain⟨cd,hb,htr⟩:=H6 hic
   refine calls_of_wp Tryz.func71 hb ?_
   have hE:YE (fun _ _=>none) Φ (#[v]++Array.replicate 66 undef) (Ei n ks).env:=by
    show RL _ _ _ _
    rw[Array.toList_append,Array.toList_replicate]
    refine RL.append ?_ (Yj _)
    rw[ZE]at hv
    exact RL.cons (.pv _ _ hv) RL.nil
   have h:=BO (st:=Ei n ks) (a:={tmps:=#[v]++Array.replicate 66 undef,defers:=[]}) (N:=cpN Φ w (.mk n ks)) (R:=fun m S=>Go.Pl.cpR n ks 0 S∧m=0) hT (by kernel_rfl) htr hrun (WU hL hp) hE rfl (fun i cd hx st' a' w' hR hr=>by
    obtain⟨hR,rfl⟩:=hR
    rw[c2m]at hx
    cases hx
    exact tail st' a' w' hR hr)
   exact wp_mono h fun e a w' h=>by obtain⟨rfl,h⟩:=h;exact h
  have hRR : ∀ S,Go.Pl.cpR n ks 0 S->(Go.Pl.cpR n ks 0 S∧(0:Nat)=0):=fun S h=>⟨h,rfl⟩
  by_cases hs:n.sizes=[]
  ·by_cases hk:ks=[]
   ·exact key (T:=Dw) (ic:=KJ) (Zo (Ve Tryz.func93 (by kernel_rfl) Ct) (Zo (Ve Tryz.func94 (by kernel_rfl) Fx) (Zo (Ve Tryz.func95 (by kernel_rfl) Hd) (Zo (Ve Tryz.func96 (by kernel_rfl) a2k) Zd)))) (by kernel_rfl) (d4v hw hs hk hRR)
   ·exact key (T:=Gr) (ic:=KN) (Zo (Ve Tryz.func93 (by kernel_rfl) Ct) (Zo (Ve Tryz.func94 (by kernel_rfl) Fx) (Zo (Ve Tryz.func95 (by kernel_rfl) Hd) (Zo (Ve Tryz.func96 (by kernel_rfl) a0f) Zd)))) (by kernel_rfl) (d7m hw hs hk hRR)
  ·by_cases hk:ks=[]
   ·exact key (T:=Qg) (ic:=Vt) (Zo (Ve Tryz.func93 (by kernel_rfl) Ct) (Zo (Ve Tryz.func94 (by kernel_rfl) Mc) (Zo (Ve Tryz.func95 (by kernel_rfl) Hd) (Zo (Ve Tryz.func96 (by kernel_rfl) a2k) Zd)))) (by kernel_rfl) (d7j hw hs hk hRR)
   ·exact key (T:=QC) (ic:=Wd) (Zo (Ve Tryz.func93 (by kernel_rfl) Ct) (Zo (Ve Tryz.func94 (by kernel_rfl) Mc) (Zo (Ve Tryz.func95 (by kernel_rfl) Hd) (Zo (Ve Tryz.func96 (by kernel_rfl) a0f) Zd)))) (by kernel_rfl) (d7g hw hs hk hRR)
end Go.Proofs.YtgdebdgkofkeeaaGreatDoor
namespace Go.Proofs.YtgdebdgkofkeeaaGreatDoor
open Go.RowKit Go.Pl
open Enc (enc dec is)
open EncL (encL decL isL)
set_option maxRecDepth 100000
structure Env3 (Φ:Zv) (w:World) (M K Tk:Nat) (m:List (Str×Str)) (c:Nat) (tk:List Str):Prop where
 map : ∃ mes ck,w.heap[M]? = some (.map mes ck)∧mes.size=(Ya m).length∧(∀ (j:Nat) e p,mes[j]? = some e->(Ya m)[j]? = some p->RP Φ e.key p.1∧RP Φ e.val p.2)∧Su mes ck
 num : ∃ T,w.heap[K]? = some (.cells #[.int .i64 (c:Int)] T (0,0))
 tak : ∃ tv T,w.heap[Tk]? = some (.cells #[tv] T (0,0))∧RP Φ tv (enc tk)∧tv.oneCell'=true
 pM:Φ M=none
 pK:Φ K=none
 pT:Φ Tk=none
 n1:M≠K
 n2:M≠Tk
 n3:K≠Tk
def μ3(M K Tk:Nat):Mu:=fun l n=>if n=0 then(if l=0 then some (M,0,0)else if l=1 then some (K,0,0)else if l=2 then some (Tk,0,0)else none)else none
def os3(m:List (Str×Str))(c:Nat)(tk:List Str):List AObj:=[.map (Ya m),.box [.pv (.int .i64 (c:Int))],.box [.pv (enc tk)]]
theorem Env3.lt{Φ:Zv}{w:World}{M K Tk:Nat}{m:List (Str×Str)}{c:Nat}{tk:List Str}(h:Env3 Φ w M K Tk m c tk):M<w.heap.size∧K<w.heap.size∧Tk<w.heap.size:=by
 obtain⟨_,_,h1,_⟩:=h.map
 obtain⟨_,h2⟩:=h.num
 obtain⟨_,_,h3,_⟩:=h.tak
 exact⟨Yi h1,Yi h2,Yi h3⟩
theorem Env3.mono{Φ Φ':Zv}{w w':World}{M K Tk:Nat}{m:List (Str×Str)}{c:Nat}{tk:List Str}(h:Env3 Φ w M K Tk m c tk)(hle:Φ.le Φ')(hn:Φ' M=none∧Φ' K=none∧Φ' Tk=none)(hw:w'.heap[M]? = w.heap[M]? ∧w'.heap[K]? = w.heap[K]? ∧w'.heap[Tk]? = w.heap[Tk]?):Env3 Φ' w' M K Tk m c tk:=by
 obtain⟨mes,ck,h1,h2,h3,h4⟩:=h.map
 obtain⟨T,h5⟩:=h.num
 obtain⟨tv,T',h6,h7,h8⟩:=h.tak
 exact⟨⟨mes,ck,hw.1.trans h1,h2,fun j e p he hp=>⟨(h3 j e p he hp).1.mono hle,(h3 j e p he hp).2.mono hle⟩,h4⟩,⟨T,hw.2.1.trans h5⟩,⟨tv,T',hw.2.2.trans h6,h7.mono hle,h8⟩,hn.1,hn.2.1,hn.2.2,h.n1,h.n2,h.n3⟩
theorem RA{m:List (Str×Str)}{c:Nat}{tk:List Str}{l:Nat}{o:AObj}(h:(Yv (os3 m c tk))[l]? = some (.obj o)):(l=0∧o = .map (Ya m))∨(l=1∧o = .box [.pv (.int .i64 (c:Int))])∨(l=2∧o = .box [.pv (enc tk)]):=by
 match l,h with
 | 0,h=>cases h;exact .inl ⟨rfl,rfl⟩
 | 1,h=>cases h;exact .inr (.inl ⟨rfl,rfl⟩)
 | 2,h=>cases h;exact .inr (.inr ⟨rfl,rfl⟩)
 | l+3,h=>simp[Yv,os3]at h
theorem Env3.good{Φ:Zv}{w:World}{M K Tk:Nat}{m:List (Str×Str)}{c:Nat}{tk:List Str}(h:Env3 Φ w M K Tk m c tk)(hL:GlobOK Φ)(hp:Ye Φ w):Go.Pl.Good (ZU (μ3 M K Tk) Φ (Yv (os3 m c tk)) w) (μ3 M K Tk) Φ (Yv (os3 m c tk)) w:=by
 obtain⟨mes,ck,h1,h2,h3,h4⟩:=h.map
 obtain⟨T,h5⟩:=h.num
 obtain⟨tv,T',h6,h7,h8⟩:=h.tak
 refine⟨hp,fun l o ho=> ?_,fun l l' o o' hne ho ho'=> ?_,fun l n hl=> ?_,fun l o ho=>.inr ⟨l,o,ho,rfl⟩,rfl,rfl,rfl,Nat.le_refl _,fun _ _ _=>rfl,.refl _,.refl _,fun b cs h=>.inl h,hL⟩
 ·rcases RA ho with ⟨rfl,rfl⟩|⟨rfl,rfl⟩|⟨rfl,rfl⟩
  ·exact⟨M,0,0,mes,ck,rfl,h1,h2,h3,h.pM,h4⟩
  ·exact⟨K,0,0,T,_,rfl,h5,RL.cons (.pv _ _ (.int _ _)) RL.nil,fun v hv=>by simp at hv;subst hv;rfl,h.pK⟩
  ·exact⟨Tk,0,0,T',_,rfl,h6,RL.cons (.pv _ _ h7) RL.nil,fun v hv=>by simp at hv;subst hv;exact h8,h.pT⟩
 ·have:=h.n1;have:=h.n2;have:=h.n3
  rcases RA ho with ⟨rfl,rfl⟩|⟨rfl,rfl⟩|⟨rfl,rfl⟩ <;> rcases RA ho' with ⟨rfl,rfl⟩|⟨rfl,rfl⟩|⟨rfl,rfl⟩ <;> first|exact absurd rfl hne|(simp[blk,μ3];omega)
 ·by_cases e:3<=l
  ·unfold μ3
   rw[if_neg (show ¬ l=0 by omega),if_neg (show ¬ l=1 by omega),if_neg (show ¬ l=2 by omega)]
   split <;> rfl
  ·exfalso
   have:l=0∨l=1∨l=2:=by omega
   rcases this with rfl|rfl|rfl <;> (rcases hl with hl|hl <;> cases hl)
def Ky(Φ:Zv)(w:World)(X:Nat->Prop)(u:Value)(M K Tk:Nat)(m σ:List (Str×Str))(c:Nat)(tk:List Str)(t:Tm)(e:Ending)(w':World):Prop:=
 ∃ (vs:List Value) (Φ':Zv),e = .returned (.agg vs.toArray)∧vs.length=10∧ZW vs∧X7 Φ' vs.toArray 0 (QB tk σ c t).1.n∧vs[9]? = some u∧OwnK Φ' w' X u (QB tk σ c t).1.kids∧Env3 Φ' w' M K Tk m (QB tk σ c t).2 tk∧Φ.le Φ'∧Ye Φ' w' ∧
  (∀ b cs,Φ' b=some cs->Φ b=some cs∨w.heap.size<=b)∧(∀ b,b<w.heap.size-> ¬ X b->b≠M->b≠K->b≠Tk->w'.heap[b]? = w.heap[b]?)∧w'.os=w.os∧w'.tape=w.tape∧w'.output=w.output∧w.heap.size<=w'.heap.size
abbrev XQ(K Tk:Nat):Value:=.func (.func 67) #[] #[.pointer (some ⟨K,0,none⟩),.pointer (some ⟨Tk,0,none⟩)]
structure RenPre (Φ:Zv) (w:World) (X:Nat->Prop) (u:Value) (M K Tk:Nat) (m σ:List (Str×Str)) (c:Nat) (tk:List Str) (t:Tm) (cs:List Value):Prop where
 glob:GlobOK Φ
 phi:Ye Φ w
 len:cs.length=10
 ones:ZW cs
 nd:X7 Φ cs.toArray 0 t.n
 kid:cs[9]? = some u
 own:OwnK Φ w X u t.kids
 env:Env3 Φ w M K Tk m c tk
 out : ∀ b,X b->b≠M∧b≠K∧b≠Tk
 same:KU m σ
 tkl:tk.length<=1048576
 cnt:c+Zt t*(tk.length+1)<=4611686018427387904
 small:tW t=true
noncomputable def rnB:Code:=Tryz.f70.body.getD .skip
noncomputable def nO(i:Nat):Array Oper:=Q6 rnB i
noncomputable def nX(i k:Nat):Oper:=(nO i).getD k default
def c6x:Code->Bool
 | .seq (.seq (.region 9 _ _) _) _=>true
 | _=>false
noncomputable def a0a:Code:=(Code.region 10 (nO 10) false).seq ((Code.cond (.tmp 52) .skip (.exit 0)).seq ((Code.block 1 ((Code.region 11 (nO 11) false).seq ((Code.region 12 (nO 12) false).seq (Code.cond (.tmp 55) (Code.region 13 raO true) (Code.region 14 rbO true))))).seq (Code.region 15 (nO 15) false)))
noncomputable def BM:Code:=((Code.region 9 (nO 9) false).seq (.block 0 (.loop a0a))).seq ((Code.region 16 (nO 16) false).seq .ret)
theorem c4a:WR Tryz.prog c6x Tryz.f70 0=some BM:=by kernel_rfl
structure RnW (W0:World) (Φ0:Zv) (X:Nat->Prop) (M K Tk:Nat) (m:List (Str×Str)) (tk:List Str) (Mi:Nat) (mi:List (Str×Str)) (Bt Br T Tr:Nat) (ct cr:Array Value) (Φ:Zv) (u:Value) (L:List Tm) (c:Nat) (w:World):Prop where
 le:Φ0.le Φ
 phi:Ye Φ w
 dom : ∀ b cs,Φ b=some cs->Φ0 b=some cs∨W0.heap.size<=b
 frame : ∀ b,b<W0.heap.size-> ¬ X b->b≠M->b≠K->b≠Tk->w.heap[b]? = W0.heap[b]?
 os:w.os=W0.os
 tape:w.tape=W0.tape
 output:w.output=W0.output
 size:W0.heap.size<=w.heap.size
 env:Env3 Φ w M K Tk m c tk
 envI:Env3 Φ w Mi K Tk mi c tk
 hM:M<W0.heap.size∧K<W0.heap.size∧Tk<W0.heap.size
 hMi:(Mi=M∧mi=m)∨W0.heap.size<=Mi
 hBt:W0.heap.size<=Bt
 hBr:W0.heap.size<=Br
 ne1:Bt≠Br
 neM:Bt≠Mi∧Br≠Mi
 pBt:Φ Bt=none
 pBr:Φ Br=none
 bt:w.heap[Bt]? = some (.cells ct T (0,0))
 br:w.heap[Br]? = some (.cells cr Tr (0,0))
 own:OwnK Φ w X u L
theorem Env3.mix{Φ Φ':Zv}{w w':World}{M Mo K Tk:Nat}{m mo:List (Str×Str)}{c c':Nat}{tk:List Str}(h:Env3 Φ' w' M K Tk m c' tk)(k:Env3 Φ w Mo K Tk mo c tk)(hle:Φ.le Φ')(hn:Φ' Mo=none)(hw:w'.heap[Mo]? = w.heap[Mo]?):Env3 Φ' w' Mo K Tk mo c' tk:=by
 obtain⟨mes,ck,h1,h2,h3,h4⟩:=k.map
 exact⟨⟨mes,ck,hw.trans h1,h2,fun j e p he hp=>⟨(h3 j e p he hp).1.mono hle,(h3 j e p he hp).2.mono hle⟩,h4⟩,h.num,h.tak,hn,h.pK,h.pT,k.n1,k.n2,h.n3⟩
theorem RnW.next{W0:World}{Φ0:Zv}{X:Nat->Prop}{M K Tk:Nat}{m:List (Str×Str)}{tk:List Str}{Mi:Nat}{mi:List (Str×Str)}{Bt Br T Tr:Nat}{ct cr:Array Value}{Φ:Zv}{c c' B cap n:Nat}{L:List Tm}{w:World}(h:RnW W0 Φ0 X M K Tk m tk Mi mi Bt Br T Tr ct cr Φ (.slice (some ⟨B,0,none⟩) n cap) L c w)
  (hL0:L.length=n) (hXs : ∀ b,X b->b<W0.heap.size∧b≠M∧b≠K∧b≠Tk) {cs:Array Value} {Xs:Nat->Nat->Prop} {us:Nat->Value} (hr:RowH Φ w X B cap cs L Xs us) (ho : ∀ (j:Nat) k,L[j]? = some k->OwnK Φ w (Xs j) (us j) k.kids) {i:Nat} (hi:i<L.length)
  {w1 w2:World} (e1:w1.heap=w.heap) (e2:w1.os=w.os) (e3:w1.tape=w.tape) (e4:w1.output=w.output) {k:Tm} {vs:List Value} {Φ':Zv} {Mb:Nat} {mb:List (Str×Str)} (hMb:Mb=M∧mb=m∨Mb=Mi∧mb=mi)
  (q1:vs.length=10) (q2:ZW vs) (q3:X7 Φ' vs.toArray 0 k.n) (q4:vs[9]? = some (us i)) (q5:OwnK Φ' w2 (Xs i) (us i) k.kids) (q6:Env3 Φ' w2 Mb K Tk mb c' tk) (q7:Φ.le Φ') (q8:Ye Φ' w2) (q9 : ∀ b cs,Φ' b=some cs->Φ b=some cs∨w1.heap.size<=b)
  (q10 : ∀ b,b<w1.heap.size-> ¬ Xs i b->b≠Mb->b≠K->b≠Tk->w2.heap[b]? = w1.heap[b]?) (q11:w2.os=w1.os) (q12:w2.tape=w1.tape) (q13:w2.output=w1.output) (q14:w1.heap.size<=w2.heap.size) :
  RnW W0 Φ0 X M K Tk m tk Mi mi Bt Br T Tr ct cr Φ' (.slice (some ⟨B,0,none⟩) n cap) (L.set i k) c' (w2.setRow B (splice cs.toList (i*10) vs).toArray):=by
 have hs1:w1.heap.size=w.heap.size:=by rw[e1]
 have hBX:X B:=(hr.X B).2 (.inl rfl)
 obtain⟨lM,lK,lT⟩:=h.env.lt
 obtain⟨lMi,_,_⟩:=h.envI.lt
 have lBt:=Yi h.bt
 have lBr:=Yi h.br
 have nn : ∀ b,b<w.heap.size->Φ b=none->Φ' b=none:=fun b hb' hn=>by
  cases hq:Φ' b with
  | none=>rfl
  | some q=>
   rcases q9 b q hq with h1|h1
   ·rw[hn]at h1;cases h1
   ·rw[hs1]at h1;omega
 have oth : ∀ b,b≠B->(w2.setRow B (splice cs.toList (i*10) vs).toArray).heap[b]? = w2.heap[b]? :=fun b hne=>setRow_other w2 B b _ hne
 have hXi : ∀ b,Xs i b->X b:=fun b hb=>(hr.X b).2 (.inr ⟨i,hi,hb⟩)
 have hsz:=h.size
 have nMi:Mi≠B:=by
  rcases h.hMi with ⟨h1,_⟩|h1
  ·rw[h1];exact Ne.symm (hXs B hBX).2.1
  ·have:=(hXs B hBX).1;omega
 have nXMi : ¬ Xs i Mi:=fun hx=>by
  rcases h.hMi with ⟨h1,_⟩|h1
  ·exact(hXs Mi (hXi _ hx)).2.1 h1
  ·have:=(hXs Mi (hXi _ hx)).1;omega
 have nMb:Mb≠B:=by
  rcases hMb with ⟨rfl,_⟩|⟨rfl,_⟩
  ·exact Ne.symm (hXs B hBX).2.1
  ·exact nMi
 -- what the call has left
 have up : ∀ b,b<w.heap.size-> ¬ Xs i b->b≠Mb->b≠K->b≠Tk->w2.heap[b]? = w.heap[b]? :=fun b hb h1 h2 h3 h4=>(q10 b (by omega) h1 h2 h3 h4).trans (by rw[e1])
 have rowB:w2.heap[B]? = some (.cells cs 28 (0,0)):=(up B (Yi hr.heap) (hr.top i hi) (Ne.symm nMb) (hXs B hBX).2.2.1 (hXs B hBX).2.2.2).trans hr.heap
 have eM:Env3 Φ' w2 M K Tk m c' tk:=by
  rcases hMb with ⟨rfl,rfl⟩|⟨rfl,rfl⟩
  ·exact q6
  ·rcases h.hMi with ⟨h1,h2⟩|h1
   ·subst h1 h2;exact q6
   ·have:=h.hM.1
    exact q6.mix h.env q7 (nn _ lM h.env.pM) (up M lM (fun hx=>(hXs M (hXi _ hx)).2.1 rfl) (by omega) h.env.n1 h.env.n2)
 have eI:Env3 Φ' w2 Mi K Tk mi c' tk:=by
  rcases hMb with ⟨rfl,rfl⟩|⟨rfl,rfl⟩
  ·rcases h.hMi with ⟨h1,h2⟩|h1
   ·subst h1 h2;exact q6
   ·have:=h.hM.1
    exact q6.mix h.envI q7 (nn _ lMi h.envI.pM) (up Mi lMi nXMi (by omega) h.envI.n1 h.envI.n2)
  ·exact q6
 have hB3:=hXs B hBX
 have oM:(w2.setRow B (splice cs.toList (i*10) vs).toArray).heap[M]? = w2.heap[M]? :=oth _ (Ne.symm hB3.2.1)
 have oK:(w2.setRow B (splice cs.toList (i*10) vs).toArray).heap[K]? = w2.heap[K]? :=oth _ (Ne.symm hB3.2.2.1)
 have oT:(w2.setRow B (splice cs.toList (i*10) vs).toArray).heap[Tk]? = w2.heap[Tk]? :=oth _ (Ne.symm hB3.2.2.2)
 have nBt:Bt≠B:=by have:=h.hBt;omega
 have nBr:Br≠B:=by have:=h.hBr;omega
 have nXt : ∀ b,W0.heap.size<=b-> ¬ Xs i b:=fun b hb hx=>by have:=(hXs b (hXi _ hx)).1;omega
 have hMbt:Bt≠Mb∧Br≠Mb:=by
  rcases hMb with ⟨rfl,_⟩|⟨rfl,_⟩
  ·have:=h.hM.1;have:=h.hBt;have:=h.hBr;omega
  ·exact h.neM
 have hlen:i*10+vs.length<=cs.toList.length:=by
  have h1:=Nat.mul_le_mul_right 10 (show i+1<=L.length from hi)
  have h2:=Nat.mul_le_mul_right 10 hr.len
  have h3:=hr.size
  simp
  omega
 have hsl:(splice cs.toList (i*10) vs).toArray.size=cs.size:=by simpa using YU hlen
 have get : ∀ j,(splice cs.toList (i*10) vs).toArray[j]? = if j<i*10 then cs[j]? else if j<i*10+10 then vs[j - i*10]? else cs[j]? :=fun j=>by
  rw[List.getElem?_toArray,Xf hlen,q1]
  simp
 refine⟨h.le.trans q7,fun b q hq=> ?_,fun b q hq=> ?_,fun b hb h1 h2 h3 h4=> ?_,?_,?_,?_,?_,eM.mono (.refl _) ⟨eM.pM,eM.pK,eM.pT⟩ ⟨oM,oK,oT⟩,eI.mono (.refl _) ⟨eI.pM,eI.pK,eI.pT⟩ ⟨oth _ nMi,oK,oT⟩,h.hM,h.hMi,h.hBt,h.hBr,h.ne1,h.neM,nn _ lBt h.pBt,nn _ lBr h.pBr,?_,?_,?_⟩
 ·obtain⟨T',fz,hh⟩:=q8 b q hq
  have hne:b≠B:=fun e=>by rw[e,nn _ (Yi hr.heap) hr.phi]at hq;cases hq
  exact⟨T',fz,(oth b hne).trans hh⟩
 ·rcases q9 b q hq with h1|h1
  ·exact h.dom b q h1
  ·exact .inr (by omega)
 ·have hbB:b≠B:=fun e=>h1 (e▸hBX)
  have hbM:b≠Mb:=by
   rcases hMb with ⟨rfl,_⟩|⟨rfl,_⟩
   ·exact h2
   ·rcases h.hMi with ⟨h5,_⟩|h5
    ·rw[h5];exact h2
    ·omega
  exact(oth b hbB).trans ((up b (by omega) (fun hx=>h1 (hXi _ hx)) hbM h3 h4).trans (h.frame b hb h1 h2 h3 h4))
 ·rw[setRow_os];exact q11.trans (e2.trans h.os)
 ·rw[setRow_tape];exact q12.trans (e3.trans h.tape)
 ·rw[setRow_output];exact q13.trans (e4.trans h.output)
 ·rw[setRow_size];omega
 ·exact(oth _ nBt).trans ((up Bt lBt (nXt _ h.hBt) hMbt.1 (by have:=h.hM;have:=h.hBt;omega) (by have:=h.hM;have:=h.hBt;omega)).trans h.bt)
 ·exact(oth _ nBr).trans ((up Br lBr (nXt _ h.hBr) hMbt.2 (by have:=h.hM;have:=h.hBr;omega) (by have:=h.hM;have:=h.hBr;omega)).trans h.br)
 ·have hq5:OwnK Φ' (w2.setRow B (splice cs.toList (i*10) vs).toArray) (Xs i) (us i) k.kids:=q5.mono (.refl _) (fun b hb=>(q5.out b hb).2.1) fun b hb=>oth b fun e=>hr.top i hi (e▸hb)
  have:=OwnK.set (Φ':=Φ') (w':=w2.setRow B (splice cs.toList (i*10) vs).toArray) (Y:=Xs i) (k:=k) (u:=us i) (cs':=(splice cs.toList (i*10) vs).toArray) hr ho hi q7 (fun b hb hn=>⟨nn b (h.own.out b hb).1 (h.own.out b hb).2.1,fun hne=>(oth b hne).trans (up b (h.own.out b hb).1 hn (fun e=>by
    rcases hMb with ⟨rfl,_⟩|⟨rfl,_⟩
    ·exact(hXs b hb).2.1 e
    ·rcases h.hMi with ⟨h5,_⟩|h5
     ·exact(hXs b hb).2.1 (e.trans h5)
     ·have:=(hXs b hb).1;omega) (hXs b hb).2.2.1 (hXs b hb).2.2.2)⟩) (setRow_heap w2 B cs _ _ _ rowB) hsl (fun j hj=>by
    rw[get]
    rcases hj with hj|hj
    ·rw[if_pos hj]
    ·rw[if_neg (by omega),if_neg (by omega)]) (fun q p hp=>by
    obtain⟨v,r1,r2,r3⟩:=q3 q p hp
    have hq:q<9:=(List.getElem?_eq_some_iff.1 hp).1
    rw[Nat.zero_add]at r1
    refine⟨v,?_,r2,r3⟩
    rw[get,if_neg (by omega),if_pos (by omega),Nat.add_sub_cancel_left]
    simpa using r1) (by rw[get,if_neg (by omega),if_pos (by omega),Nat.add_sub_cancel_left];exact q4) q5.one hq5 (fun b hb=>.inl hb)
  rw[hL0]at this
  refine this.congr fun b=>⟨fun hb=> ?_,fun hb=> ?_⟩
  ·by_cases hx:Xs i b
   ·exact .inr hx
   ·exact .inl ⟨hb,hx⟩
  ·rcases hb with hb|hb
   ·exact hb.1
   ·exact hXi b hb
theorem c0u{Φ:Zv}{w:World}{X:Nat->Prop}{B n cap:Nat}{L:List Tm}(h:OwnK Φ w X (.slice (some ⟨B,0,none⟩) n cap) L)(hL:L≠[]):
  L.length=n∧ ∃ cs Xs us,RowH Φ w X B cap cs L Xs us∧ ∀ (j:Nat) k,L[j]? = some k->OwnK Φ w (Xs j) (us j) k.kids:=by
 generalize hu:Value.slice (some ⟨B,0,none⟩) n cap=u at h
 cases h with
 | nil=>exact absurd rfl hL
 | row _ B' c cs _ Xs us hr ho=>
  injection hu with h1 h2 h3
  injection h1 with h1
  injection h1 with h1
  subst h1 h2 h3
  exact⟨rfl,cs,Xs,us,hr,ho⟩
theorem c8l{α:Type}{A r:List α}{k k':α}:(A++k::r).set A.length k'=A++k'::r:=by
 induction A with
 | nil=>rfl
 | cons a A ih=>simp only[List.cons_append,List.length_cons,List.set_cons_succ,ih]
theorem d7q{P:Program}{ops:Array Oper}{Q:Exit->Act->World->Prop}{o o1:Oper}{a:Act}{w:World}{id d e x:Nat}{t t':TypeId}{n:Int}{b:Bool}(h:ops.toList=[o,o1])(hg:o.guard=none)(hg1:o1.guard=none)(hd:o.dst=some d)(hd1:o1.dst=some e)(ho:o.op = .move (.tmp x))(ho1:o1.op = .binOp .eql t (.tmp d) (.const (.int .i64 0)) t')
  (hx:a.eval (.tmp x) = .int .i64 n) (hs:d<a.tmps.size) (hb:b=decide (n=0)) (hQ:Q .normal ((a.put (some d) (.int .i64 n)).put (some e) (.bool b)) w):(Code.region id ops false).wp P Q a w:=by
 refine Ua h (Us hg (Rm (.inl ho) hx) ?_)
 rw[hd]
 refine Us hg1 (b5w ho1 (Zj hs) rfl (.inr ⟨rfl,hb⟩)) ?_
 rw[hd1]
 exact hQ
abbrev rnN(Φ:Zv)(w:World)(X:Nat->Prop)(u:Value)(M K Tk:Nat)(m σ:List (Str×Str))(c:Nat)(tk:List Str)(t:Tm):Act->World->Prop:=bodyPost Tryz.prog Tryz.f70 (Ky Φ w X u M K Tk m σ c tk t) .ret
theorem a3b{a:Act}{w:World}{Bt Br T Tr:Nat}{ct cr:Array Value}(h1:a.eval (.tmp 3) = .pointer (some ⟨Bt,0,none⟩))(h2:a.eval (.tmp 6) = .pointer (some ⟨Br,0,none⟩))(hs:a.tmps.size=82)(hd:a.defers=[])(hb:w.heap[Bt]? = some (.cells ct T (0,0)))
  (hr:w.heap[Br]? = some (.cells cr Tr (0,0))) (hct:ct.size=10) (hcr:cr.size=10) (ho:ZW ct.toList) {R:Ending->World->Prop} (hR:R (.returned (.agg ct)) (w.setRow Br ct)) :
  ((Code.region 16 (nO 16) false).seq .ret).wp Tryz.prog (fun e a w=>e = .ret∧bodyPost Tryz.prog Tryz.f70 R .ret a w) a w:=by
 refine wp_seq (b3d (o:=nX 16 0) (o1:=nX 16 1) (t:=28) (x:=3) (y:=6) (d:=81) (by kernel_rfl) (by kernel_rfl) (by kernel_rfl) (by kernel_rfl) (by kernel_rfl) (by kernel_rfl) (by kernel_rfl) (by kernel_rfl) h1 h2 (by decide) hb hr hct hcr ho (by omega) (wp_ret ⟨rfl,hd,_,?_,hR⟩))
 refine Ai (b:=6) (t:=28) (Br:=Br) (sz:=10) (T:=Tr) (z:=(0,0)) (by kernel_rfl) ?_ (by kernel_rfl) (setRow_heap w Br cr ct Tr (0,0) hr) hct
 exact(Za (a:=a) (d:=81) (t:=6) (by decide)).trans h2
set_option maxHeartbeats 2000000 in
theorem c2z{W0:World}{Φ0:Zv}{X:Nat->Prop}{M K Tk:Nat}{m σ:List (Str×Str)}{tk:List Str}{Mi:Nat}{mi τ:List (Str×Str)}{Bt Br T Tr:Nat}{ct cr:Array Value}{Φ:Zv}{c0 cc B cap:Nat}{n':Nd}{t:Tm}{ks:List Tm}{a:Act}{w:World}
  (hne:ks≠[]) (hlen:ks.length<=1048576) (hw : ∀ k∈ks,tW k=true) (hL:GlobOK Φ0) (htk:tk.length<=1048576) (hXs : ∀ b,X b->b<W0.heap.size∧b≠M∧b≠K∧b≠Tk) (hm:KU m σ) (hmi:KU mi τ)
  (ih : ∀ k∈ks,∀ (Φ:Zv) (w:World) (X:Nat->Prop) (u:Value) (M:Nat) (m σ:List (Str×Str)) (c:Nat) (cs:List Value),RenPre Φ w X u M K Tk m σ c tk k cs->Calls Tryz.prog 70 #[.agg cs.toArray,.map (some M),XQ K Tk] w (Ky Φ w X u M K Tk m σ c tk k))
  (hstd:QB tk σ cc t=(.mk n' (X4 tk σ τ 0 c0 ks).1,(X4 tk σ τ 0 c0 ks).2)) (hcnt:c0+Zr ks*(tk.length+1)<=4611686018427387904) (hct:ct.size=10) (hcr:cr.size=10) (ho1:ZW ct.toList) (hnd:X7 Φ ct 0 n') (hkid:ct[9]? = some (.slice (some ⟨B,0,none⟩) ks.length cap))
  (h:RnW W0 Φ0 X M K Tk m tk Mi mi Bt Br T Tr ct cr Φ (.slice (some ⟨B,0,none⟩) ks.length cap) ks c0 w)
  (h3:a.eval (.tmp 3) = .pointer (some ⟨Bt,0,none⟩)) (h6:a.eval (.tmp 6) = .pointer (some ⟨Br,0,none⟩)) (h1:a.eval (.tmp 1) = .map (some M)) (h2:a.eval (.tmp 2)=XQ K Tk) (h9:a.eval (.tmp 9) = .map (some Mi)) (hs:a.tmps.size=82) (hd:a.defers=[]) :
  BM.wp Tryz.prog (fun e a w=>e = .ret∧rnN Φ0 W0 X (.slice (some ⟨B,0,none⟩) ks.length cap) M K Tk m σ cc tk t a w) a w:=by
 unfold BM
 refine wp_seq (wp_seq (a1g (p:=some ⟨B,0,none⟩) (n:=ks.length) (c:=cap) (o:=nX 9 0) (o1:=nX 9 1) (o2:=nX 9 2) (o3:=nX 9 3) (s:=28) (t:=26) (b:=3) (f:=7) (off:=9) (d1:=48) (d2:=49) (d3:=50) (d4:=51) (by kernel_rfl) (by kernel_rfl) (by kernel_rfl) (by kernel_rfl) (by kernel_rfl) (by kernel_rfl) (by kernel_rfl) (by kernel_rfl) (by kernel_rfl)
  (by kernel_rfl) (by kernel_rfl) (by kernel_rfl) (by kernel_rfl) (by kernel_rfl) (by kernel_rfl) (by kernel_rfl) h3 (by simp[World.cell?,h.bt,hkid]) (by omega) (by omega) ?_))
 generalize ha1:(((a.put (some 48) (.pointer (some ⟨Bt,9,none⟩))).put (some 49) (.slice (some ⟨B,0,none⟩) ks.length cap)).put (some 50) (.int .i64 (ks.length:Int))).put (some 51) (.int .i64 0)=a1
 have s0:SameT [48,49,50,51] a a1:=by rw[<- ha1];exact((((SameT.refl _ _).put (by simp) _).put (by simp) _).put (by simp) _).put (by simp) _
 have e50:a1.eval (.tmp 50) = .int .i64 (ks.length:Int):=by rw[<- ha1,Za (by decide)];exact Zj (by simp[Act.put];omega)
 have e51:a1.eval (.tmp 51) = .int .i64 ((0:Nat):Int):=by rw[<- ha1];exact Zj (by simp[Act.put];omega)
 have e3:=(s0.eval (t:=3) (by decide)).trans h3
 have e6:=(s0.eval (t:=6) (by decide)).trans h6
 have e1:=(s0.eval (t:=1) (by decide)).trans h1
 have e2:=(s0.eval (t:=2) (by decide)).trans h2
 have e9:=(s0.eval (t:=9) (by decide)).trans h9
 have es:a1.tmps.size=82:=by rw[s0.size];exact hs
 have ed:a1.defers=[]:=by rw[s0.defers];exact hd
 clear ha1 h1 h2 h3 h6 h9 hs hd s0
 refine wp_block (wp_loop_ghost (fun(z:Nat) (a:Act) (w:World)=> ∃ (i:Nat) (Φi:Zv) (A L:List Tm) (c:Nat),z=ks.length - i∧i<=ks.length∧Φ.le Φi∧RnW W0 Φ0 X M K Tk m tk Mi mi Bt Br T Tr ct cr Φi (.slice (some ⟨B,0,none⟩) ks.length cap) L c w∧L=A++ks.drop i∧A.length=i ∧
   X4 tk σ τ 0 c0 ks=(A++(X4 tk σ τ i c (ks.drop i)).1,(X4 tk σ τ i c (ks.drop i)).2)∧c+Zr (ks.drop i)*(tk.length+1)<=4611686018427387904∧a.eval (.tmp 3) = .pointer (some ⟨Bt,0,none⟩)∧a.eval (.tmp 6) = .pointer (some ⟨Br,0,none⟩)∧a.eval (.tmp 1) = .map (some M)∧a.eval (.tmp 2)=XQ K Tk∧a.eval (.tmp 9) = .map (some Mi) ∧
   a.eval (.tmp 50) = .int .i64 (ks.length:Int)∧a.eval (.tmp 51) = .int .i64 (i:Int)∧a.tmps.size=82∧a.defers=[]) _ ⟨0,Φ,[],ks,c0,rfl,Nat.zero_le _,.refl _,h,rfl,rfl,rfl,by simpa using hcnt,e3,e6,e1,e2,e9,e50,e51,es,ed⟩ ?_)
 clear h e1 e2 e3 e6 e9 e50 e51 es ed a1 a w
 rintro z a w ⟨i,Φi,A,L,c,rfl,hi,hle,h,hLe,hA,hst,hci,e3,e6,e1,e2,e9,e50,e51,es,ed⟩
 unfold a0a
 refine wp_seq (a0r (o:=nX 10 0) (op:=.lss) (t:=3) (t':=3) (d:=52) (x:=.tmp 51) (y:=.tmp 50) (b:=decide ((i:Int)<(ks.length:Int))) (by kernel_rfl) (by kernel_rfl) (by kernel_rfl) (by kernel_rfl) e51 e50 (.inl ⟨rfl,rfl⟩) ?_)
 have s1:SameT [52] a (a.put (some 52) (.bool (decide ((i:Int)<(ks.length:Int))))):=(SameT.refl _ _).put (by simp) _
 have e52:(a.put (some 52) (.bool (decide ((i:Int)<(ks.length:Int))))).eval (.tmp 52) = .bool (decide ((i:Int)<(ks.length:Int))):=Zj (by omega)
 generalize a.put (some 52) (.bool (decide ((i:Int)<(ks.length:Int))))=a1 at s1 e52 ⊢
 by_cases hlt:i<ks.length
 ·have hb:decide ((i:Int)<(ks.length:Int))=true:=by simpa using hlt
  rw[hb]at e52
  refine wp_seq (wp_cond (t:=true) e52 (wp_skip ?_))
  refine wp_seq (wp_block (wp_seq (c7n (o:=nX 11 0) (o1:=nX 11 1) (d:=53) (e:=10) (x:=51) (by kernel_rfl) (by kernel_rfl) (by kernel_rfl) (by kernel_rfl) (by kernel_rfl) (by kernel_rfl) (by kernel_rfl) ((s1.eval (by decide)).trans e51) (by rw[s1.size];omega) ?_)))
  generalize ha2:(a1.put (some 53) (.int .i64 (i:Int))).put (some 10) (.int .i64 (i:Int))=a2
  have s2:SameT [52,53,10] a a2:=by
   have s1':SameT [52,53,10] a a1:=⟨s1.size,s1.defers,fun t ht=>s1.tmp t (by simp at ht ⊢;omega)⟩
   rw[<- ha2]
   exact(s1'.put (by simp) _).put (by simp) _
  have f10:a2.eval (.tmp 10) = .int .i64 (i:Int):=by rw[<- ha2];exact Zj (by simp[Act.put,s1.size];omega)
  refine wp_seq (d7q (o:=nX 12 0) (o1:=nX 12 1) (d:=54) (e:=55) (x:=10) (t:=3) (t':=3) (b:=decide ((i:Int)=0)) (by kernel_rfl) (by kernel_rfl) (by kernel_rfl) (by kernel_rfl) (by kernel_rfl) (by kernel_rfl) (by kernel_rfl) f10 (by rw[s2.size];omega) rfl ?_)
  generalize ha3:(a2.put (some 54) (.int .i64 (i:Int))).put (some 55) (.bool (decide ((i:Int)=0)))=a3
  have s3:SameT [52,53,10,54,55] a a3:=by
   have s2':SameT [52,53,10,54,55] a a2:=⟨s2.size,s2.defers,fun t ht=>s2.tmp t (by simp at ht ⊢;omega)⟩
   rw[<- ha3]
   exact(s2'.put (by simp) _).put (by simp) _
  have g10:a3.eval (.tmp 10) = .int .i64 (i:Int):=by rw[<- ha3,Za (by decide),Za (by decide)];exact f10
  have g55:a3.eval (.tmp 55) = .bool (decide ((i:Int)=0)):=by rw[<- ha3];exact Zj (by simp[Act.put,s2.size];omega)
  have g3:=(s3.eval (t:=3) (by decide)).trans e3
  have g1:=(s3.eval (t:=1) (by decide)).trans e1
  have g2:=(s3.eval (t:=2) (by decide)).trans e2
  have g9:=(s3.eval (t:=9) (by decide)).trans e9
  have gs:a3.tmps.size=82:=by rw[s3.size];exact es
  clear ha2 ha3 f10 s2 s1 e52
  have hLl:L.length=ks.length:=by rw[hLe,List.length_append,List.length_drop];omega
  have hLne:L≠[]:=fun e=>by rw[e]at hLl;simp at hLl;omega
  obtain⟨_,cs,Xs,us,hr,ho⟩:=c0u h.own hLne
  have hdrop:ks.drop i=ks[i]::ks.drop (i+1):=List.drop_eq_getElem_cons hlt
  generalize hk:ks[i]=k at hdrop
  have hmem:k∈ks:=hk▸List.getElem_mem hlt
  have hLi:L[i]? = some k:=by rw[hLe,hdrop,List.getElem?_append_right (by omega),hA,Nat.sub_self];rfl
  have hLs : ∀ k',L.set i k'=(A++[k'])++ks.drop (i+1):=fun k'=>by rw[hLe,hdrop,<- hA,c8l,List.append_assoc];rfl
  have hcs:ks.length*10<=cs.size:=by rw[hr.size];exact Nat.mul_le_mul_right 10 (by have:=hr.len;omega)
  have hBX:X B:=(hr.X B).2 (.inl rfl)
  have hne2:Bt≠B:=by have:=h.hBt;have:=(hXs B hBX).1;omega
  rw[hdrop,Zr,Nat.add_mul]at hci
  rw[hdrop,X4]at hst
  -- the call's premise,with either map
  have pre : ∀ (Mb:Nat) (mb ρ:List (Str×Str)) (w1:World),w1.heap=w.heap->KU mb ρ->Env3 Φi w Mb K Tk mb c tk->(Mb=M∨W0.heap.size<=Mb)->RenPre Φi w1 (Xs i) (us i) Mb K Tk mb ρ c tk k ((cs.toList.drop (i*10)).take 10):=by
   intro Mb mb ρ w1 hw1 hsame hE hMb
   have hmul:=Nat.mul_le_mul_right 10 (show i+1<=ks.length from hlt)
   have hXi : ∀ b,Xs i b->X b:=fun b hb=>(hr.X b).2 (.inr ⟨i,by omega,hb⟩)
   have hnode:=hr.node i k hLi
   have hkd:=hr.kid i (by omega)
   have hgx : ∀ q,q<10->((cs.toList.drop (i*10)).take 10)[q]? = cs[i*10+q]? :=fun q hq=>by rw[List.getElem?_take,if_pos hq,List.getElem?_drop,Array.getElem?_toList]
   refine⟨hL.mono h.le,fun b q hq=> ?_,by simp;omega,?_,?_,(hgx 9 (by omega)).trans hkd.1,(ho i k hLi).mono (.refl _) (fun b hb=>((ho i k hLi).out b hb).2.1) (fun b _=>by rw[hw1]),hE.mono (.refl _) ⟨hE.pM,hE.pK,hE.pT⟩ (by rw[hw1];exact⟨rfl,rfl,rfl⟩),fun b hb=> ?_,hsame,htk,by omega,hw k hmem⟩
   ·obtain⟨T',fz,hh⟩:=h.phi b q hq
    exact⟨T',fz,by rw[hw1];exact hh⟩
   ·intro v hv
    obtain⟨q,hq,rfl⟩:=List.getElem_of_mem hv
    have hq10:q<10:=by simp at hq;omega
    have hv':((cs.toList.drop (i*10)).take 10)[q]? = some ((cs.toList.drop (i*10)).take 10)[q]:=List.getElem?_eq_getElem hq
    rw[hgx q hq10]at hv'
    by_cases h9:q=9
    ·subst h9
     rw[hkd.1]at hv'
     rw[<- Option.some.inj hv']
     exact hkd.2
    ·obtain⟨p,hp⟩ : ∃ p,(nd9 k.n)[q]? = some p:=⟨_,List.getElem?_eq_getElem (show q<(nd9 k.n).length from by show q<9;omega)⟩
     obtain⟨v',r1,r2,r3⟩:=hnode q p hp
     rw[r1]at hv'
     rw[<- Option.some.inj hv']
     exact r2
   ·intro q p hp
    obtain⟨v',r1,r2,r3⟩:=hnode q p hp
    have hq:q<9:=(List.getElem?_eq_some_iff.1 hp).1
    refine⟨v',?_,r2,r3⟩
    rw[Nat.zero_add,List.getElem?_toArray,hgx q (by omega)]
    exact r1
   ·have:=hXs b (hXi b hb)
    refine⟨?_,this.2.2⟩
    rcases hMb with rfl|hMb
    ·exact this.2.1
    ·omega
  -- what is left behind either call
  have fin : ∀ (Mb:Nat) (mb ρ:List (Str×Str)) (Ls:List Nat) (a4:Act) (w4:World),(Mb=M∧mb=m∨Mb=Mi∧mb=mi)->ρ=(if i=0 then σ else τ)->SameT Ls a3 a4->(∀ t∈[1,2,3,6,9,50,51],t ∉ Ls)-> 
    (∃ e w2 vs,Ky Φi {w with drawn:=w.drawn+1} (Xs i) (us i) Mb K Tk mb ρ c tk k e w2∧e = .returned (.agg vs)∧w4=w2.setRow B (splice cs.toList (i*10) vs.toList).toArray) ->
    (Code.region 15 (nO 15) false).wp Tryz.prog (Exit.then (fun a' w'=> ∃ n_1,n_1<ks.length - i∧ ∃ (i:Nat) (Φi:Zv) (A L:List Tm) (c:Nat),n_1=ks.length - i∧i<=ks.length∧Φ.le Φi∧RnW W0 Φ0 X M K Tk m tk Mi mi Bt Br T Tr ct cr Φi (.slice (some ⟨B,0,none⟩) ks.length cap) L c w'∧L=A++ks.drop i∧A.length=i ∧
   X4 tk σ τ 0 c0 ks=(A++(X4 tk σ τ i c (ks.drop i)).1,(X4 tk σ τ i c (ks.drop i)).2)∧c+Zr (ks.drop i)*(tk.length+1)<=4611686018427387904∧a'.eval (.tmp 3) = .pointer (some ⟨Bt,0,none⟩)∧a'.eval (.tmp 6) = .pointer (some ⟨Br,0,none⟩)∧a'.eval (.tmp 1) = .map (some M)∧a'.eval (.tmp 2)=XQ K Tk∧a'.eval (.tmp 9) = .map (some Mi) ∧
   a'.eval (.tmp 50) = .int .i64 (ks.length:Int)∧a'.eval (.tmp 51) = .int .i64 (i:Int)∧a'.tmps.size=82∧a'.defers=[]) (Exit.inBlock 0 (Exit.then (((Code.region 16 (nO 16) false).seq .ret).wp Tryz.prog fun e a w=>e = .ret∧rnN Φ0 W0 X (.slice (some ⟨B,0,none⟩) ks.length cap) M K Tk m σ cc tk t a w) fun e a w=>e = .ret∧rnN Φ0 W0 X (.slice (some ⟨B,0,none⟩) ks.length cap) M K Tk m σ cc tk t a w))) a4 w4:=by
   intro Mb mb ρ Ls a4 w4 hMb hρ s4 hLs4 ⟨e,w2,vs,hpost,he,hw4⟩
   obtain⟨vs',Φ',rfl,q1,q2,q3,q4,q5,q6,q7,q8,q9,q10,q11,q12,q13,q14⟩:=hpost
   have hvv:vs=vs'.toArray:=by injection he with he;injection he with he;exact he.symm
   subst hvv hw4
   have ev : ∀ t,t∈[1,2,3,6,9,50,51]->a4.eval (.tmp t)=a.eval (.tmp t):=fun t ht=>(s4.eval (hLs4 t ht)).trans (s3.eval ((show ∀ t∈[1,2,3,6,9,50,51],t ∉ [52,53,10,54,55] by decide) t ht))
   have es4:a4.tmps.size=82:=by rw[s4.size];exact gs
   have hnx:=h.next hLl hXs hr ho (by omega) (w1:={w with drawn:=w.drawn+1}) rfl rfl rfl rfl hMb q1 q2 q3 q4 q5 q6 q7 q8 q9 q10 q11 q12 q13 q14
   have hc':=b4d tk ρ c k
   refine c6f (o:=nX 15 0) (o1:=nX 15 1) (t:=3) (t':=3) (d:=80) (x:=51) (by kernel_rfl) (by kernel_rfl) (by kernel_rfl) (by kernel_rfl) (by kernel_rfl) (by kernel_rfl) (by kernel_rfl) ((ev 51 (by decide)).trans e51) (by omega) ?_
   rw[next (show i<9223372036854775807 by omega)]
   refine⟨ks.length - (i+1),by omega,i+1,Φ',A++[(QB tk ρ c k).1],L.set i (QB tk ρ c k).1,(QB tk ρ c k).2,rfl,hlt,hle.trans q7,?_,hLs _,by simp[hA],?_,by omega,?_,?_,?_,?_,?_,?_,Zj (by simp[Act.put];omega),by simp[Act.put];omega,by show a4.defers=[];rw[s4.defers,s3.defers,ed]⟩
   ·simpa using hnx
   ·rw[hst,hρ]
    simp only[List.append_assoc,List.singleton_append]
   ·rw[Za (by decide),Za (by decide)];exact(ev 3 (by decide)).trans e3
   ·rw[Za (by decide),Za (by decide)];exact(ev 6 (by decide)).trans e6
   ·rw[Za (by decide),Za (by decide)];exact(ev 1 (by decide)).trans e1
   ·rw[Za (by decide),Za (by decide)];exact(ev 2 (by decide)).trans e2
   ·rw[Za (by decide),Za (by decide)];exact(ev 9 (by decide)).trans e9
   ·rw[Za (by decide),Za (by decide)];exact(ev 50 (by decide)).trans e50
  have hBtX : ¬ Xs i Bt:=fun hx=>by have:=(hXs Bt ((hr.X Bt).2 (.inr ⟨i,by omega,hx⟩))).1;have:=h.hBt;omega
  have hBtK:Bt≠K∧Bt≠Tk:=by have:=h.hM;have:=h.hBt;omega
  have nMb : ∀ (Mb:Nat) {mb:List (Str×Str)},(Mb=M∧mb=m∨Mb=Mi∧mb=mi)->Bt≠Mb∧B≠Mb:=by
   rintro Mb mb (⟨rfl,_⟩|⟨rfl,_⟩)
   ·exact⟨by have:=h.hM;have:=h.hBt;omega,(hXs B hBX).2.1⟩
   ·refine⟨h.neM.1,?_⟩
    rcases h.hMi with ⟨h5,_⟩|h5
    ·rw[h5];exact(hXs B hBX).2.1
    ·have:=(hXs B hBX).1;omega
  by_cases h0:i=0
  ·have h0':decide ((i:Int)=0)=true:=by simpa using h0
   refine wp_cond (t:=true) (by rw[g55,h0']) ?_
   refine wp_mono (raR (K:=fun a4 w4=>SameT [56,57,58,59,60,61,62,63,64,65,66,67] a3 a4∧ ∃ e w2 vs,Ky Φi {w with drawn:=w.drawn+1} (Xs i) (us i) M K Tk m σ c tk k e w2∧e = .returned (.agg vs)∧w4=w2.setRow B (splice cs.toList (i*10) vs.toList).toArray) (x1:=.map (some M)) (x2:=XQ K Tk) h.bt hkid hr.heap hne2 hlt hcs g3 g10 g1 g2 gs
    (ih k hmem Φi {w with drawn:=w.drawn+1} (Xs i) (us i) M m σ c _ (pre M m σ _ rfl hm h.env (.inl rfl))) ?_) ?_
   ·intro e w2 hpost
    have hpost':=hpost
    obtain⟨vs,Φ',rfl,q1,q2,q3,q4,q5,q6,q7,q8,q9,q10,q11⟩:=hpost'
    exact⟨vs,rfl,q1,q2,q10 Bt (Yi h.bt) hBtX (nMb M (.inl ⟨rfl,rfl⟩)).1 hBtK.1 hBtK.2,q10 B (Yi hr.heap) (hr.top i (by omega)) (nMb M (.inl ⟨rfl,rfl⟩)).2 (hXs B hBX).2.2.1 (hXs B hBX).2.2.2,fun a' hs'=>⟨hs',_,w2,_,hpost,rfl,rfl⟩⟩
   ·rintro e a4 w4 ⟨rfl,hs4,hex⟩
    exact fin M m σ _ a4 w4 (.inl ⟨rfl,rfl⟩) (by rw[if_pos h0]) hs4 (by decide) hex
  ·have h0':decide ((i:Int)=0)=false:=by simpa using h0
   refine wp_cond (t:=false) (by rw[g55,h0']) ?_
   refine wp_mono (rbR (K:=fun a4 w4=>SameT [68,69,70,71,72,73,74,75,76,77,78,79] a3 a4∧ ∃ e w2 vs,Ky Φi {w with drawn:=w.drawn+1} (Xs i) (us i) Mi K Tk mi τ c tk k e w2∧e = .returned (.agg vs)∧w4=w2.setRow B (splice cs.toList (i*10) vs.toList).toArray) (x9:=.map (some Mi)) (x2:=XQ K Tk) h.bt hkid hr.heap hne2 hlt hcs g3 g10 g9 g2 gs
    (ih k hmem Φi {w with drawn:=w.drawn+1} (Xs i) (us i) Mi mi τ c _ (pre Mi mi τ _ rfl hmi h.envI (h.hMi.imp (fun h=>h.1) id))) ?_) ?_
   ·intro e w2 hpost
    have hpost':=hpost
    obtain⟨vs,Φ',rfl,q1,q2,q3,q4,q5,q6,q7,q8,q9,q10,q11⟩:=hpost'
    exact⟨vs,rfl,q1,q2,q10 Bt (Yi h.bt) hBtX (nMb Mi (.inr ⟨rfl,rfl⟩)).1 hBtK.1 hBtK.2,q10 B (Yi hr.heap) (hr.top i (by omega)) (nMb Mi (.inr ⟨rfl,rfl⟩)).2 (hXs B hBX).2.2.1 (hXs B hBX).2.2.2,fun a' hs'=>⟨hs',_,w2,_,hpost,rfl,rfl⟩⟩
   ·rintro e a4 w4 ⟨rfl,hs4,hex⟩
    exact fin Mi mi τ _ a4 w4 (.inr ⟨rfl,rfl⟩) (by rw[if_neg h0]) hs4 (by decide) hex
 ·have hb:decide ((i:Int)<(ks.length:Int))=false:=by simpa using hlt
  rw[hb]at e52
  refine wp_seq (wp_cond (t:=false) e52 (wp_exit ?_))
  have hii:i=ks.length:=by omega
  subst hii
  rw[List.drop_length]at hst hLe
  rw[X4]at hst
  have g3:=(s1.eval (t:=3) (by decide)).trans e3
  have g6:=(s1.eval (t:=6) (by decide)).trans e6
  refine a3b g3 g6 (by rw[s1.size];exact es) (by rw[s1.defers];exact ed) h.bt h.br hct hcr ho1 ?_
  have oth : ∀ b,b≠Br->(w.setRow Br ct).heap[b]? = w.heap[b]? :=fun b hne'=>setRow_other w Br b _ hne'
  have hXB : ∀ b,X b->b≠Br:=fun b hb=>by have:=(hXs b hb).1;have:=h.hBr;omega
  rw[List.append_nil]at hLe
  subst hLe
  refine⟨ct.toList,Φi,by simp,by simpa using hct,ho1,?_,by simpa using hkid,?_,?_,h.le,?_,h.dom,?_,?_,?_,?_,?_⟩
  ·rw[hstd]
   simpa using hnd.mono hle
  ·rw[hstd,hst]
   show OwnK Φi _ X _ (L++[])
   rw[List.append_nil]
   exact h.own.mono (.refl _) (fun b hb=>(h.own.out b hb).2.1) fun b hb=>oth b (hXB b hb)
  ·rw[hstd,hst]
   have:=h.hM;have:=h.hBr
   exact h.env.mono (.refl _) ⟨h.env.pM,h.env.pK,h.env.pT⟩ ⟨oth _ (by omega),oth _ (by omega),oth _ (by omega)⟩
  ·intro b q hq
   obtain⟨T',fz,hh⟩:=h.phi b q hq
   have hneb:b≠Br:=fun e=>by rw[e,h.pBr]at hq;cases hq
   exact⟨T',fz,(oth b hneb).trans hh⟩
  ·intro b hb q1 q2 q3 q4
   have:=h.hBr
   exact(oth b (by omega)).trans (h.frame b hb q1 q2 q3 q4)
  ·rw[setRow_os];exact h.os
  ·rw[setRow_tape];exact h.tape
  ·rw[setRow_output];exact h.output
  ·rw[setRow_size];exact h.size
theorem c1c{W0:World}{Φ0:Zv}{X:Nat->Prop}{M K Tk:Nat}{m σ:List (Str×Str)}{tk:List Str}{Mi:Nat}{mi τ:List (Str×Str)}{Bt Br T Tr:Nat}{ct cr:Array Value}{Φ:Zv}{c0 cc cap:Nat}{p:Option Addr}{n':Nd}{t:Tm}{a:Act}{w:World}
  (hX : ∀ b,X b->b<W0.heap.size) (hstd:QB tk σ cc t=(.mk n' (X4 tk σ τ 0 c0 []).1,(X4 tk σ τ 0 c0 []).2)) (hct:ct.size=10) (hcr:cr.size=10) (ho1:ZW ct.toList) (hnd:X7 Φ ct 0 n') (hkid:ct[9]? = some (.slice p 0 cap))
  (h:RnW W0 Φ0 X M K Tk m tk Mi mi Bt Br T Tr ct cr Φ (.slice p 0 cap) [] c0 w) (h3:a.eval (.tmp 3) = .pointer (some ⟨Bt,0,none⟩)) (h6:a.eval (.tmp 6) = .pointer (some ⟨Br,0,none⟩)) (hs:a.tmps.size=82) (hd:a.defers=[]) :
  BM.wp Tryz.prog (fun e a w=>e = .ret∧rnN Φ0 W0 X (.slice p 0 cap) M K Tk m σ cc tk t a w) a w:=by
 unfold BM
 refine wp_seq (wp_seq (a1g (p:=p) (n:=0) (c:=cap) (o:=nX 9 0) (o1:=nX 9 1) (o2:=nX 9 2) (o3:=nX 9 3) (s:=28) (t:=26) (b:=3) (f:=7) (off:=9) (d1:=48) (d2:=49) (d3:=50) (d4:=51) (by kernel_rfl) (by kernel_rfl) (by kernel_rfl) (by kernel_rfl) (by kernel_rfl) (by kernel_rfl) (by kernel_rfl) (by kernel_rfl) (by kernel_rfl)
  (by kernel_rfl) (by kernel_rfl) (by kernel_rfl) (by kernel_rfl) (by kernel_rfl) (by kernel_rfl) (by kernel_rfl) h3 (by simp[World.cell?,h.bt,hkid]) (by omega) (by omega) ?_))
 generalize ha1:(((a.put (some 48) (.pointer (some ⟨Bt,9,none⟩))).put (some 49) (.slice p 0 cap)).put (some 50) (.int .i64 ((0:Nat):Int))).put (some 51) (.int .i64 0)=a1
 have s0:SameT [48,49,50,51] a a1:=by rw[<- ha1];exact((((SameT.refl _ _).put (by simp) _).put (by simp) _).put (by simp) _).put (by simp) _
 have e50:a1.eval (.tmp 50) = .int .i64 ((0:Nat):Int):=by rw[<- ha1,Za (by decide)];exact Zj (by simp[Act.put];omega)
 have e51:a1.eval (.tmp 51) = .int .i64 ((0:Nat):Int):=by rw[<- ha1];exact Zj (by simp[Act.put];omega)
 have e3:=(s0.eval (t:=3) (by decide)).trans h3
 have e6:=(s0.eval (t:=6) (by decide)).trans h6
 have es:a1.tmps.size=82:=by rw[s0.size];exact hs
 have ed:a1.defers=[]:=by rw[s0.defers];exact hd
 refine wp_block (wp_loop_ghost (fun(z:Nat) (a:Act) (w':World)=>a1=a∧w=w') 0 ⟨rfl,rfl⟩ ?_)
 rintro z _ _ ⟨rfl,rfl⟩
 unfold a0a
 refine wp_seq (a0r (o:=nX 10 0) (op:=.lss) (t:=3) (t':=3) (d:=52) (x:=.tmp 51) (y:=.tmp 50) (b:=decide (((0:Nat):Int)<((0:Nat):Int))) (by kernel_rfl) (by kernel_rfl) (by kernel_rfl) (by kernel_rfl) e51 e50 (.inl ⟨rfl,rfl⟩) ?_)
 refine wp_seq (wp_cond (t:=false) (Zj (by omega)) (wp_exit ?_))
 refine a3b (a:=_) ((Za (by decide)).trans e3) ((Za (by decide)).trans e6) (by simp[Act.put];omega) ed h.bt h.br hct hcr ho1 ?_
 have oth : ∀ b,b≠Br->(w.setRow Br ct).heap[b]? = w.heap[b]? :=fun b hne'=>setRow_other w Br b _ hne'
 rw[X4]at hstd
 refine⟨ct.toList,Φ,by simp,by simpa using hct,ho1,?_,by simpa using hkid,?_,?_,h.le,?_,h.dom,?_,?_,?_,?_,?_⟩
 ·rw[hstd]
  simpa using hnd
 ·rw[hstd]
  exact h.own.mono (.refl _) (fun b hb=>(h.own.out b hb).2.1) fun b hb=>oth b (by have:=hX b hb;have:=h.hBr;omega)
 ·rw[hstd]
  have:=h.hM;have:=h.hBr
  exact h.env.mono (.refl _) ⟨h.env.pM,h.env.pK,h.env.pT⟩ ⟨oth _ (by omega),oth _ (by omega),oth _ (by omega)⟩
 ·intro b q hq
  obtain⟨T',fz,hh⟩:=h.phi b q hq
  have hneb:b≠Br:=fun e=>by rw[e,h.pBr]at hq;cases hq
  exact⟨T',fz,(oth b hneb).trans hh⟩
 ·intro b hb q1 q2 q3 q4
  have:=h.hBr
  exact(oth b (by omega)).trans (h.frame b hb q1 q2 q3 q4)
 ·rw[setRow_os];exact h.os
 ·rw[setRow_tape];exact h.tape
 ·rw[setRow_output];exact h.output
 ·rw[setRow_size];exact h.size
theorem Rq{Φ:Zv}{v:Value}{k:IntKind}{n:Int}(h:RP Φ v (.int k n)):v = .int k n:=by cases h;rfl
theorem d1n{Φ:Zv}{v x:Value}(h:RP Φ v (.raw x)):v=x:=by cases h;rfl
theorem b8f{μ:Mu}{Φ:Zv}{v:Value}{l B C S:Nat}(h:R μ Φ v (.map l))(e:μ l 0=some (B,C,S)):v = .map (some B):=by
 cases h with
 | map _ B' C' S' h=>rw[e]at h;cases h;rfl
theorem DD{μ:Mu}{Φ:Zv}{v:Value}{l o B C S:Nat}(h:R μ Φ v (.ptr l o))(e:μ l 0=some (B,C,S)):v = .pointer (some ⟨B,o,none⟩):=by
 cases h with
 | ptr _ _ B' C' S' h=>rw[e]at h;cases h;rfl
theorem b6h{Φ:Zv}{w0:World}{X:Nat->Prop}{u:Value}{M K Tk:Nat}{m σ:List (Str×Str)}{c:Nat}{tk:List Str}{n:Nd}{ks:List Tm}{cs:List Value}(hp:RenPre Φ w0 X u M K Tk m σ c tk (.mk n ks) cs){v5 v6 v7 v8:Value}(hv5:cs[5]? = some v5)(hv6:cs[6]? = some v6)(hv7:cs[7]? = some v7)(hv8:cs[8]? = some v8)
  {s:Str} {m':List (Str×Str)} {c':Nat} {st:St} {a:Act} {w:World} (hR:urR n v5 v6 v7 v8 u m tk s m' c' 0 st) (hr:XI (ZU (μ3 M K Tk) Φ (Yv (os3 m c tk)) w0) st a w) :
  ∃ (Mi Bt Br T Tr:Nat) (ct cr:Array Value) (Φ1:Zv),RnW w0 Φ X M K Tk m tk Mi m' Bt Br T Tr ct cr Φ1 u ks c' w∧ct.size=10∧cr.size=10∧ZW ct.toList∧X7 Φ1 ct 0 (reN n s)∧ct[9]? = some u∧a.eval (.tmp 3) = .pointer (some ⟨Bt,0,none⟩)∧a.eval (.tmp 6) = .pointer (some ⟨Br,0,none⟩) ∧
   a.eval (.tmp 1) = .map (some M)∧a.eval (.tmp 2)=XQ K Tk∧a.eval (.tmp 9) = .map (some Mi)∧a.tmps.size=82∧a.defers=[]:=by
 obtain⟨_,b,rfl,hb⟩:=hR
 obtain⟨μ,Φ1,hg,he,hd⟩:=hr
 obtain⟨lM,lK,lT⟩:=hp.env.lt
 have n1:=hp.env.n1;have n2:=hp.env.n2;have n3:=hp.env.n3
 have hgσ:=hg
 generalize hσ:(b4h n v5 v6 v7 v8 u m tk s m' c' b).heap=σ' at hg
 have o0:σ'[0]? = some (.obj (.map (Ya m))):=by rw[<- hσ];rfl
 have o1:σ'[1]? = some (.obj (.box [.pv (.int .i64 (c':Int))])):=by rw[<- hσ];rfl
 have o2:σ'[2]? = some (.obj (.box [.pv (enc tk)])):=by rw[<- hσ];rfl
 have o3:σ'[3]? = some (.obj (.box (D5 (reN n s) v5 v6 v7 v8 u))):=by rw[<- hσ];rfl
 have o4 : ∃ z:List AV,z.length=10∧σ'[4]? = some (.obj (.box z)):=⟨_,rfl,by rw[<- hσ];rfl⟩
 obtain⟨z,hz,o4⟩:=o4
 have u0:μ 0 0=some (M,0,0):=hg.μle 0 0 _ rfl
 have u1:μ 1 0=some (K,0,0):=hg.μle 1 0 _ rfl
 have u2:μ 2 0=some (Tk,0,0):=hg.μle 2 0 _ rfl
 obtain⟨B0,_,_,mes,ck,x0,a1,a2,a3,a4,a5⟩:=hg.obj 0 _ o0
 rw[u0]at x0;cases x0
 obtain⟨B1,_,_,T1,k1,x1,b1,b2,b3,b4⟩:=hg.obj 1 _ o1
 rw[u1]at x1;cases x1
 obtain⟨B2,_,_,T2,k2,x2,c1,c2,c3,c4⟩:=hg.obj 2 _ o2
 rw[u2]at x2;cases x2
 obtain⟨Bt,C3,S3,T,ct,x3,d1,d2,d3,d4⟩:=hg.obj 3 _ o3
 obtain⟨Br,C4,S4,Tr,cr,x4,f1,f2,f3,f4⟩:=hg.obj 4 _ o4
 have q0:blk μ 0 (.map (Ya m))=M:=by simp[blk,u0]
 have q1:blk μ 1 (.box [.pv (.int .i64 (c':Int))])=K:=by simp[blk,u1]
 have q2:blk μ 2 (.box [.pv (enc tk)])=Tk:=by simp[blk,u2]
 have q3:blk μ 3 (.box (D5 (reN n s) v5 v6 v7 v8 u))=Bt:=by simp[blk,x3]
 have q4:blk μ 4 (.box z)=Br:=by simp[blk,x4]
 have hown : ∀ B,(ZU (μ3 M K Tk) Φ (Yv (os3 m c tk)) w0).own B ↔ B=M∨B=K∨B=Tk:=by
  intro B
  constructor
  ·rintro⟨l,o,ho,rfl⟩
   rcases RA ho with ⟨rfl,rfl⟩|⟨rfl,rfl⟩|⟨rfl,rfl⟩
   ·exact .inl rfl
   ·exact .inr (.inl rfl)
   ·exact .inr (.inr rfl)
  ·rintro(rfl|rfl|rfl)
   ·exact⟨0,_,rfl,rfl⟩
   ·exact⟨1,_,rfl,rfl⟩
   ·exact⟨2,_,rfl,rfl⟩
 have new : ∀ l o,3<=l->σ'[l]? = some (.obj o)->w0.heap.size<=blk μ l o:=by
  intro l o hl ho
  rcases hg.own l o ho with h|h
  ·exact h
  ·exfalso
   rcases (hown _).1 h with h|h|h
   ·exact hg.apart l 0 _ _ (by omega) ho o0 (h.trans q0.symm)
   ·exact hg.apart l 1 _ _ (by omega) ho o1 (h.trans q1.symm)
   ·exact hg.apart l 2 _ _ (by omega) ho o2 (h.trans q2.symm)
 have hBt:w0.heap.size<=Bt:=by have:=new 3 _ (by omega) o3;rwa [q3]at this
 have hBr:w0.heap.size<=Br:=by have:=new 4 _ (by omega) o4;rwa [q4]at this
 have hne:Bt≠Br:=by have:=hg.apart 3 4 _ _ (by decide) o3 o4;rwa [q3,q4]at this
 have fr : ∀ B,B<w0.heap.size->B≠M->B≠K->B≠Tk->w.heap[B]? = w0.heap[B]? :=fun B h1 h2 h3 h4=>hg.frame B h1 (fun h=>by rcases (hown B).1 h with h|h|h <;> contradiction)
 have hdom : ∀ B cs,Φ1 B=some cs->Φ B=some cs∨w0.heap.size<=B:=fun B cs h=>by
  rcases hg.dom B cs h with h1|h1|h1
  ·exact .inl h1
  ·exact .inr h1
  ·exfalso
   rcases (hown B).1 h1 with h2|h2|h2
   ·rw[h2,a4]at h;cases h
   ·rw[h2,b4]at h;cases h
   ·rw[h2,c4]at h;cases h
 have hXn : ∀ B,X B->Φ1 B=none:=fun B hB=>by
  have ho:=hp.own.out B hB
  cases hq:Φ1 B with
  | none=>rfl
  | some q=>
   rcases hdom B q hq with h|h
   ·rw[ho.2.1]at h;cases h
   ·omega
 have hk1:k1 = #[.int .i64 (c':Int)]:=by
  obtain⟨v,hv,hr⟩:=RL.getAt b2 (j:=0) rfl
  have hl:k1.size=1:=by have:=b2.1;simpa using this
  have:=Rq (ZR hr)
  subst this
  apply Array.ext
  ·simp[hl]
  ·intro i h1 h2
   have:i=0:=by omega
   subst this
   have hv:k1[0]? = some (.int .i64 (c':Int)):=by simpa using hv
   rw[Array.getElem?_eq_getElem h1]at hv
   simpa using hv
 obtain⟨tv,htv⟩ : ∃ tv,k2 = #[tv]∧RP Φ1 tv (enc tk)∧tv.oneCell'=true:=by
  obtain⟨v,hv,hr⟩:=RL.getAt c2 (j:=0) rfl
  have hl:k2.size=1:=by have:=c2.1;simpa using this
  refine⟨v,?_,ZR hr,c3 v (List.mem_of_getElem? hv)⟩
  apply Array.ext
  ·simp[hl]
  ·intro i h1 h2
   have:i=0:=by omega
   subst this
   have hv:k2[0]? = some v:=by simpa using hv
   rw[Array.getElem?_eq_getElem h1]at hv
   simpa using hv
 have env:Env3 Φ1 w M K Tk m c' tk:=⟨⟨mes,ck,a1,a2,a3,a5⟩,⟨T1,by rw[<- hk1];exact b1⟩,⟨tv,T2,by rw[<- htv.1];exact c1,htv.2⟩,a4,b4,c4,n1,n2,n3⟩
 obtain⟨e82,eat⟩:=BZ he
 have ev : ∀ (t:Nat) x,t<82->(((c6t (if b=true then 5 else 0)).find? (·.1==t)).map (·.2))=some x->R μ Φ1 (a.eval (.tmp t)) x:=fun t x ht hx=>by
  obtain⟨v,hv,hr⟩:=eat t x ht hx
  simpa [Act.eval,Array.getD_eq_getD_getElem?,hv]using hr
 obtain⟨Mi,hMi,hMv⟩ : ∃ Mi,(Env3 Φ1 w Mi K Tk m' c' tk∧((Mi=M∧m'=m)∨w0.heap.size<=Mi)∧Bt≠Mi∧Br≠Mi)∧a.eval (.tmp 9) = .map (some Mi):=by
  cases b with
  | false=>
   have:=hb rfl
   subst this
   exact⟨M,⟨env,.inl ⟨rfl,rfl⟩,by omega,by omega⟩,b8f (ev 9 (.map 0) (by decide) rfl) u0⟩
  | true=>
   have o5:σ'[5]? = some (.obj (.map (Ya m'))):=by rw[<- hσ];rfl
   obtain⟨B5,C5,S5,mes5,ck5,x5,g1,g2,g3,g4,g5⟩:=hg.obj 5 _ o5
   have q5:blk μ 5 (.map (Ya m'))=B5:=by simp[blk,x5]
   have h5:w0.heap.size<=B5:=by have:=new 5 _ (by omega) o5;rwa [q5]at this
   have h35:Bt≠B5:=by have:=hg.apart 3 5 _ _ (by decide) o3 o5;rwa [q3,q5]at this
   have h45:Br≠B5:=by have:=hg.apart 4 5 _ _ (by decide) o4 o5;rwa [q4,q5]at this
   exact⟨B5,⟨⟨⟨mes5,ck5,g1,g2,g3,g5⟩,env.num,env.tak,g4,b4,c4,by omega,by omega,n3⟩,.inr h5,h35,h45⟩,b8f (ev 9 (.map 5) (by decide) rfl) x5⟩
 have t2:a.eval (.tmp 2)=XQ K Tk:=by
  have h:=ev 2 (.fn 67 [] [.ptr 1 0,.ptr 2 0]) (by decide) rfl
  generalize a.eval (.tmp 2)=v at h
  cases h with
  | fn f cs ds xs ys hn hm h k=>
   have e1:cs = #[]:=by simpa using hn
   obtain⟨ds⟩:=ds
   match ds,hm,k with
   | [p,q],_,k=>
    have r1:=DD (k 0 p _ rfl rfl) u1
    have r2:=DD (k 1 q _ rfl rfl) u2
    subst r1 r2 e1
    rfl
 have hct:ct.size=10:=by have:=d2.1;simpa [D5]using this
 have hcr:cr.size=10:=by have:=f2.1;simpa [hz]using this
 have ctr : ∀ (i:Nat) x,(D5 (reN n s) v5 v6 v7 v8 u)[i]? = some x-> ∃ v,ct[i]? = some v∧v.oneCell'=true∧R μ Φ1 v x:=fun i x hx=>by
  obtain⟨v,hv,hr⟩:=RL.getAt d2 hx
  exact⟨v,by simpa using hv,d3 v (List.mem_of_getElem? hv),hr⟩
 have raw : ∀ (i:Nat) x,(D5 (reN n s) v5 v6 v7 v8 u)[i]? = some (.pv (.raw x))->ct[i]? = some x∧x.oneCell'=true:=fun i x hx=>by
  obtain⟨v,h1,h2,h3⟩:=ctr i _ hx
  have:=d1n (ZR h3)
  subst this
  exact⟨h1,h2⟩
 have hnd:X7 Φ1 ct 0 (reN n s):=by
  intro i p hpp
  have hi:i<9:=(List.getElem?_eq_some_iff.1 hpp).1
  rw[Nat.zero_add]
  have old : ∀ (q:Nat) x p,cs[q]? = some x->(nd9 n)[q]? = some p->(D5 (reN n s) v5 v6 v7 v8 u)[q]? = some (.pv (.raw x))-> ∃ v,ct[q]? = some v∧v.oneCell'=true∧RP Φ1 v p:=fun q x p hx hp' hu=>by
   obtain⟨v,r1,r2,r3⟩:=hp.nd q p hp'
   rw[Nat.zero_add,List.getElem?_toArray,hx]at r1
   cases r1
   exact⟨_,(raw q _ hu).1,r2,r3.mono hg.Φle⟩
  have lit : ∀ (q:Nat) p,(D5 (reN n s) v5 v6 v7 v8 u)[q]? = some (.pv p)-> ∃ v,ct[q]? = some v∧v.oneCell'=true∧RP Φ1 v p:=fun q p hu=>by
   obtain⟨v,r1,r2,r3⟩:=ctr q _ hu
   exact⟨v,r1,r2,ZR r3⟩
  match i,hi,hpp with
  | 0,_,hpp=>exact lit 0 p (by simp[nd9]at hpp;subst hpp;rfl)
  | 1,_,hpp=>exact lit 1 p (by simp[nd9]at hpp;subst hpp;rfl)
  | 2,_,hpp=>exact lit 2 p (by simp[nd9]at hpp;subst hpp;rfl)
  | 3,_,hpp=>exact lit 3 p (by simp[nd9]at hpp;subst hpp;rfl)
  | 4,_,hpp=>exact lit 4 p (by simp[nd9]at hpp;subst hpp;rfl)
  | 5,_,hpp=>exact old 5 v5 p hv5 hpp rfl
  | 6,_,hpp=>exact old 6 v6 p hv6 hpp rfl
  | 7,_,hpp=>exact old 7 v7 p hv7 hpp rfl
  | 8,_,hpp=>exact old 8 v8 p hv8 hpp rfl
 refine⟨Mi,Bt,Br,T,Tr,ct,cr,Φ1,⟨hg.Φle,hg.phi,hdom,fun B h1 _ h2 h3 h4=>fr B h1 h2 h3 h4,hg.os,hg.tape,hg.output,hg.size,env,hMi.1,⟨lM,lK,lT⟩,hMi.2.1,hBt,hBr,hne,hMi.2.2,d4,f4,d1,f1,?_⟩,hct,hcr,d3,hnd,(raw 9 u rfl).1,DD (ev 3 (.ptr 3 0) (by decide) (by cases b <;> rfl)) x3,DD (ev 6 (.ptr 4 0) (by decide) (by cases b <;> rfl)) x4,
  b8f (ev 1 (.map 0) (by decide) (by cases b <;> rfl)) u0,t2,hMv,e82,hd⟩
 exact hp.own.mono hg.Φle hXn fun B hB=>fr B (hp.own.out B hB).1 (hp.out B hB).1 (hp.out B hB).2.1 (hp.out B hB).2.2
set_option maxHeartbeats 1000000 in
theorem a5n(hU:Z0 Tryz.prog 67 X8 Um)(hC:Z0 Tryz.prog 92 Vu Uf)(K Tk:Nat)(tk:List Str): ∀ (z:Nat) (t:Tm),SizeOf.sizeOf t<z-> ∀ (Φ:Zv) (w:World) (X:Nat->Prop) (u:Value) (M:Nat) (m σ:List (Str×Str)) (c:Nat) (cs:List Value),RenPre Φ w X u M K Tk m σ c tk t cs ->
  Calls Tryz.prog 70 #[.agg cs.toArray,.map (some M),XQ K Tk] w (Ky Φ w X u M K Tk m σ c tk t):=by
 intro z
 induction z with
 | zero=>intro t h;omega
 | succ z ih=>
  intro t ht Φ w X u M m σ c cs hp
  obtain⟨n,ks⟩:=t
  have hlen:=hp.len
  have get : ∀ q,q<10-> ∃ v,cs[q]? = some v:=fun q hq=>⟨_,List.getElem?_eq_getElem (by omega)⟩
  obtain⟨v5,h5⟩:=get 5 (by omega)
  obtain⟨v6,h6⟩:=get 6 (by omega)
  obtain⟨v7,h7⟩:=get 7 (by omega)
  obtain⟨v8,h8⟩:=get 8 (by omega)
  have hcnt:=hp.cnt
  rw[Zt,Nat.add_mul,Nat.one_mul]at hcnt
  have hkl:=(Xu hp.small).1
  -- the kids' slice
  obtain⟨p,b,rfl,hpn⟩ : ∃ p b,u = .slice p ks.length b∧(ks≠[]-> ∃ B,p=some ⟨B,0,none⟩):=by
   have ho:=hp.own
   generalize hq:Tm.kids (.mk n ks)=L at ho
   have hq:ks=L:=hq
   subst hq
   cases ho with
   | nil=>exact⟨_,_,rfl,fun h=>absurd rfl h⟩
   | row _ B=>exact⟨_,_,rfl,fun _=>⟨B,rfl⟩⟩
  have hE:YE (μ3 M K Tk) Φ (#[.agg cs.toArray,.map (some M),XQ K Tk]++Array.replicate 79 undef) (Wq 82 [.pv (.agg [enc n.kind,enc n.line,enc n.name,enc n.num,enc n.elem,.raw v5,.raw v6,.raw v7,.raw v8,.raw (.slice p ks.length b)]),.map 0,.fn 67 [] [.ptr 1 0,.ptr 2 0]] (os3 m c tk)).env:=by
   show RL _ _ _ _
   rw[Array.toList_append,Array.toList_replicate]
   refine RL.append (RL.cons (.pv _ _ (.agg _ _ (by simp[hlen]) (fun v hv=>hp.ones v (by simpa using hv)) ?_)) (RL.cons (.map 0 M 0 0 rfl) (RL.cons (.fn _ _ _ _ _ rfl rfl (fun j v x hv hx=>by simp at hx) ?_) RL.nil))) (Yj _)
   ·intro j v x hv hx
    have hv:cs[j]? = some v:=by simpa using hv
    have h1:=hp.ones v (List.mem_of_getElem? hv)
    have lit : ∀ p,(nd9 n)[j]? = some p->RP Φ v p:=fun p hpp=>by
     obtain⟨v',r1,r2,r3⟩:=hp.nd j p hpp
     rw[Nat.zero_add,List.getElem?_toArray,hv]at r1
     rw[Option.some.inj r1]
     exact r3
    have hj:j<10:=(List.getElem?_eq_some_iff.1 hx).1
    match j,hj,hv,hx,lit with
    | 0,_,hv,hx,lit=>exact lit x hx
    | 1,_,hv,hx,lit=>exact lit x hx
    | 2,_,hv,hx,lit=>exact lit x hx
    | 3,_,hv,hx,lit=>exact lit x hx
    | 4,_,hv,hx,lit=>exact lit x hx
    | 5,_,hv,hx,_=>rw[h5]at hv;cases hv;cases hx;exact .raw _ h1
    | 6,_,hv,hx,_=>rw[h6]at hv;cases hv;cases hx;exact .raw _ h1
    | 7,_,hv,hx,_=>rw[h7]at hv;cases hv;cases hx;exact .raw _ h1
    | 8,_,hv,hx,_=>rw[h8]at hv;cases hv;cases hx;exact .raw _ h1
    | 9,_,hv,hx,_=>rw[hp.kid]at hv;cases hv;cases hx;exact .raw _ h1
   ·intro j v x hv hx
    match j,hv,hx with
    | 0,hv,hx=>cases hv;cases hx;exact .ptr 1 0 K 0 0 rfl
    | 1,hv,hx=>cases hv;cases hx;exact .ptr 2 0 Tk 0 0 rfl
    | j+2,hv,hx=>simp at hv
  have hic:Am Tryz.prog c6x Tryz.f70=some Vj:=by kernel_rfl
  obtain⟨cd,hb,htr⟩:=H6 hic
  refine calls_of_wp Tryz.func70 hb ?_
  have hT:ZX Tryz.prog QK:=Zo (Ve Tryz.func67 (by kernel_rfl) hU) (Zo (Ve Tryz.func92 (by kernel_rfl) hC) Zd)
  have hrun:=b9y (RR:=fun z S=>urR n v5 v6 v7 v8 (.slice p ks.length b) m tk (Pw n ks.length m tk c).1 (Pw n ks.length m tk c).2.1 (Pw n ks.length m tk c).2.2 0 S∧z=0) n v5 v6 v7 v8 p ks.length b m c tk hp.tkl (by have:=hp.tkl;omega) (fun S h=>⟨h,rfl⟩)
  have h:=BO (a:={tmps:=#[.agg cs.toArray,.map (some M),XQ K Tk]++Array.replicate 79 undef,defers:=[]}) (N:=rnN Φ w X (.slice p ks.length b) M K Tk m σ c tk (.mk n ks)) hT (by kernel_rfl) htr hrun (hp.env.good hp.glob hp.phi) hE rfl (fun i cd hx st' a' w' hR hr=>by
   obtain⟨hR,rfl⟩:=hR
   rw[c4a]at hx
   cases hx
   obtain⟨Mi,Bt,Br,T,Tr,ct,cr,Φ1,r0,r1,r2,r3,r4,r5,r6,r7,r8,r9,r10,r11,r12⟩:=b6h hp h5 h6 h7 h8 hR hr
   have hstd:=a3g (n:=n) (ks:=ks) (tk:=tk) (c:=c) hp.same
   have hle:= @b6y n ks.length m tk c
   by_cases hk:ks=[]
   ·subst hk
    exact c1c (τ:=urT n ([]:List Tm).length σ tk c) (fun B hB=>(hp.own.out B hB).1) hstd r1 r2 r3 r4 r5 r0 r6 r7 r11 r12
   ·obtain⟨B,rfl⟩:=hpn hk
    exact c2z (τ:=urT n ks.length σ tk c) hk (by omega) (Xu hp.small).2 hp.glob hp.tkl (fun B hB=>⟨(hp.own.out B hB).1,hp.out B hB⟩) hp.same (b8w hp.same) (fun k hk Φ w X u M m σ c cs hp'=>ih k (by have:=EN (n:=n) hk;omega) Φ w X u M m σ c cs hp') hstd (by omega) r1 r2 r3 r4 r5 r0 r6 r7 r8 r9 r10 r11 r12)
  exact wp_mono h fun e a w h=>by obtain⟨rfl,h⟩:=h;exact h
end Go.Proofs.YtgdebdgkofkeeaaGreatDoor
namespace Go.Proofs.YtgdebdgkofkeeaaGreatDoor
open Go.RowKit Go.Pl
open Enc (enc dec is)
open EncL (encL decL isL)
set_option maxRecDepth 100000
theorem b5v{P:Program}{f:Nat}{α β:Type}[EncL α][Enc β]{pre:α->Bool}{F:α->β}(h : ∀ a,pre a=true-> ∀ (Φ:Zv) w (vs:Array Value),GlobOK Φ->Ye Φ w->Xy Φ vs.toList (encL a) ->
  Calls P f vs w fun e w'=> ∃ v Φ',e = .returned v∧Zv.le Φ Φ'∧Ye Φ' w'∧RP Φ' v (enc (F a))∧Below w.heap.size w w'∧ ∀ b cs,Φ' b=some cs->Φ b=some cs∨w.heap.size<=b):Zm P f pre F:=by
 intro ps hps Φ w vs hL hΦ hv
 simp only[preT,Bool.and_eq_true]at hps
 have hsub:=EncL.subL ps hps.1
 refine(h (decL ps) hps.2 Φ w vs hL hΦ ⟨hv.1.trans hsub.1,fun j v x hv' hx=> ?_⟩).mono fun e w' h=>h
 have hj:j<ps.length:=by rw[hsub.1];exact(List.getElem?_eq_some_iff.1 hx).1
 exact hsub.2 j _ _ (List.getElem?_eq_getElem hj) hx _ _ (hv.2 j v _ hv' (List.getElem?_eq_getElem hj))
theorem c1u{Φ:Zv}{vs:List Value}{n:Nd}{ks:List Tm}{u:Value}(hl:vs.length=10)(h1:ZW vs)(hn:X7 Φ vs.toArray 0 n)(hu:vs[9]? = some u)(hk:RP Φ u (enc ks)):RP Φ (.agg vs.toArray) (enc (Tm.mk n ks)):=by
 rw[ZE]
 refine .agg _ _ (by simp[hl]) (fun v hv=>h1 v (by simpa using hv)) fun j v x hv hx=> ?_
 have hv:vs[j]? = some v:=by simpa using hv
 have hj:j<10:=(List.getElem?_eq_some_iff.1 hx).1
 by_cases h9:j=9
 ·subst h9
  rw[hu]at hv
  cases hv
  cases hx
  exact hk
 ·obtain⟨v',r1,r2,r3⟩:=hn j x (by
   match j,hj,h9,hx with
   | 0,_,_,hx|1,_,_,hx|2,_,_,hx|3,_,_,hx|4,_,_,hx|5,_,_,hx|6,_,_,hx|7,_,_,hx|8,_,_,hx=>exact hx
   | 9,_,h9,_=>exact absurd rfl h9)
  rw[Nat.zero_add,List.getElem?_toArray,hv]at r1
  rw[Option.some.inj r1]
  exact r3
theorem a8v(l:List Str):(QO l).length<=l.length:=by
 unfold QO Xd
 rw[List.length_map,List.length_mergeSort,List.length_map]
 have:=GV l []
 have e:WX l=l.foldl Xi []:=rfl
 rw[e]
 simpa using this
theorem a6r(t:Tm):(Ww t).length<=Zt t:=Nat.le_trans (a8v _) (Gc [] t)
noncomputable def sdB:Code:=Tryz.f30.body.getD .skip
noncomputable def sO(i:Nat):Array Oper:=Q6 sdB i
noncomputable def sX(i k:Nat):Oper:=(sO i).getD k default
def c7t:Code->Bool
 | .seq (.region 4 _ _) .ret=>true
 | _=>false
noncomputable def Ee:Code:=(Code.region 4 (sO 4) false).seq .ret
theorem c3d:WR Tryz.prog c7t Tryz.f30 0=some Ee:=by kernel_rfl
def d2n(Φ:Zv)(w:World)(t:Tm)(e:Ending)(w':World):Prop:= ∃ v Φ',e = .returned v∧Φ.le Φ'∧Ye Φ' w'∧RP Φ' v (enc t)∧Below w.heap.size w w'∧ ∀ b cs,Φ' b=some cs->Φ b=some cs∨w.heap.size<=b
abbrev sdN(Φ:Zv)(w:World)(t:Tm):Act->World->Prop:=bodyPost Tryz.prog Tryz.f30 (d2n Φ w t) .ret
def sdR(n:Nd)(ks:List Tm)(m:Nat)(S:St):Prop:=m=0∧S=⟨ZK 14 0 [(1,(.ptr 0 0)),(2,(.ptr 1 0)),(5,(.fn 67 [] [(.ptr 2 0),(.ptr 3 0)])),(9,.undef),(10,.undef),(11,.undef),(12,.undef),(13,.undef)],
 [(.obj (.box (Ym n ks))),(.obj (.box cpZ)),(.obj (.box [(.pv (.int .i64 0))])),(.obj (.box [(.pv (enc (Ww (.mk n ks))))]))]⟩
structure SdW (W0:World) (Φ0:Zv) (t:Tm) (tk:List Str) (Bt Br K Tk T Tr TK TT:Nat) (ct cr:Array Value) (tv:Value) (Φ:Zv) (w:World):Prop where
 le:Φ0.le Φ
 phi:Ye Φ w
 dom : ∀ b cs,Φ b=some cs->Φ0 b=some cs∨W0.heap.size<=b
 below:Below W0.heap.size W0 w
 hB:W0.heap.size<=Bt∧W0.heap.size<=Br∧W0.heap.size<=K∧W0.heap.size<=Tk
 ne:Br≠K∧Br≠Tk∧K≠Tk
 pn:Φ Br=none∧Φ K=none∧Φ Tk=none
 bt:w.heap[Bt]? = some (.cells ct T (0,0))
 cts:ct.size=10
 rp:RP Φ (.agg ct) (enc t)
 br:w.heap[Br]? = some (.cells cr Tr (0,0))
 crs:cr.size=10
 num:w.heap[K]? = some (.cells #[.int .i64 0] TK (0,0))
 tak:w.heap[Tk]? = some (.cells #[tv] TT (0,0))∧RP Φ tv (enc tk)∧tv.oneCell'=true
theorem Ta{Φ:Zv}{μ:Mu}{cs:Array Value}{x:AV}(h:RL μ Φ cs.toList [x]): ∃ v,cs = #[v]∧R μ Φ v x:=by
 obtain⟨l⟩:=cs
 match l,h.1 with
 | [v],_=>exact⟨v,rfl,h.2 0 v x rfl rfl⟩
theorem b7n{Φ0:Zv}{W0:World}{n:Nd}{ks:List Tm}{st:St}{a:Act}{w:World}(hR:sdR n ks 0 st)(hr:XI (ZU (fun _ _=>none) Φ0 [] W0) st a w):
  ∃ (Bt Br K Tk T Tr TK TT:Nat) (ct cr:Array Value) (tv:Value) (Φ:Zv),SdW W0 Φ0 (.mk n ks) (Ww (.mk n ks)) Bt Br K Tk T Tr TK TT ct cr tv Φ w∧a.eval (.tmp 1) = .pointer (some ⟨Bt,0,none⟩)∧a.eval (.tmp 2) = .pointer (some ⟨Br,0,none⟩)∧a.eval (.tmp 5)=XQ K Tk∧a.tmps.size=14∧a.defers=[]:=by
 obtain⟨_,rfl⟩:=hR
 obtain⟨μ,Φ,hg,he,hd⟩:=hr
 obtain⟨g1,g2,g3⟩:=DV hg
 obtain⟨Bt,C0,S0,T,ct,m0,b1,b2,b3,b4⟩:=hg.obj 0 _ rfl
 obtain⟨Br,C1,S1,Tr,cr,m1,c1,c2,c3,c4⟩:=hg.obj 1 _ rfl
 obtain⟨K,C2,S2,TK,ck,m2,d1,d2,d3,d4⟩:=hg.obj 2 _ rfl
 obtain⟨Tk,C3,S3,TT,cv,m3,f1,f2,f3,f4⟩:=hg.obj 3 _ rfl
 obtain⟨v2,rfl,hv2⟩:=Ta d2
 obtain⟨tv,rfl,htv⟩:=Ta f2
 have:=Rq (ZR hv2)
 subst this
 have k0:blk μ 0 (.box (Ym n ks))=Bt:=by simp[blk,m0]
 have k1:blk μ 1 (.box cpZ)=Br:=by simp[blk,m1]
 have k2:blk μ 2 (.box [(.pv (.int .i64 0))])=K:=by simp[blk,m2]
 have k3:blk μ 3 (.box [(.pv (enc (Ww (.mk n ks))))])=Tk:=by simp[blk,m3]
 have h0:W0.heap.size<=Bt:=by have:=g3 0 _ rfl;rwa [k0]at this
 have h1:W0.heap.size<=Br:=by have:=g3 1 _ rfl;rwa [k1]at this
 have h2:W0.heap.size<=K:=by have:=g3 2 _ rfl;rwa [k2]at this
 have h3:W0.heap.size<=Tk:=by have:=g3 3 _ rfl;rwa [k3]at this
 have n12:Br≠K:=by have:=hg.apart 1 2 _ _ (by decide) rfl rfl;rwa [k1,k2]at this
 have n13:Br≠Tk:=by have:=hg.apart 1 3 _ _ (by decide) rfl rfl;rwa [k1,k3]at this
 have n23:K≠Tk:=by have:=hg.apart 2 3 _ _ (by decide) rfl rfl;rwa [k2,k3]at this
 have hct:ct.size=10:=by have:=b2.1;simpa [Ym]using this
 have hcr:cr.size=10:=by have:=c2.1;simpa [cpZ]using this
 obtain⟨e14,eat⟩:=BZ he
 have ev : ∀ (t:Nat) x,t<14->(([(1,(AV.ptr 0 0)),(2,(.ptr 1 0)),(5,(.fn 67 [] [(.ptr 2 0),(.ptr 3 0)])),(9,.undef),(10,.undef),(11,.undef),(12,.undef),(13,.undef)].find? (·.1==t)).map (·.2))=some x->R μ Φ (a.eval (.tmp t)) x:=fun t x ht hx=>by
  obtain⟨v,hv,hr⟩:=eat t x ht hx
  simpa [Act.eval,Array.getD_eq_getD_getElem?,hv]using hr
 have t5:a.eval (.tmp 5)=XQ K Tk:=by
  have h:=ev 5 _ (by decide) rfl
  generalize a.eval (.tmp 5)=v at h
  cases h with
  | fn f cs ds xs ys hn hm h k=>
   have e1:cs = #[]:=by simpa using hn
   obtain⟨ds⟩:=ds
   match ds,hm,k with
   | [p,q],_,k=>
    have r1:=DD (k 0 p _ rfl rfl) m2
    have r2:=DD (k 1 q _ rfl rfl) m3
    subst r1 r2 e1
    rfl
 refine⟨Bt,Br,K,Tk,T,Tr,TK,TT,ct,cr,tv,Φ,⟨hg.Φle,hg.phi,g2,g1,⟨h0,h1,h2,h3⟩,⟨n12,n13,n23⟩,⟨c4,d4,f4⟩,b1,hct,?_,c1,hcr,d1,f1,ZR htv,f3 tv (by simp)⟩,DD (ev 1 _ (by decide) rfl) m0,DD (ev 2 _ (by decide) rfl) m1,t5,e14,hd⟩
 rw[ZE]
 refine .agg _ _ (by simpa using hct) (fun v hv=>b3 v (by simpa using hv)) fun j v x hv hx=> ?_
 refine ZR (b2.2 j v (.pv x) (by simpa using hv) ?_)
 show(List.map AV.pv [enc n.kind,enc n.line,enc n.name,enc n.num,enc n.elem,enc n.dims,enc n.data,enc n.sizes,enc n.ranks,enc ks])[j]? = _
 rw[List.getElem?_map,hx]
 rfl
theorem Jq(w:World)(o:Obj)(b:Nat):b<w.heap.size->(w.alloc o).heap[b]? = w.heap[b]? :=Xq w o b
set_option maxHeartbeats 1000000 in
theorem c4c{W0:World}{Φ0:Zv}{t:Tm}{Bt Br K Tk T Tr TK TT:Nat}{ct cr:Array Value}{tv:Value}{Φ:Zv}{a:Act}{w:World}(hU:Z0 Tryz.prog 67 X8 Um)(hC:Z0 Tryz.prog 92 Vu Uf)(hL:GlobOK Φ0)(hw:tW t=true)
  (h:SdW W0 Φ0 t (Ww t) Bt Br K Tk T Tr TK TT ct cr tv Φ w) (h1:a.eval (.tmp 1) = .pointer (some ⟨Bt,0,none⟩)) (h2:a.eval (.tmp 2) = .pointer (some ⟨Br,0,none⟩)) (h5:a.eval (.tmp 5)=XQ K Tk) (hs:a.tmps.size=14) (hd:a.defers=[]) :
  Ee.wp Tryz.prog (fun e a w=>e = .ret∧sdN Φ0 W0 (Xm t) a w) a w:=by
 unfold Ee
 have lBt:=Yi h.bt
 have lBr:=Yi h.br
 have lK:=Yi h.num
 have lT:=Yi h.tak.1
 obtain⟨b1,b2,b3,b4⟩:=h.hB
 obtain⟨n1,n2,n3⟩:=h.ne
 obtain⟨p1,p2,p3⟩:=h.pn
 have hW:=h.below.size
 refine wp_seq (Ua (l:=[sX 4 0,sX 4 1,sX 4 2,sX 4 3,sX 4 4,sX 4 5]) (by kernel_rfl) ?_)
 have hc:Y0 w Bt 0 ct.toList:=by
  have:=ZJ h.bt 0 10
  rwa [List.drop_zero,List.take_of_length_le (by simp[h.cts])]at this
 refine Us (by kernel_rfl) (b2e (t:=28) (sz:=10) (x:=1) (by kernel_rfl) (by kernel_rfl) (by simp[h.cts]) h1 hc) ?_
 rw[show(sX 4 0).dst=some 9 from by kernel_rfl]
 have s1:SameT [9] a (a.put (some 9) (.agg ct.toList.toArray)):=(SameT.refl _ _).put (by simp) _
 have e9:(a.put (some 9) (.agg ct.toList.toArray)).eval (.tmp 9) = .agg ct.toList.toArray:=Zj (by omega)
 generalize a.put (some 9) (.agg ct.toList.toArray)=a1 at s1 e9 ⊢
 refine b1k (f:=71) (xs:=#[.tmp 9]) (ts:=#[28]) (vs:=#[.agg ct.toList.toArray]) (by kernel_rfl) (by kernel_rfl) Tryz.func71 (by kernel_rfl) (by kernel_rfl) (by simp only[List.map_toArray,List.map_cons,List.map_nil,e9])
  (a5o (SizeOf.sizeOf t+1) t (Nat.lt_succ_self _) hw Φ w _ (hL.mono h.le) h.phi (by simpa using h.rp)) ?_
 rintro e w2 ⟨vs,Φ2,X,u,rfl,q1,q2,q3,q4,q5,q6,q7,q8,q9,q10⟩
 refine⟨_,rfl,?_⟩
 rw[show(sX 4 1).dst=some 10 from by kernel_rfl]
 have s2:SameT [9,10] a (a1.put (some 10) (.agg vs.toArray)):=by
  have s1':SameT [9,10] a a1:=⟨s1.size,s1.defers,fun t ht=>s1.tmp t (by simp at ht ⊢;omega)⟩
  exact s1'.put (by simp) _
 have e10:(a1.put (some 10) (.agg vs.toArray)).eval (.tmp 10) = .agg vs.toArray:=Zj (by rw[s1.size];omega)
 generalize a1.put (some 10) (.agg vs.toArray)=a2 at s2 e10 ⊢
 refine c8j (w':=w2.alloc (.map #[] 0)) (by kernel_rfl) (a9y (t:=80) (by kernel_rfl)) ?_
 rw[show(sX 4 2).dst=some 11 from by kernel_rfl]
 have s3:SameT [9,10,11] a (a2.put (some 11) (.map (some w2.heap.size))):=by
  have s2':SameT [9,10,11] a a2:=⟨s2.size,s2.defers,fun t ht=>s2.tmp t (by simp at ht ⊢;omega)⟩
  exact s2'.put (by simp) _
 have f11:(a2.put (some 11) (.map (some w2.heap.size))).eval (.tmp 11) = .map (some w2.heap.size):=Zj (by rw[s2.size];omega)
 have f10:(a2.put (some 11) (.map (some w2.heap.size))).eval (.tmp 10) = .agg vs.toArray:=(Za (by decide)).trans e10
 generalize a2.put (some 11) (.map (some w2.heap.size))=a3 at s3 f11 f10 ⊢
 refine Us (v:=XQ K Tk) (by kernel_rfl) (Rm (x:=.tmp 5) (.inl (by kernel_rfl)) ((s3.eval (by decide)).trans h5)) ?_
 rw[show(sX 4 3).dst=some 12 from by kernel_rfl]
 have s4:SameT [9,10,11,12] a (a3.put (some 12) (XQ K Tk)):=by
  have s3':SameT [9,10,11,12] a a3:=⟨s3.size,s3.defers,fun t ht=>s3.tmp t (by simp at ht ⊢;omega)⟩
  exact s3'.put (by simp) _
 have g12:(a3.put (some 12) (XQ K Tk)).eval (.tmp 12)=XQ K Tk:=Zj (by rw[s3.size];omega)
 have g11:(a3.put (some 12) (XQ K Tk)).eval (.tmp 11) = .map (some w2.heap.size):=(Za (by decide)).trans f11
 have g10:(a3.put (some 12) (XQ K Tk)).eval (.tmp 10) = .agg vs.toArray:=(Za (by decide)).trans f10
 generalize a3.put (some 12) (XQ K Tk)=a4 at s4 g12 g11 g10 ⊢
 -- the premise of rename
 have hsz2:w.heap.size<=w2.heap.size:=q8.size
 have old : ∀ b,b<w.heap.size->(w2.alloc (.map #[] 0)).heap[b]? = w.heap[b]? :=fun b hb=>(Jq w2 _ b (by omega)).trans (q8.block b hb)
 have none2 : ∀ b,b<w.heap.size->Φ b=none->Φ2 b=none:=fun b hb hn=>by
  cases hq:Φ2 b with
  | none=>rfl
  | some q=>
   rcases q9 b q hq with h1|h1
   ·rw[hn]at h1;cases h1
   ·omega
 have noneM:Φ2 w2.heap.size=none:=by
  cases hq:Φ2 w2.heap.size with
  | none=>rfl
  | some q=>obtain⟨_,_,hh⟩:=q7 _ q hq;have:=Yi hh;omega
 have hXlt : ∀ b,X b->w.heap.size<=b∧b<w2.heap.size:=fun b hb=>⟨q10 b hb,(q5.out b hb).1⟩
 have hsz:=Cu hw
 have hfl:=a6r t
 have pre:RenPre Φ2 (w2.alloc (.map #[] 0)) X u w2.heap.size K Tk [] [] 0 (Ww t) t vs:=by
  refine⟨(hL.mono h.le).mono q6,fun b q hq=> ?_,q1,q2,q3,q4,q5.mono (.refl _) (fun b hb=>(q5.out b hb).2.1) (fun b hb=>Jq w2 _ b (q5.out b hb).1),⟨⟨#[],0,Xp w2 _,rfl,fun j e p he=>by simp at he,fun x hx=>by simp at hx,by simp⟩,⟨TK,(old K lK).trans h.num⟩,⟨tv,TT,(old Tk lT).trans h.tak.1,h.tak.2.1.mono q6,h.tak.2.2⟩,noneM,none2 K lK p2,none2 Tk lT p3,by omega,by omega,n3⟩,
   fun b hb=>by have:=hXlt b hb;omega,fun _=>rfl,by omega,?_,hw⟩
  ·obtain⟨T',fz,hh⟩:=q7 b q hq
   exact⟨T',fz,(Jq w2 _ b (Yi hh)).trans hh⟩
  ·have:=Nat.mul_le_mul hsz (show(Ww t).length+1<=1048577 by omega)
   omega
 refine b1k (f:=70) (xs:=#[.tmp 10,.tmp 11,.tmp 12]) (ts:=#[28,80,78]) (vs:=#[.agg vs.toArray,.map (some w2.heap.size),XQ K Tk]) (by kernel_rfl) (by kernel_rfl) Tryz.func70 (by kernel_rfl) (by kernel_rfl) (by simp only[List.map_toArray,List.map_cons,List.map_nil,g10,g11,g12])
  (a5n hU hC K Tk (Ww t) (SizeOf.sizeOf t+1) t (Nat.lt_succ_self _) Φ2 _ X u _ [] [] 0 vs pre) ?_
 rintro e w3 ⟨vs',Φ3,rfl,r1,r2,r3,r4,r5,r6,r7,r8,r9,r10,r11,r12,r13,r14⟩
 refine⟨_,rfl,?_⟩
 rw[show(sX 4 4).dst=some 13 from by kernel_rfl]
 have k2:(a4.put (some 13) (.agg vs'.toArray)).eval (.tmp 2) = .pointer (some ⟨Br,0,none⟩):=(Za (by decide)).trans ((s4.eval (by decide)).trans h2)
 have k13:(a4.put (some 13) (.agg vs'.toArray)).eval (.tmp 13) = .agg vs'.toArray:=Zj (by rw[s4.size];omega)
 have ksz:(a4.put (some 13) (.agg vs'.toArray)).tmps.size=14:=by simp[Act.put,s4.size,hs]
 have kd:(a4.put (some 13) (.agg vs'.toArray)).defers=[]:=by show a4.defers=[];rw[s4.defers,hd]
 generalize a4.put (some 13) (.agg vs'.toArray)=a5 at k2 k13 ksz kd ⊢
 have asz:(w2.alloc (.map #[] 0)).heap.size=w2.heap.size+1:=by simp
 have old3 : ∀ b,b<w.heap.size->b≠K->b≠Tk->w3.heap[b]? = w.heap[b]? :=fun b hb h1 h2=>(r10 b (by omega) (fun hx=>by have:=hXlt b hx;omega) (by omega) h1 h2).trans (old b hb)
 have none3 : ∀ b,b<w.heap.size->Φ b=none->Φ3 b=none:=fun b hb hn=>by
  cases hq:Φ3 b with
  | none=>rfl
  | some q=>
   rcases r9 b q hq with h1|h1
   ·rw[none2 b hb hn]at h1;cases h1
   ·omega
 have hbr:w3.heap[Br]? = some (.cells cr Tr (0,0)):=(old3 Br lBr n1 n2).trans h.br
 have esp:(splice cr.toList 0 vs').toArray=vs'.toArray:=by
  unfold splice
  rw[List.take_zero,List.nil_append,Nat.zero_add,List.drop_of_length_le (by simp[h.crs,r1]),List.append_nil]
 refine b4a (by kernel_rfl) (by kernel_rfl) (c6i (t:=28) (x:=2) (y:=13) (sz:=10) (by kernel_rfl) (by kernel_rfl) r1 k2 k13 hbr (by rw[h.crs];decide) r2) ?_
 rw[esp]
 have oth : ∀ b,b≠Br->(w3.setRow Br vs'.toArray).heap[b]? = w3.heap[b]? :=fun b hne=>setRow_other w3 Br b _ hne
 refine wp_ret ⟨rfl,kd,_,Ai (b:=2) (t:=28) (Br:=Br) (sz:=10) (T:=Tr) (z:=(0,0)) (by kernel_rfl) k2 (by kernel_rfl) (setRow_heap w3 Br cr _ Tr (0,0) hbr) (by simpa using r1),?_⟩
 have own5:OwnK Φ3 (w3.setRow Br vs'.toArray) X u (QB (Ww t) [] 0 t).1.kids:=r5.mono (.refl _) (fun b hb=>(r5.out b hb).2.1) fun b hb=>oth b (by have:=hXlt b hb;omega)
 have phi5:Ye Φ3 (w3.setRow Br vs'.toArray):=fun b q hq=>by
  obtain⟨T',fz,hh⟩:=r8 b q hq
  have hneb:b≠Br:=fun e=>by rw[e,none3 Br lBr p1]at hq;cases hq
  exact⟨T',fz,(oth b hneb).trans hh⟩
 obtain⟨Φ4,f1,f2,f3,f4⟩:=own5.freeze phi5
 have hst:Xm t = .mk (QB (Ww t) [] 0 t).1.n (QB (Ww t) [] 0 t).1.kids:=by unfold Xm;cases (QB (Ww t) [] 0 t).1;rfl
 refine⟨_,Φ4,rfl,h.le.trans (q6.trans (r7.trans f1)),f2,by rw[hst];exact c1u r1 r2 (r3.mono f1) r4 f4,?_,fun b cs hb=> ?_⟩
 ·refine⟨?_,?_,?_,?_,fun b hb=> ?_⟩
  ·rw[setRow_os];exact r11.trans (q8.os.trans h.below.os)
  ·rw[setRow_tape];exact r12.trans (q8.tape.trans h.below.tape)
  ·rw[setRow_output];exact r13.trans (q8.output.trans h.below.output)
  ·rw[setRow_size];omega
  ·exact(oth b (by omega)).trans ((old3 b (by omega) (by omega) (by omega)).trans (h.below.block b hb))
 ·rcases f3 b cs hb with h6|h6
  ·rcases r9 b cs h6 with h7|h7
   ·rcases q9 b cs h7 with h8|h8
    ·exact h.dom b cs h8
    ·exact .inr (by omega)
   ·exact .inr (by omega)
  ·have:=hXlt b h6
   exact .inr (by omega)
theorem FK(hU:Z0 Tryz.prog 67 X8 Um)(hC:Z0 Tryz.prog 92 Vu Uf)(hF:Zm Tryz.prog 20 (fun x:Tm×Unit=>tW x.1) (fun x:Tm×Unit=>Ww x.1)):
  Zm Tryz.prog 30 (fun x:Tm×Unit=>tW x.1) (fun x:Tm×Unit=>Xm x.1):=b5v (by
 rintro⟨t,⟨⟩⟩ hw Φ w vs hL hp hv
 obtain⟨v,rfl,hv'⟩:=d0w hv
 obtain⟨n,ks⟩:=t
 have hic:Am Tryz.prog c7t Tryz.f30=some EI:=by kernel_rfl
 obtain⟨cd,hb,htr⟩:=H6 hic
 refine calls_of_wp Tryz.func30 hb ?_
 have hT:ZX Tryz.prog b0l:=Zo (Ve Tryz.func20 (by kernel_rfl) hF) Zd
 have hv2:RP Φ v (.agg [enc n.kind,enc n.line,enc n.name,enc n.num,enc n.elem,enc n.dims,enc n.data,enc n.sizes,enc n.ranks,enc ks]):=by rw[<- ZE];exact hv'
 have hE:YE (fun _ _=>none) Φ (#[v]++Array.replicate 13 undef) (Wq 14 [.pv (.agg [enc n.kind,enc n.line,enc n.name,enc n.num,enc n.elem,enc n.dims,enc n.data,enc n.sizes,enc n.ranks,enc ks])] []).env:=by
  show RL _ _ _ _
  rw[Array.toList_append,Array.toList_replicate]
  exact RL.append (RL.cons (.pv _ _ hv2) RL.nil) (Yj _)
 have hrun:=d5q (G:=fun _=>False) (fun z S=>sdR n ks 0 S∧z=0) n ks ⟨Ze (Tm.mk n ks,()) (by show Rz n ks=[enc (Tm.mk n ks)];rw[ZE];rfl) hw,Zf (Tm.mk n ks,()) (by show Rz n ks=[enc (Tm.mk n ks)];rw[ZE];rfl) ⟨⟨rfl,rfl⟩,rfl⟩⟩
 have h:=BO (st:=Wq 14 [.pv (.agg [enc n.kind,enc n.line,enc n.name,enc n.num,enc n.elem,enc n.dims,enc n.data,enc n.sizes,enc n.ranks,enc ks])] []) (a:={tmps:=#[v]++Array.replicate 13 undef,defers:=[]}) (N:=sdN Φ w (Xm (.mk n ks))) hT (by kernel_rfl) htr hrun (WU hL hp) hE rfl (fun i cd hx st' a' w' hR hr=>by
  obtain⟨hR,rfl⟩:=hR
  rw[c3d]at hx
  cases hx
  obtain⟨Bt,Br,K,Tk,T,Tr,TK,TT,ct,cr,tv,Φ1,r0,r1,r2,r3,r4,r5⟩:=b7n hR hr
  exact c4c hU hC hL hw r0 r1 r2 r3 r4 r5)
 exact wp_mono h fun e a w h=>by obtain⟨rfl,h⟩:=h;exact h)
end Go.Proofs.YtgdebdgkofkeeaaGreatDoor
namespace Go.Pl
open Go.RowKit
open Enc (enc dec is)
section
variable {P:Program} {o:Oper} {a:Act} {w:World}
end
end Go.Pl
namespace Go.Proofs.YtgdebdgkofkeeaaGreatDoor
open Go.RowKit Go.Pl
open Enc (enc dec is)
open EncL (encL decL isL)
set_option maxRecDepth 100000
section
variable {P:Program} {o:Oper} {a:Act} {w:World}
end
end Go.Proofs.YtgdebdgkofkeeaaGreatDoor
namespace Go.Proofs.YtgdebdgkofkeeaaGreatDoor
open Go.RowKit Go.Pl
open Enc (enc dec is)
open EncL (encL decL isL)
set_option maxRecDepth 100000
end Go.Proofs.YtgdebdgkofkeeaaGreatDoor
namespace Go.Proofs.YtgdebdgkofkeeaaGreatDoor
open Go.Pl
open Enc (enc dec is)
open EncL (encL decL isL)
set_option maxRecDepth 100000
theorem YO:Tryz.prog.follows .mixedOrders=true:=by kernel_rfl
theorem tq{f:Nat}{D:Den}{l:List (Nat×Den)}{fn:Func}(hf:Tryz.prog.funcs[f]? = some fn)(h:a3w Tryz.prog f D)(k:ZX Tryz.prog (Yn l))(hb:(fn.body.isSome&& !(fn.name == "runtime.NumGoroutine"))=true:=by kernel_rfl):ZX Tryz.prog (Yn ((f,D)::l)):=Zo (Ve hf hb h) k
theorem dq{f nt:Nat}{α β:Type}[EncL α][Enc β]{fn:Func}{T:ZA}{ic:IC}{rs:List IRes}{pre:α->Bool}{F:α->β}(h : ∀ a,pre a=true->Zc T 0 (Zb rs (Zn (F a))) ic [] (ZL nt (encL a)))(hT:ZX Tryz.prog T)(hf:Tryz.prog.funcs[f]? = some fn)(hic:LV Tryz.prog fn=some ic:=by kernel_rfl)(hrs:Xg (XK Tryz.prog) fn.results.toList=some rs:=by kernel_rfl)(hnt:fn.ntmps=nt:=by kernel_rfl):Zm Tryz.prog f pre F:=Zm.of hT YO hf hic hrs hnt h
theorem a4e:Zm Tryz.prog 170 (fun x:Str×Unit=>decide (x.1.s.length<=281474976710656)) (fun x:Str×Unit=>Y1 x.1):=XZ (by
  rintro⟨⟨s⟩,⟨⟩⟩ hps Φ w vs hL hΦ hv
  have hs:s.length<=281474976710656:=by simpa using hps
  obtain⟨v,rfl,h1⟩:=d0w hv
  rw[K9 h1]
  have hsz:(⟨s.toArray⟩:ByteArray).size=s.length:=rfl
  cases h:Lib.atoiAll s
  ·rename_i n
   have e1:Y1 ⟨s⟩=(n,⟨false⟩):=by simp only[Y1,h]
   rw[e1]
   refine(Any.strconv_Atoi_ok Tryz.lays172 ⟨s.toArray⟩ (by rw[hsz];omega) n h w).mono ?_
   rintro e w' ⟨rfl,hw⟩
   refine⟨_,rfl,.tup _ _ rfl ?_,?_⟩
   ·intro j v x hv hx
    match j with
    | 0=>cases hv;cases hx;exact .int _ _
    | 1=>cases hv;cases hx;exact .nili
    | j+2=>simp at hv
   ·rcases hw with rfl|⟨t,rfl⟩
    ·exact .refl _ _
    ·exact Ms _ _ 0 _
  ·skip
   have e1:Y1 ⟨s⟩=(0,⟨true⟩):=by simp only[Y1,h]
   rw[e1]
   obtain⟨cs,hc,ev,he,hev⟩:=hL.syn
   refine(Any.strconv_Atoi_syntax Tryz.lays172 ⟨s.toArray⟩ (by rw[hsz];omega) h ev w (Df hΦ hc he) hev).mono ?_
   rintro e w' ⟨N,rfl,_,_,hb⟩
   refine⟨_,rfl,.tup _ _ rfl ?_,hb⟩
   intro j v x hv hx
   match j with
   | 0=>cases hv;cases hx;exact .int _ _
   | 1=>cases hv;cases hx;exact .ifc _ _
   | j+2=>simp at hv
  ·skip
   have e1:Y1 ⟨s⟩=(Lib.atoiSat s,⟨true⟩):=by simp only[Y1,h]
   rw[e1]
   obtain⟨cs,hc,ev,he,hev⟩:=hL.rng
   refine(Any.strconv_Atoi_range Tryz.lays172 ⟨s.toArray⟩ (by rw[hsz];omega) h ev w (Df hΦ hc he) hev).mono ?_
   rintro e w' ⟨N,rfl,_,_,hb⟩
   refine⟨_,rfl,.tup _ _ rfl ?_,hb⟩
   intro j v x hv hx
   match j with
   | 0=>cases hv;cases hx;exact .int _ _
   | 1=>cases hv;cases hx;exact .ifc _ _
   | j+2=>simp at hv)
theorem a6o:Zm Tryz.prog 141 (fun _:Int×Unit=>true) (fun x:Int×Unit=>Yk x.1):=dq b9w Zd Tryz.func141
theorem Fe:Zm Tryz.prog 140 (fun x:Str×Unit=>decide (x.1.s.length<=281474976710656)) (fun x:Str×Unit=>YR x.1):=dq Ov (tq Tryz.func169 SB (tq Tryz.func170 a4e (tq Tryz.func68 ML Zd))) Tryz.func140
theorem RV:Zm Tryz.prog 111 (fun x:Lin×Unit=>Vz x.1) (fun x:Lin×Unit=>ZG x.1):=dq a7p (tq Tryz.func141 a6o (tq Tryz.func140 Fe Zd)) Tryz.func111
theorem Ho:Zm Tryz.prog 106 (fun _:UInt8×Unit=>true) (fun x:UInt8×Unit=>lowB x.1):=dq Ow Zd Tryz.func106
theorem PT:Zm Tryz.prog 138 (fun _:UInt8×Unit=>true) (fun x:UInt8×Unit=>digB x.1):=dq Ed Zd Tryz.func138
theorem EG:Zm Tryz.prog 107 (fun x:Str×Bool×Unit=>decide (x.1.s.length<=1048576)) (fun x:Str×Bool×Unit=>Ac x.1 x.2.1):=dq b4o (tq Tryz.func138 PT (tq Tryz.func106 Ho Zd)) Tryz.func107
theorem Cn:Zm Tryz.prog 108 (fun _:Str×Unit=>true) (fun x:Str×Unit=>Uc.contains x.1.s):=dq b1l Zd Tryz.func108
theorem Uy:Zm Tryz.prog 82 (fun x:Str×Unit=>decide (x.1.s.length<=1048576)) (fun x:Str×Unit=>Yh x.1.s):=dq a4h (tq Tryz.func106 Ho (tq Tryz.func107 EG (tq Tryz.func108 Cn Zd))) Tryz.func82
theorem SH:Zm Tryz.prog 115 (fun x:Str×Unit=>decide (x.1.s.length<=1048576)) (fun x:Str×Unit=>fullI x.1.s):=dq a5a (tq Tryz.func145 a9k (tq Tryz.func82 Uy Zd)) Tryz.func115
theorem QI:Zm Tryz.prog 87 (fun x:Str×Unit=>decide (x.1.s.length<=1048576)) (fun x:Str×Unit=>Sd x.1.s):=dq b1s (tq Tryz.func82 Uy (tq Tryz.func115 SH Zd)) Tryz.func87
theorem Aa:Zm Tryz.prog 84 (fun x:Tm×Unit=>nW x.1) (fun x:Tm×Unit=>Ju x.1.nd):=dq b4j Zd Tryz.func84
theorem Si:Zm Tryz.prog 110 (fun x:Lin×Unit=>Vz x.1) (fun x:Lin×Unit=> !(ZG x.1)):=dq b6b (tq Tryz.func111 RV Zd) Tryz.func110
theorem c4k:Zm Tryz.prog 139 (fun x:List Lin×FnV 110×Unit=>decide (x.1.length<=1048576)&&x.1.all Vz) (fun x:List Lin×FnV 110×Unit=>XX (fun l:Lin=> !(ZG l)) x.1):=dq b9m (tq Tryz.func110 Si Zd) Tryz.func139
theorem c4s:Zm Tryz.prog 109 (fun x:List Lin×FnV 110×Unit=>decide (x.1.length<=1048576)&&x.1.all Vz) (fun x:List Lin×FnV 110×Unit=>x.1.any fun l:Lin=> !(ZG l)):=dq b9q (tq Tryz.func139 c4k Zd) Tryz.func109
theorem Gb:Zm Tryz.prog 83 (fun x:Tm×Int×Int×Unit=>nW x.1) (fun x:Tm×Int×Int×Unit=>YJ x.1.nd x.2.1 x.2.2.1):=dq EJ (tq Tryz.func109 c4s Zd) Tryz.func83
theorem Nq:Zm Tryz.prog 114 (fun _:Int×Unit=>true) (fun x:Int×Unit=>Z5 x.1):=dq b0q Zd Tryz.func114
theorem c5n:Zm Tryz.prog 144 (fun x:List Int×FnV 114×Unit=>decide (x.1.length<=1048576)) (fun x:List Int×FnV 114×Unit=>XX Z5 x.1):=dq c4d (tq Tryz.func114 Nq Zd) Tryz.func144
theorem c0o:Zm Tryz.prog 113 (fun x:List Int×FnV 114×Unit=>decide (x.1.length<=1048576)) (fun x:List Int×FnV 114×Unit=>x.1.any Z5):=dq c1f (tq Tryz.func144 c5n Zd) Tryz.func113
theorem LK:Zm Tryz.prog 86 (fun x:Tm×Unit=>nW x.1) (fun x:Tm×Unit=>XP x.1.nd x.1.ks.length):=dq a4f (tq Tryz.func87 QI (tq Tryz.func83 Gb (tq Tryz.func113 c0o Zd))) Tryz.func86
theorem b0c:Y4 Tryz.prog 193 Z4 Kw:=JS (T:=Vv) (ic:=Wz) (rs:=WL) Zd YO Tryz.func193 (by kernel_rfl) (by kernel_rfl) (by kernel_rfl) a4g
theorem NH:Y4 Tryz.prog 171 Z4 Vy:=JS (T:=K6) (ic:=QX) (rs:=Q8) (tq Tryz.func193 b0c Zd) YO Tryz.func171 (by kernel_rfl) (by kernel_rfl) (by kernel_rfl) Pj
theorem c4m:Y4 Tryz.prog 142 U5 Yw:=JS (T:=Xt) (ic:=YL) (rs:=YK) (tq Tryz.func171 NH Zd) YO Tryz.func142 (by kernel_rfl) (by kernel_rfl) (by kernel_rfl) a8w
theorem b2u:Zm Tryz.prog 142 (fun _:List Int×Unit=>true) (fun x:List Int×Unit=>YD x.1):=Zm.ofPure c4m fun⟨l,_⟩ h=>⟨by show(Zk l).all PV.isNum=true;simp,by show Zn _ (.tup [.int .i64 (YD ((Zk l).map PV.asInt)).1,.int .i64 (YD ((Zk l).map PV.asInt)).2]);rw[YH];exact KL (x:=YD l) rfl⟩
theorem a5v:Zm Tryz.prog 93 (fun x:List Int×Unit=>decide (x.1.length<=2000000)) (fun x:List Int×Unit=>x.1):=V4 (α:=Int) (by decide) (WY b6k (by decide))
theorem Px:Zm Tryz.prog 173 (fun _:Str×Int×Unit=>true) (fun x:Str×Int×Unit=>Xl x.1 x.2.1):=dq c2y Zd Tryz.func173
theorem c8t:Z0 Tryz.prog 172 CK PM:=Bl (T:=b8d) (ic:=Ep) (rs:=OU) (tq Tryz.func173 Px Zd) YO Tryz.func172 (by kernel_rfl) (by kernel_rfl) (by kernel_rfl) c2w
theorem d1p:Z0 Tryz.prog 144 WK Cv:=Bl (T:=CR) (ic:=Jo) (rs:=Ji) (tq Tryz.func172 c8t Zd) YO Tryz.func144 (by kernel_rfl) (by kernel_rfl) (by kernel_rfl) c0y
theorem d0o:Z0 Tryz.prog 113 WK PP:=Bl (T:=b0x) (ic:=EH) (rs:=OC) (tq Tryz.func144 d1p Zd) YO Tryz.func113 (by kernel_rfl) (by kernel_rfl) (by kernel_rfl) c1x
theorem LD:Zm Tryz.prog 143 (fun x:Str×List Int×Unit=>decide (x.2.1.length<=2000000)) (fun x:Str×List Int×Unit=>x.2.1.all (Xl x.1)):=dq Nh (tq Tryz.func113 d0o Zd) Tryz.func143
theorem a7o:Zm Tryz.prog 112 (fun x:Str×List Int×List Int×Unit=>decide (x.2.1.length<=2000000)&&decide (x.2.2.1.length<=2000000)) (fun x:Str×List Int×List Int×Unit=>QL x.1 x.2.1 x.2.2.1):=dq b7d (tq Tryz.func142 b2u (tq Tryz.func143 LD (tq Tryz.func93 a5v Zd))) Tryz.func112
theorem Py:Zm Tryz.prog 85 (fun x:Arr×Unit=>Ci x.1) (fun x:Arr×Unit=>Cf x.1):=dq c2o (tq Tryz.func112 a7o Zd) Tryz.func85
theorem MZ:Zm Tryz.prog 59 (fun x:Tm×Unit=>nW x.1) (fun x:Tm×Unit=>Q5 x.1):=dq a6s (tq Tryz.func82 Uy (tq Tryz.func83 Gb (tq Tryz.func84 Aa (tq Tryz.func85 Py (tq Tryz.func86 LK (tq Tryz.func87 QI Zd)))))) Tryz.func59
theorem Pf:Z0 Tryz.prog 58 YA (Xz 80):=Bl (T:=Oz) (ic:=RF) (rs:=Np) Zd YO Tryz.func58 (by kernel_rfl) (by kernel_rfl) (by kernel_rfl) b6r
theorem a5e{cd:Code}(h:WR Tryz.prog U2 Tryz.f22 0=some cd):WC Tryz.prog cd=some (.t 7,[8,9],BJ,Bd):=by
 have:(WR Tryz.prog U2 Tryz.f22 0).bind (WC Tryz.prog)=some (.t 7,[8,9],BJ,Bd):=by kernel_rfl
 rw[h]at this
 exact this
theorem c3f(hT:ZX Tryz.prog KY): ∀ (B:Nat) (c:Ctx),c.w0.heap.size=B->(∀ i m,0<=i->c.μ0 i m=none)->a4i (QV B 4 hT YO) (fun n cd=>WR Tryz.prog U2 Tryz.f22 n=some cd) tvE c:=by
 rintro B c hB hk n cd hcd st a w q hr ⟨rfl,hE⟩
 exact KG hT YO JO (fun x=>by obtain⟨t,l⟩:=x;rfl) (a5e hcd) hB hk hr hE
theorem a1t:ZX Tryz.prog KY:=(tq Tryz.func58 Pf (tq Tryz.func59 MZ Zd))
theorem KV:Zm Tryz.prog 22 (fun x:Tm×Unit=>gW x.1) (fun x:Tm×Unit=>Y8 x.1):=Zm.ofM (T:=KY) (ic:=Gz) (rs:=JE) (E:=tvE) (sel:=U2) a1t YO Tryz.func22 (by kernel_rfl) (by kernel_rfl) (by kernel_rfl) (c3f a1t) c3n
theorem RI:Zm Tryz.prog 22 (fun x:Tm×Unit=>tW x.1) (fun x:Tm×Unit=>Y8 x.1):=Zm.weaken KV (fun _ h=>SN h) (fun _ _=>rfl)
theorem b0r:Z0 Tryz.prog 57 Qt (Kl 79):=Bl (T:=b8x) (ic:=E5) (rs:=F3) Zd YO Tryz.func57 (by kernel_rfl) (by kernel_rfl) (by kernel_rfl) c2x
theorem Rl:Zm Tryz.prog 123 (fun _:Int×Int×Unit=>true) (fun x:Int×Int×Unit=>Jb x.1 x.2.1):=dq EY Zd Tryz.func123
theorem a8j:Zm Tryz.prog 121 (fun _:Coef×Coef×Unit=>true) (fun x:Coef×Coef×Unit=>Dk x.1 x.2.1):=dq a7i (tq Tryz.func122 Mj (tq Tryz.func123 Rl Zd)) Tryz.func121
theorem b8k:Zm Tryz.prog 120 (fun x:List Coef×List Coef×FnV 121×Unit=>decide (x.1.length<=9223372036854775807)&&decide (x.2.1.length<=9223372036854775807)) (fun x:List Coef×List Coef×FnV 121×Unit=>X0 x.1 x.2.1):=dq a5x (tq Tryz.func121 a8j Zd) Tryz.func120
theorem Sv:Zm Tryz.prog 89 (fun x:Lin×Lin×Unit=>ZO x.1&&ZO x.2.1) (fun x:Lin×Lin×Unit=>VR x.1 x.2.1):=dq b8o (tq Tryz.func120 b8k (tq Tryz.func123 Rl Zd)) Tryz.func89
theorem MU:Zm Tryz.prog 63 (fun x:Lin×Lin×Unit=>ZO x.1&&ZO x.2.1) (fun x:Lin×Lin×Unit=>VR x.1 x.2.1==0):=dq c1t (tq Tryz.func89 Sv Zd) Tryz.func63
theorem Sk:Zm Tryz.prog 63 (fun x:Lin×Lin×Unit=>ZO x.1&&ZO x.2.1) (fun x:Lin×Lin×Unit=>decide (x.1=x.2.1)):=by
 have h:(fun x:Lin×Lin×Unit=>VR x.1 x.2.1==0)=(fun x:Lin×Lin×Unit=>decide (x.1=x.2.1)):=funext fun x=>Cm.cmpLin_dec x.1 x.2.1
 rw[<- h]
 exact MU
theorem a8b:Zm Tryz.prog 61 (fun x:List Int×List Int×Unit=>Yq x.1) (fun x:List Int×List Int×Unit=>decide (x.1=x.2.1)):=dq c0v Zd Tryz.func61
theorem b1t:Zm Tryz.prog 62 (fun x:List Lin×List Lin×FnV 63×Unit=>Yq x.1&&x.1.all ZO&&x.2.1.all ZO) (fun x:List Lin×List Lin×FnV 63×Unit=>decide (x.1=x.2.1)):=dq c0g (tq Tryz.func63 Sk Zd) Tryz.func62
theorem a5q{N:Nat}(hN:Zm Tryz.prog 24 (fun x:Tm×Tm×Unit=>(tW x.1&&tW x.2.1)&&decide (ZH x.1<N)) (fun x:Tm×Tm×Unit=>DC x.1 x.2.1)):Zm Tryz.prog 64 (fun x:List Tm×List Tm×FnV 24×Unit=>(tsW x.1&&tsW x.2.1)&&decide (ZZ x.1<N)) (fun x:List Tm×List Tm×FnV 24×Unit=>Qw x.1 x.2.1):=dq (c0r N) (tq Tryz.func24 hN Zd) Tryz.func64
theorem FW:Zm Tryz.prog 24 (fun x:Tm×Tm×Unit=>tW x.1&&tW x.2.1) (fun x:Tm×Tm×Unit=>DC x.1 x.2.1):=Zm.rec (fun a=>ZH a.1) fun N hN=>dq (c1d N) (tq Tryz.func61 a8b (tq Tryz.func62 b1t (tq Tryz.func64 (a5q hN) Zd))) Tryz.func24
theorem a8i:Zm Tryz.prog 91 (fun x:List Str×Str×Unit=>Yq x.1) (fun x:List Str×Str×Unit=>b9o x.1 x.2.1):=dq c2f Zd Tryz.func91
theorem a9d:Zm Tryz.prog 69 (fun x:List Str×Str×Unit=>Yq x.1) (fun x:List Str×Str×Unit=>decide (x.2.1∈x.1)):=dq c2q (tq Tryz.func91 a8i Zd) Tryz.func69
theorem d0n:Z0 Tryz.prog 67 X8 Um:=Bl (T:=AQ) (ic:=Jg) (rs:=JF) (tq Tryz.func68 ML (tq Tryz.func69 a9d Zd)) YO Tryz.func67 (by kernel_rfl) (by kernel_rfl) (by kernel_rfl) c4n
theorem d3l:Z0 Tryz.prog 55 VH GQ:=Z0.recN a8y fun N hN=>Z0.congr (Bl (T:=VX N) (ic:=Wi) (rs:=Wj) (tq Tryz.func76 d2z (tq Tryz.func55 (hN.congr (fun args os h=>d6a h) (fun _ _ _=>rfl)) Zd)) YO Tryz.func55 (by kernel_rfl) (by kernel_rfl) (by kernel_rfl) (c5m N)) (fun args os h=>d7c h) (fun _ _ _=>rfl)
theorem a9s:Zm Tryz.prog 20 (fun x:Tm×Unit=>tW x.1) (fun x:Tm×Unit=>Ww x.1):=dq c3p (tq Tryz.func55 d3l (tq Tryz.func57 b0r (tq Tryz.func56 c6e Zd))) Tryz.func20
theorem Hr:Zm Tryz.prog 30 (fun x:Tm×Unit=>tW x.1) (fun x:Tm×Unit=>Xm x.1):=FK d0n d2q a9s
theorem Cc:Zm Tryz.prog 30 (fun x:Tm×Unit=>tW x.1) (fun x:Tm×Unit=>Xm x.1):=Hr
theorem PH:Zm Tryz.prog 18 (fun x:Tm×Tm×Unit=>tW x.1&&tW x.2.1&&tW (Xm x.1)&&tW (Xm x.2.1)) (fun x:Tm×Tm×Unit=>Rv x.1 x.2.1):=dq c1v (tq Tryz.func30 Hr (tq Tryz.func24 FW Zd)) Tryz.func18
theorem FY{cd:Code}(h:WR Tryz.prog U2 Tryz.f21 0=some cd):WC Tryz.prog cd=some (.t 5,[6,7],Hf,H8):=by
 have:(WR Tryz.prog U2 Tryz.f21 0).bind (WC Tryz.prog)=some (.t 5,[6,7],Hf,H8):=by kernel_rfl
 rw[h]at this
 exact this
theorem b0e(hT:ZX Tryz.prog Qr): ∀ (B:Nat) (c:Ctx),c.w0.heap.size=B->(∀ i m,0<=i->c.μ0 i m=none)->a4i (QV B 4 hT YO) (fun n cd=>WR Tryz.prog U2 Tryz.f21 n=some cd) a6b c:=by
 rintro B c hB hk n cd hcd st a w q hr ⟨rfl,hE⟩
 exact KG hT YO JO (fun x=>by obtain⟨t,l⟩:=x;rfl) (FY hcd) hB hk hr hE
theorem Mv:ZX Tryz.prog Qr:=(tq Tryz.func58 Pf Zd)
theorem JH:Zm Tryz.prog 21 (fun x:Tm×Unit=>gW x.1) (fun x:Tm×Unit=>V8 x.1):=Zm.ofM (T:=Qr) (ic:=Hm) (rs:=Kj) (E:=a6b) (sel:=U2) Mv YO Tryz.func21 (by kernel_rfl) (by kernel_rfl) (by kernel_rfl) (b0e Mv) c4w
theorem Lj:Zm Tryz.prog 21 (fun x:Tm×Unit=>tW x.1) (fun x:Tm×Unit=>V8 x.1):=Zm.weaken JH (fun _ h=>SN h) (fun _ _=>rfl)
theorem Oa{cd:Code}(h:WR Tryz.prog U2 Tryz.f27 0=some cd):WC Tryz.prog cd=some (.t 7,[8,9],JN,Ga):=by
 have:(WR Tryz.prog U2 Tryz.f27 0).bind (WC Tryz.prog)=some (.t 7,[8,9],JN,Ga):=by kernel_rfl
 rw[h]at this
 exact this
theorem b3b(hT:ZX Tryz.prog QH): ∀ (B:Nat) (c:Ctx),c.w0.heap.size=B->(∀ i m,0<=i->c.μ0 i m=none)->a4i (QV B 4 hT YO) (fun n cd=>WR Tryz.prog U2 Tryz.f27 n=some cd) a8a c:=by
 rintro B c hB hk n cd hcd st a w q hr ⟨rfl,hE⟩
 exact KG hT YO JO (fun x=>by obtain⟨t,l⟩:=x;rfl) (Oa hcd) hB hk hr hE
theorem LB:ZX Tryz.prog QH:=(tq Tryz.func58 Pf Zd)
theorem Sm:Zm Tryz.prog 27 (fun x:Tm×Unit=>gW x.1) (fun x:Tm×Unit=>BC x.1):=Zm.ofM (T:=QH) (ic:=J7) (rs:=Kn) (E:=a8a) (sel:=U2) LB YO Tryz.func27 (by kernel_rfl) (by kernel_rfl) (by kernel_rfl) (b3b LB) b9r
theorem F5{cd:Code}(h:WR Tryz.prog U2 Tryz.f32 0=some cd):WC Tryz.prog cd=some (.t 7,[8,9],JX,Uj):=by
 have:(WR Tryz.prog U2 Tryz.f32 0).bind (WC Tryz.prog)=some (.t 7,[8,9],JX,Uj):=by kernel_rfl
 rw[h]at this
 exact this
theorem a8s(hT:ZX Tryz.prog Qe): ∀ (B:Nat) (c:Ctx),c.w0.heap.size=B->(∀ i m,0<=i->c.μ0 i m=none)->a4i (QV B 4 hT YO) (fun n cd=>WR Tryz.prog U2 Tryz.f32 n=some cd) a7z c:=by
 rintro B c hB hk n cd hcd st a w q hr ⟨rfl,hE⟩
 exact KG hT YO JO (fun x=>by obtain⟨t,l⟩:=x;rfl) (F5 hcd) hB hk hr hE
theorem ND:ZX Tryz.prog Qe:=(tq Tryz.func58 Pf (tq Tryz.func57 b0r (tq Tryz.func56 c6e Zd)))
theorem Nk:Zm Tryz.prog 32 (fun x:Tm×Unit=>tW x.1) (fun x:Tm×Unit=>K8 x.1):=Zm.ofM (T:=Qe) (ic:=JL) (rs:=Km) (E:=a7z) (sel:=U2) ND YO Tryz.func32 (by kernel_rfl) (by kernel_rfl) (by kernel_rfl) (a8s ND) c0h
theorem a6d:Zm Tryz.prog 65 (fun x:List Int×List Int×Unit=>decide (x.1.length<=1048576)) (fun x:List Int×List Int×Unit=>decide (x.1=x.2.1)):=dq b9d Zd Tryz.func65
theorem a8f:Zm Tryz.prog 66 (fun x:Lin×Lin×Unit=>decide (x.1.t.length<=1048576)) (fun x:Lin×Lin×Unit=>decide (x.1=x.2.1)):=dq c5i Zd Tryz.func66
theorem RY:Zm Tryz.prog 25 (fun x:Tm×Tm×Unit=>tW x.1&&tW x.2.1) (fun x:Tm×Tm×Unit=>DC x.1 x.2.1):=Zm.rec (fun a=>ZH a.1) fun N hN=>dq (c3t N) (tq Tryz.func65 a6d (tq Tryz.func66 a8f (tq Tryz.func25 hN Zd))) Tryz.func25
theorem UA:Zm Tryz.prog 28 (fun x:Tm×Unit=>gW x.1) (fun x:Tm×Unit=>(ZH x.1:Int)):=Zm.rec (fun a=>ZH a.1) fun N hN=>dq (b6e N) (tq Tryz.func28 hN Zd) Tryz.func28
theorem RU:Zm Tryz.prog 28 (fun x:Tm×Unit=>tW x.1) (fun x:Tm×Unit=>(ZH x.1:Int)):=Zm.weaken UA (fun _ h=>SN h) (fun _ _=>rfl)
theorem U7:Zm Tryz.prog 26 (fun x:Tm×Unit=>gW x.1) (fun x:Tm×Unit=>(Zt x.1:Int)):=Zm.rec (fun a=>ZH a.1) fun N hN=>dq (a4d N) (tq Tryz.func26 hN Zd) Tryz.func26
theorem Nv:Zm Tryz.prog 26 (fun x:Tm×Unit=>tW x.1) (fun x:Tm×Unit=>(Zt x.1:Int)):=Zm.weaken U7 (fun _ h=>SN h) (fun _ _=>rfl)
theorem Ch:Zm Tryz.prog 15 (fun x:Tm×Unit=>tW x.1) (fun x:Tm×Unit=>Xk x.1):=Zm.rec (fun a=>ZH a.1) fun N hN=>dq (b9a N) (tq Tryz.func15 hN Zd) Tryz.func15
theorem EE:Zm Tryz.prog 13 (fun x:Tm×Int×Unit=>tW x.1) (fun x:Tm×Int×Unit=>Q4 x.1 x.2.1):=dq b3x (tq Tryz.func28 RU (tq Tryz.func26 Nv (tq Tryz.func15 Ch Zd))) Tryz.func13
theorem NA:Zm Tryz.prog 51 (fun _:Str×Unit=>true) (fun x:Str×Unit=>vT x.1):=dq d3e Zd Tryz.func51
theorem EP:Zm Tryz.prog 16 (fun _:Str×Tm×Tm×Unit=>true) (fun x:Str×Tm×Tm×Unit=>FZ x.1 x.2.1 x.2.2.1):=dq b5j Zd Tryz.func16
theorem Fh:Zm Tryz.prog 16 (fun _:Str×Tm×Tm×Unit=>true) (fun x:Str×Tm×Tm×Unit=>Sa (FZ x.1 x.2.1 x.2.2.1)):=EP.encEq fun a=>(P8 _).symm
theorem PQ:Zm Tryz.prog 50 (fun _:Str×Unit=>true) (fun x:Str×Unit=>NP x.1):=dq c4z (tq Tryz.func51 NA Zd) Tryz.func50
theorem SC:Zm Tryz.prog 50 (fun _:Str×Unit=>true) (fun x:Str×Unit=>Sa (NP x.1)):=PQ.encEq fun a=>(P8 _).symm
theorem Rw:Zm Tryz.prog 12 (fun _:Unit=>true) (fun _:Unit=>true):=dq c2d (tq Tryz.func51 NA (tq Tryz.func16 Fh (tq Tryz.func50 SC (tq Tryz.func22 RI (tq Tryz.func25 RY (tq Tryz.func30 Cc (tq Tryz.func21 Lj (tq Tryz.func18 PH (tq Tryz.func32 Nk Zd))))))))) Tryz.func12
end Go.Proofs.YtgdebdgkofkeeaaGreatDoor
namespace Go.Proofs.YtgdebdgkofkeeaaGreatDoor
open Go.Shelf
end Go.Proofs.YtgdebdgkofkeeaaGreatDoor
namespace Go.Proofs.YtgdebdgkofkeeaaGreatDoor
open Go.RowKit Go.Shelf Go.Pl Go.Proofs
end Go.Proofs.YtgdebdgkofkeeaaGreatDoor
namespace Go.Proofs.YtgdebdgkofkeeaaGreatDoor
open Go.Pl
open Enc (enc dec is)
open EncL (encL decL isL)
set_option maxRecDepth 100000
end Go.Proofs.YtgdebdgkofkeeaaGreatDoor
namespace Go.Proofs.YtgdebdgkofkeeaaGreatDoor
open Go.Pl
open Enc (enc dec is)
open EncL (encL decL isL)
set_option maxRecDepth 100000
end Go.Proofs.YtgdebdgkofkeeaaGreatDoor
namespace Go.Proofs.YtgdebdgkofkeeaaGreatDoor
open Go.Pl
open Enc (enc dec is)
open EncL (encL decL isL)
set_option maxRecDepth 100000
theorem Nc:Zm Tryz.prog 195 (fun _:UInt8×Unit=>true) (fun x:UInt8×Unit=>digB x.1):=Zm.of (T:=Es) (ic:=H7) (rs:=P7) Zd YO Tryz.func195 (by kernel_rfl) (by kernel_rfl) (by kernel_rfl) b6a
theorem SK:Zm Tryz.prog 196 (fun _:UInt8×Unit=>true) (fun x:UInt8×Unit=>lowB x.1):=Zm.of (T:=OB) (ic:=He) (rs:=R8) Zd YO Tryz.func196 (by kernel_rfl) (by kernel_rfl) (by kernel_rfl) b7u
theorem Pm:Zm Tryz.prog 178 (fun _:Int×Unit=>true) (fun x:Int×Unit=>Yk x.1):=Zm.of (T:=CX) (ic:=Kr) (rs:=Db) Zd YO Tryz.func178 (by kernel_rfl) (by kernel_rfl) (by kernel_rfl) Eu
theorem Ll:Zm Tryz.prog 179 (fun _:Str×Unit=>true) (fun x:Str×Unit=>YR x.1):=Zm.of (T:=Wh) (ic:=Xn) (rs:=Xj) (Zo (Ve Tryz.func195 (by kernel_rfl) Nc) (Zo (Ve Tryz.func196 (by kernel_rfl) SK) Zd)) YO Tryz.func179 (by kernel_rfl) (by kernel_rfl) (by kernel_rfl) a4p
theorem PW:Zm Tryz.prog 147 (fun x:Lin×Unit=>ZO x.1) (fun x:Lin×Unit=>ZG x.1):=Zm.of (T:=WH) (ic:=XL) (rs:=XN) (Zo (Ve Tryz.func178 (by kernel_rfl) Pm) (Zo (Ve Tryz.func179 (by kernel_rfl) Ll) Zd)) YO Tryz.func147 (by kernel_rfl) (by kernel_rfl) (by kernel_rfl) OL
theorem b8q:Y4 Tryz.prog 175 U5 Yw:=JS (T:=Yo) (ic:=Z9) (rs:=Yb) Zd YO Tryz.func175 (by kernel_rfl) (by kernel_rfl) (by kernel_rfl) a7k
theorem a7q:Zm Tryz.prog 175 (fun _:List Int×Unit=>true) (fun x:List Int×Unit=>YD x.1):=Zm.ofPure b8q fun⟨l,_⟩ h=>⟨by show(Zk l).all PV.isNum=true;simp,by show Zn _ (.tup [.int .i64 (YD ((Zk l).map PV.asInt)).1,.int .i64 (YD ((Zk l).map PV.asInt)).2]);rw[YH];exact KL (x:=YD l) rfl⟩
theorem a7j:Zm Tryz.prog 177 (fun x:List Int×Unit=>decide (x.1.length<=2000000)) (fun x:List Int×Unit=>x.1):=Zm.of (T:=PN) (ic:=A7) (rs:=BD) Zd YO Tryz.func177 (by kernel_rfl) (by kernel_rfl) (by kernel_rfl) a6n
theorem Sr:Zm Tryz.prog 176 (fun _:Str×Int×Unit=>true) (fun x:Str×Int×Unit=>Xl x.1 x.2.1):=Zm.of (T:=OV) (ic:=RO) (rs:=Ph) Zd YO Tryz.func176 (by kernel_rfl) (by kernel_rfl) (by kernel_rfl) b7k
theorem OQ:Zm Tryz.prog 146 (fun x:Str×List Int×List Int×Unit=>decide (x.2.1.length<=2000000)&&decide (x.2.2.1.length<=2000000)) (fun x:Str×List Int×List Int×Unit=>QL x.1 x.2.1 x.2.2.1):=Zm.of (T:=VG) (ic:=Wu) (rs:=WI) (Zo (Ve Tryz.func175 (by kernel_rfl) a7q) (Zo (Ve Tryz.func176 (by kernel_rfl) Sr) (Zo (Ve Tryz.func177 (by kernel_rfl) a7j) Zd))) YO Tryz.func146 (by kernel_rfl) (by kernel_rfl) (by kernel_rfl) a7g
theorem SF:Zm Tryz.prog 117 (fun x:Arr×Unit=>Ci x.1) (fun x:Arr×Unit=>Cf x.1):=Zm.of (T:=Oc) (ic:=RQ) (rs:=P5) (Zo (Ve Tryz.func146 (by kernel_rfl) OQ) Zd) YO Tryz.func117 (by kernel_rfl) (by kernel_rfl) (by kernel_rfl) b7s
theorem Ru:Zm Tryz.prog 52 (fun _:UInt8×Unit=>true) (fun x:UInt8×Unit=>lowB x.1):=Zm.of (T:=BB) (ic:=Gv) (rs:=Dm) Zd YO Tryz.func52 (by kernel_rfl) (by kernel_rfl) (by kernel_rfl) O9
theorem Nl:Zm Tryz.prog 53 (fun _:UInt8×Unit=>true) (fun x:UInt8×Unit=>digB x.1):=Zm.of (T:=BF) (ic:=Du) (rs:=Dp) Zd YO Tryz.func53 (by kernel_rfl) (by kernel_rfl) (by kernel_rfl) EZ
theorem Cq:Zm Tryz.prog 54 (fun _:Str×Unit=>true) (fun x:Str×Unit=>Uc.contains x.1.s):=Zm.of (T:=a0b) (ic:=CJ) (rs:=PG) Zd YO Tryz.func54 (by kernel_rfl) (by kernel_rfl) (by kernel_rfl) b4v
theorem UF:Zm Tryz.prog 14 (fun x:Str×Unit=>decide (x.1.s.length<=1048576)) (fun x:Str×Unit=>Yh x.1.s):=Zm.of (T:=VI) (ic:=WF) (rs:=WM) (Zo (Ve Tryz.func52 (by kernel_rfl) Ru) (Zo (Ve Tryz.func53 (by kernel_rfl) Nl) (Zo (Ve Tryz.func54 (by kernel_rfl) Cq) Zd))) YO Tryz.func14 (by kernel_rfl) (by kernel_rfl) (by kernel_rfl) a5m
theorem Sn:Zm Tryz.prog 148 (fun x:Str×Unit=>decide (x.1.s.length<=1048576)) (fun x:Str×Unit=>fullI x.1.s):=Zm.of (T:=U9) (ic:=VU) (rs:=VW) (Zo (Ve Tryz.func14 (by kernel_rfl) UF) Zd) YO Tryz.func148 (by kernel_rfl) (by kernel_rfl) (by kernel_rfl) a8g
theorem Cj:Zm Tryz.prog 119 (fun x:Str×Unit=>decide (x.1.s.length<=1048576)) (fun x:Str×Unit=>Sd x.1.s):=Zm.of (T:=E8) (ic:=RB) (rs:=RN) (Zo (Ve Tryz.func14 (by kernel_rfl) UF) (Zo (Ve Tryz.func148 (by kernel_rfl) Sn) Zd)) YO Tryz.func119 (by kernel_rfl) (by kernel_rfl) (by kernel_rfl) b7o
theorem PZ:Zm Tryz.prog 116 (fun x:Tm×Bool×Bool×Bool×Bool×Bool×Unit=>nW x.1) (fun x:Tm×Bool×Bool×Bool×Bool×Bool×Unit=>ZY x.1.nd x.2.1 x.2.2.1 x.2.2.2.1 x.2.2.2.2.1 x.2.2.2.2.2.1):=Zm.of (T:=Bv) (ic:=G9) (rs:=UI) Zd YO Tryz.func116 (by kernel_rfl) (by kernel_rfl) (by kernel_rfl) O4
theorem SG:Zm Tryz.prog 118 (fun x:List Lin×Unit=>decide (x.1.length<=1048576)&&x.1.all ZO) (fun x:List Lin×Unit=>x.1.all ZG):=Zm.of (T:=Jc) (ic:=QA) (rs:=Qb) (Zo (Ve Tryz.func147 (by kernel_rfl) PW) Zd) YO Tryz.func118 (by kernel_rfl) (by kernel_rfl) (by kernel_rfl) b3f
theorem M6:Zm Tryz.prog 88 (fun x:Tm×Unit=>nW x.1) (fun x:Tm×Unit=>Q5 x.1):=Zm.of (T:=VE) (ic:=Wy) (rs:=X5) (Zo (Ve Tryz.func14 (by kernel_rfl) UF) (Zo (Ve Tryz.func116 (by kernel_rfl) PZ) (Zo (Ve Tryz.func119 (by kernel_rfl) Cj) (Zo (Ve Tryz.func118 (by kernel_rfl) SG) (Zo (Ve Tryz.func117 (by kernel_rfl) SF) Zd))))) YO Tryz.func88 (by kernel_rfl) (by kernel_rfl) (by kernel_rfl) a4s
theorem F8:Zm Tryz.prog 60 (fun x:Tm×Unit=>gW x.1) (fun x:Tm×Unit=>QU x.1):=Zm.rec (fun a=>ZH a.1) fun N hN=>Zm.of (T:=Jt N) (ic:=Qv) (rs:=Qz) (Zo (Ve Tryz.func60 (by kernel_rfl) hN) (Zo (Ve Tryz.func88 (by kernel_rfl) M6) Zd)) YO Tryz.func60 (by kernel_rfl) (by kernel_rfl) (by kernel_rfl) (b1n N)
theorem SA:Zm Tryz.prog 23 (fun x:Tm×Unit=>gW x.1) (fun x:Tm×Unit=>Y8 x.1):=Zm.of (T:=AX) (ic:=Da) (rs:=KH) (Zo (Ve Tryz.func26 (by kernel_rfl) U7) (Zo (Ve Tryz.func28 (by kernel_rfl) UA) (Zo (Ve Tryz.func60 (by kernel_rfl) F8) Zd))) YO Tryz.func23 (by kernel_rfl) (by kernel_rfl) (by kernel_rfl) Em
theorem Pn:Zm Tryz.prog 5 (fun x:Tm×UInt8×UInt8×Unit=>tW x.1) (fun _:Tm×UInt8×UInt8×Unit=>true):=Zm.of (T:=Xv) (ic:=Yx) (rs:=YB) (Zo (Ve Tryz.func12 (by kernel_rfl) Rw) (Zo (Ve Tryz.func13 (by kernel_rfl) EE) (Zo (Ve Tryz.func22 (by kernel_rfl) KV) (Zo (Ve Tryz.func23 (by kernel_rfl) SA) (Zo (Ve Tryz.func21 (by kernel_rfl) JH) (Zo (Ve Tryz.func26 (by kernel_rfl) U7) (Zo (Ve Tryz.func27 (by kernel_rfl) Sm) (Zo (Ve Tryz.func28 (by kernel_rfl) UA) Zd)))))))) YO Tryz.func5 (by kernel_rfl) (by kernel_rfl) (by kernel_rfl) c4t
end Go.Proofs.YtgdebdgkofkeeaaGreatDoor
