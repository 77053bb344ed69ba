/-
  Texts of mine that belong together (packed by pack.py), for every input: Post, LaidY, PlGb, OpPr, ShP, Sh, ShB, ShR, ShS, Sk, Cl, OkPr.
-/
import Derived.Test.YtbfjgcjjaoaaaaaGreatDoorChecked
import Derived.Test.YtbfjgcjjaoaaaaaGreatDoorRows
import Derived.Test.YtbfjgcjjaoaaaaaGreatDoorKP2
import Derived.Test.YtbfjgcjjaoaaaaaGreatDoorKP3
import Derived.Test.YtbfjgcjjaoaaaaaGreatDoorKP4
import Derived.Test.YtbfjgcjjaoaaaaaGreatDoorKP5
import Derived.Below
import Derived.ChangeSame
import Derived.Stop.LaidErr
import Derived.Lib.LaidTab
import Derived.Shelf.Vars
import Derived.KernelRfl
import Derived.Shelf.Strings.Cut
import Derived.Shelf.Strings.OnBuilder
import Derived.Shelf.Strings.Trim
import Derived.Shelf.Small.Wraps
import Derived.Shelf.LaysM
import Derived.Shelf.Strconv.Itoa3
import Derived.Shelf.Strconv.AtoiAll
import Derived.Shelf.Strings.Prefix
import Derived.Shelf.Sort.Plain
import Derived.Shelf.Small.Strs
import Derived.Shelf.Slices.In.SortNone
import Derived.Shelf.SlIter.Sorted
import Derived.Shelf.SlIter.Keys
import Derived.Ground.GgzProg
import Derived.WalkKit
import Derived.Deep.LoopGhost
import Derived.Lib.Walk
import Derived.Lib.SliceRun
set_option linter.unusedVariables false
set_option linter.unusedSimpArgs false
namespace Go.Proofs.YtbfjgcjjaoaaaaaGreatDoor
open Go.RowKit Go.WideShapes Go.ChangeShapes
section
variable {H:Type} {enc:TypeId×Value->H} {P:Program}
theorem Bz{f:Func}{s:ChangeSpec}{apart fresh handsOn again:Bool}{W W':World}{args:Array Value}{v:Value}{ds gs:List (DataW H)}{before pa pv:List MemPlace}
  (hW:DataW.Whole enc P f.params.toList s.vars apart W args.toList ds gs before)
  (hres : ∀ (b:Nat) (sp:Nat->Bool) (hd:Bool),DataW.TrodAll enc P W' b sp hd f.resultTypes.toList (v.resultList f.resultTypes.size) (s.fn H (ds++gs)).results [])
  (hargs : ∀ sp:Nat->Bool,(∀ p∈before,sp p.block=true)->DataW.TrodAll enc P W' 0 sp true f.params.toList args.toList (s.fn H (ds++gs)).args pa)
  (hvars : ∀ sp:Nat->Bool,(∀ p∈before,sp p.block=true)->DataW.TrodVars enc P W' sp s.vars (s.fn H (ds++gs)).vars pv)
  (hps:before=pa++pv) (hb:Below W.heap.size W W')
  (hok : ∀ (j:Nat) (t:TypeId) (r:Value),f.resultTypes[j]? = some t->(v.resultList f.resultTypes.size)[j]? = some r->Value.okWide P W' .any 0 t r) :
  s.post enc P f apart fresh handsOn again W args v W':=by
 have hlt : ∀ p∈before,p.block<W.heap.size:=fun p hp=>hW.lt p hp
 have hold : ∀ p∈before,(fun b=>decide (b<W.heap.size)) p.block=true:=fun p hp=>by simpa using hlt p hp
 refine⟨ds,gs,before,[],pa,pv,hW,hres _ _ _,hargs _ hold,hvars _ hold,World.keptBut_mono (fun p hp=>⟨hp,?_⟩) (hb.frame (· ∈ before)),fun _=> ?_⟩
 ·rw[hps,List.mem_append]at hp
  exact Or.inr hp
 ·obtain⟨_,_,_,_,_,hz,hn⟩:=hW
  refine⟨hok,_,_,([]++pa)++pv,⟨[]++pa,pv,trodAll_append (hargs _ (fun _ _=>rfl)) (hres _ _ _),hvars _ (fun _ _=>rfl),rfl,?_,?_⟩,?_⟩
  ·intro b off hp
   have hin:MemPlace.cell b off∈before:=by rw[hps];simpa using hp
   rw[hb.frozen (hlt _ hin)]
   exact hz b off hin
  ·intro ha
   have:=hn ha
   rw[hps]at this
   simpa using this
  ·intro p hp _
   rw[hps]
   simpa using hp
end
end Go.Proofs.YtbfjgcjjaoaaaaaGreatDoor

namespace Go.Proofs.YtbfjgcjjaoaaaaaGreatDoor
open Go.Pl Go.RowKit Go.ChangeShapes
set_option maxRecDepth 100000
theorem O3{P:Program}{W:World}{n:String}{g:Nat}{cs:Array Value}(hg:P.globalNamed n=some g)(h:W.var? P n=some cs):GZ W g=some cs:=by
 unfold World.var? at h
 rw[hg]at h
 simp only[Option.bind_some]at h
 unfold GZ
 exact h
theorem b7c:Tryz.prog.globalNamed "internal/strconv.uint64pow10" = some 0:=by kernel_rfl
theorem c3p:Tryz.prog.globalNamed "strconv.ErrRange" = some 3:=by kernel_rfl
theorem c4q:Tryz.prog.globalNamed "strconv.ErrSyntax" = some 2:=by kernel_rfl
theorem Ep:Tryz.prog.underlying 102=some (.interface ((match Tryz.prog.underlying 102 with|some (.interface ms)=>ms|_=>#[]))):=by kernel_rfl
theorem c1o{W:World}{r:List (String×DataW Unit)}(h:laidMet Tryz.prog (("internal/strconv.uint64pow10",Rows.laid_internal_strconv_uint64pow10)::r) W):GZ W 0=some Du:=by
 have h1:Lib.TabIs Tryz.prog W "internal/strconv.uint64pow10" .u64 ((List.range 20).map fun i=>((10 ^ i:Nat):Int)):=Lib.tabIs_of_head (e:=122) (t:=159) b7c (by kernel_rfl) (n:=20) (by kernel_rfl) (by kernel_rfl) (by kernel_rfl) (by kernel_rfl) h
 exact(O3 b7c h1).trans rfl
theorem a2w{W:World}{n:String}{g:Nat}{text:List UInt8}{r:List (String×DataW Unit)}(hg:Tryz.prog.globalNamed n=some g)(ht:(Tryz.prog.globals[g]?).map (·.type)=some 102)(h:laidMet Tryz.prog ((n,.iface "*errors.errorString" (.ptr (.agg [.lit (.string text)])))::r) W): ∃ cs,GZ W g=some cs∧Co cs:=by
 obtain⟨ps,⟨g0,t0,cs0,f0,p0,q0,hg0,ht0,hv0,hd0,_,e0⟩,_,hrows⟩:=h
 obtain rfl:=Option.some.inj (hg.symm.trans hg0)
 obtain rfl:=Option.some.inj (ht.symm.trans ht0)
 subst e0
 refine⟨cs0,O3 hg hv0,?_⟩
 obtain⟨f1,u,v,e,_⟩:=iface_of_trod Ep hd0
 obtain⟨l0⟩:=cs0
 have e:l0=[.iface u v]:=e
 subst e
 exact⟨_,rfl,.inr ⟨u,v,rfl⟩⟩
theorem c4b{W:World}(h:W.ShapedOpen Tryz.prog): ∃ cs m,GZ W 1=some cs∧cs[0]? = some (Value.int .i64 m):=by
 obtain⟨m,hm⟩:=cell_of_shapedOpen_int (g:=1) (t:=3) (zero:=#[.int .i64 0]) (k:=.i64) h (of_decide_eq_true (by kernel_rfl)) (by kernel_rfl) rfl (by kernel_rfl) (by kernel_rfl) (by kernel_rfl)
 unfold World.cell? at hm
 unfold GZ
 split at hm
 ·rename_i cs T fz hh
  exact⟨cs,m,by simp only[hh],by simpa using hm⟩
 ·cases hm
theorem b2p{W:World}{x y:String×DataW Unit}{r:List (String×DataW Unit)}(h:laidMet Tryz.prog (x::y::("internal/strconv.uint64pow10",Rows.laid_internal_strconv_uint64pow10)::("strconv.ErrRange",Rows.laid_strconv_ErrRange)::("strconv.ErrSyntax",Rows.laid_strconv_ErrSyntax)::r) W)(hs:W.ShapedOpen Tryz.prog):GlobOK (GZ W):=
 ⟨a2w c4q (by kernel_rfl) h.tail.tail.tail.tail,a2w c3p (by kernel_rfl) h.tail.tail.tail,c1o h.tail.tail,c4b hs⟩
noncomputable def c5n:DataW Unit->Value
 | .lit (.int k n)=>.int k n
 | _=>.int .i64 0
noncomputable def MO:DataW Unit->Array Value
 | .agg ds=>(ds.map c5n).toArray
 | _=>#[]
noncomputable def a2n:DataW Unit->ByteArray
 | .iface _ (.ptr (.agg [.lit (.string bs)]))=>⟨bs.toArray⟩
 | _=>⟨#[]⟩
noncomputable def low:Nat:=(World.holding Tryz.prog default ⟨#[],#[],[]⟩).heap.size
noncomputable def a3y(cs:Array Value):Obj->Obj
 | .cells _ t frozen=>.cells cs t frozen
 | o=>o
noncomputable def J9(os:Os):World:=
 let w0:=World.holding Tryz.prog os ⟨#[.cells #[.string (a2n Rows.laid_strconv_ErrRange)] 184,.cells #[.string (a2n Rows.laid_strconv_ErrSyntax)] 184],#[],[]⟩
 {w0 with heap:=((((w0.heap.modify 3 (a3y #[.iface 182 (.pointer (some ⟨low,0,none⟩))])).modify 2 (a3y #[.iface 182 (.pointer (some ⟨low+1,0,none⟩))])).modify 0 (a3y (MO Rows.laid_internal_strconv_uint64pow10))).modify 4 (a3y (MO Rows.laid_math_bits_deBruijn32tab))).modify 5 (a3y (MO Rows.laid_math_bits_deBruijn64tab))}
end Go.Proofs.YtbfjgcjjaoaaaaaGreatDoor

namespace Go.Pl
open Go.RowKit Go.WideShapes Go.ChangeShapes
abbrev uB{H:Type}(d:DataW H):Nat:=Go.Proofs.YtbfjgcjjaoaaaaaGreatDoor.Rows.uptoBulk d
abbrev uBs{H:Type}(l:List (DataW H)):Nat:=Go.Proofs.YtbfjgcjjaoaaaaaGreatDoor.Rows.uptoBulkAll l
theorem DJ{H:Type}(d:DataW H)(l:List (DataW H)):uBs (d::l)=uB d+uBs l:=by unfold uBs uB;rw[Go.Proofs.YtbfjgcjjaoaaaaaGreatDoor.Rows.uptoBulkAll]
theorem LF{H:Type}(d:DataW H):1<=uB d:=by
 cases d with
 | lit l=>cases l <;> simp[uB,Go.Proofs.YtbfjgcjjaoaaaaaGreatDoor.Rows.uptoBulk]
 | _=>simp[uB,Go.Proofs.YtbfjgcjjaoaaaaaGreatDoor.Rows.uptoBulk]
mutual
def Fz:PV->Nat
 | .str s=>s.length+1
 | .sl _ _ xs=>YR xs+1
 | .agg xs=>YR xs
 | _=>1
def YR:List PV->Nat
 | []=>0
 | p::ps=>Fz p+YR ps
end
theorem a3q(a b:List PV):YR (a++b)=YR a+YR b:=by
 induction a with
 | nil=>simp[YR]
 | cons x a ih=>rw[List.cons_append,YR,ih,YR];omega
theorem c5a{P:Program}{e:TypeId}{q:List PV}(hag:YW P e=true∨P.cellsOf e=1)(hl:q.length=P.cellsOf e):Fz (QB P e q)<=YR q:=by
 cases ha:YW P e with
 | true=>simp only[QB,ha];rw[Fz];exact Nat.le_refl _
 | false=>
  have h1:P.cellsOf e=1:=by simpa [ha]using hag
  rw[h1]at hl
  match q,hl with
  | [x],_=>simp only[QB,ha,List.headD_cons];rw[YR,YR];exact Nat.le_refl _
theorem Fx{H:Type}{f:List PV->PV}: ∀ {qs:List (List PV)} {xs:List (DataW H×List MemPlace)},qs.length=xs.length->(∀ (i:Nat) (q:List PV) (x:DataW H×List MemPlace),qs[i]? = some q->xs[i]? = some x->Fz (f q)<=uB x.1)->YR (qs.map f)<=uBs (xs.map (·.1))
 | [],[],_,_=>by simp[YR]
 | q::qs,x::xs,hl,h=>by
  have h0:=h 0 q x rfl rfl
  have h1:=Fx (qs:=qs) (xs:=xs) (by simpa using hl) fun i q x hq hx=>h (i+1) q x (by simpa using hq) (by simpa using hx)
  rw[List.map_cons,YR,List.map_cons,DJ]
  omega
 | [],_::_,hl,_=>by cases hl
 | _::_,[],hl,_=>by cases hl
def a8e(P:Program)(S:List TypeId):Bool:=S.all fun t=>match P.underlying t with|some (.array _ _)=>false|_=>true
section
variable {H:Type} {enc:TypeId×Value->H} {P:Program} {w:World} {base:Nat} {sp:Nat->Bool} {held:Bool} {S:List TypeId}
theorem AP{n:Nat}{cs:List Value}(ih : ∀ (t:TypeId) (cs:List Value) (x:DataW H×List MemPlace),t∈S->DataW.trod enc P w base sp held n t cs=some x-> ∃ ps,Cl w cs ps∧Wo P n t ps∧YR ps<=uB x.1):
  ∀ (fs:List Field) (o N:Nat) (xs:List (DataW H×List MemPlace)),UF P o fs N=true->(∀ f∈fs,f.type∈S)->cs.length=N->o<=N ->
   fs.mapM (fun f=>DataW.trod enc P w base sp held n f.type ((cs.drop f.offset).take (P.cellsOf f.type)))=some xs ->
   ∃ ps,Cl w (cs.drop o) ps∧YR ps<=uBs (xs.map (·.1))∧ ∀ qs:List PV,qs.length=o->(∀ f∈fs,Wo P n f.type (((qs++ps).drop f.offset).take (P.cellsOf f.type))):=by
 intro fs
 induction fs with
 | nil=>
  intro o N xs hc _ hl ho _
  simp[UF]at hc
  refine⟨[],?_,by simp[YR],fun qs _ f hf=>by simp at hf⟩
  rw[List.drop_of_length_le (by omega)]
  exact Cl.nil
 | cons f fs ihf=>
  intro o N xs hc hm hl ho h
  simp only[UF,Bool.and_eq_true,beq_iff_eq]at hc
  obtain⟨hfo,hc⟩:=hc
  simp only[List.mapM_cons,Option.bind_eq_bind,Option.bind_eq_some_iff]at h
  obtain⟨x,hx,xs',hxs,e⟩:=h
  cases e
  obtain⟨p1,k1,k2,w1⟩:=ih _ _ x (hm f List.mem_cons_self) hx
  have hle:o+P.cellsOf f.type<=N:=by
   have : ∀ (fs:List Field) (a:Nat),UF P a fs N=true->a<=N:=by
    intro fs
    induction fs with
    | nil=>intro a h;simp[UF]at h;omega
    | cons g fs ih=>intro a h;simp only[UF,Bool.and_eq_true]at h;have:=ih _ h.2;omega
   exact this _ _ hc
  obtain⟨p2,k3,w2,k4⟩:=ihf (o+P.cellsOf f.type) N xs' hc (fun g hg=>hm g (List.mem_cons_of_mem _ hg)) hl hle hxs
  have hp1:p1.length=P.cellsOf f.type:=by
   rw[<- k1.1.1,List.length_take,List.length_drop,hfo]
   omega
  refine⟨p1++p2,?_,by rw[a3q,List.map_cons,DJ];omega,fun qs hq g hg=> ?_⟩
  ·have:=k1.append k3
   rw[hfo]at this
   have e:cs.drop o=(cs.drop o).take (P.cellsOf f.type)++cs.drop (o+P.cellsOf f.type):=by rw[<- List.drop_drop,List.take_append_drop]
   rw[e]
   exact this
  ·rcases List.mem_cons.1 hg with rfl|hg
   ·rw[hfo,<- hq,List.drop_left,<- hp1,List.take_left]
    exact k2
   ·have:=k4 (qs++p1) (by simp[hq,hp1]) g hg
    rwa [List.append_assoc]at this
theorem RJ{n:Nat}{e:TypeId}{a:Addr}{len cap:Nat}{xs:List (DataW H×List MemPlace)}(hsz:0<P.cellsOf e)(hag:YW P e=true∨P.cellsOf e=1)(hcap:len<=cap)(hmax:cap<=maxLen)
  (ih : ∀ (cs:List Value) (x:DataW H×List MemPlace),DataW.trod enc P w base sp held n e cs=some x-> ∃ ps,Cl w cs ps∧Wo P n e ps∧YR ps<=uB x.1)
  (h:(List.range len).mapM (fun i=>(w.cells? base (a.add (i*P.cellsOf e)) (P.cellsOf e)).bind (DataW.trod enc P w base sp held n e))=some xs) :
  ∃ qs:List (List PV),RP (GZ w) (.slice (some a) len cap) (.sl (P.cellsOf e) false (qs.map (QB P e)))∧qs.length<=maxLen∧(∀ q∈qs,q.length=P.cellsOf e∧Wo P n e q)∧YR (qs.map (QB P e))<=uBs (xs.map (·.1)):=by
 obtain⟨hl,hg⟩:=R6 h
 rw[List.length_range]at hl
 have key : ∀ i,i<len-> ∃ q:List PV,(q.length=P.cellsOf e∧Wo P n e q∧ ∃ x,xs[i]? = some x∧YR q<=uB x.1)∧ ∀ (r:Nat) p,q[r]? = some p-> ∃ v,w.cell? (a.add (i*P.cellsOf e+r))=some v∧v.oneCell'=true∧RP (GZ w) v p:=by
  intro i hi
  have hx:=List.getElem?_eq_getElem (show i<xs.length by omega)
  have:=hg i i _ (by simp[hi]) hx
  rw[Option.bind_eq_some_iff]at this
  obtain⟨cs,h1,h2⟩:=this
  obtain⟨q,k1,k2,k3⟩:=ih cs _ h2
  obtain⟨c1,c2⟩:=O7 h1
  refine⟨q,⟨by rw[<- k1.1.1,c1],k2,_,hx,k3⟩,fun r p hp=> ?_⟩
  have hr:r<cs.length:=by rw[k1.1.1];exact(List.getElem?_eq_some_iff.1 hp).1
  have hv:=List.getElem?_eq_getElem hr
  refine⟨_,?_,k1.2 _ (List.getElem_mem hr),k1.1.2 r _ p hv hp⟩
  rw[<- a0b]
  exact c2 r _ hv
 obtain⟨qs,hq1,hq2⟩:=PT len key
 have hcells : ∀ q∈qs,(QB P e q).cells=q:=by
  intro q hq
  obtain⟨i,hi,rfl⟩:=List.getElem_of_mem hq
  have:=(hq2 i _ (List.getElem?_eq_getElem hi)).1
  exact EZ hag this.1 fun ha=>a5k this.2.1 ha
 refine⟨qs,?_,by omega,fun q hq=> ?_,?_⟩
 ·by_cases h0:len=0
  ·subst h0
   have:qs=[]:=List.length_eq_zero_iff.1 hq1
   subst this
   exact .sl0 _ _ _ _ fun e=>by cases e
  ·-- the first cell tells the block
   obtain⟨b,off,cs,rfl,hb,-⟩ : ∃ b off cs,a=⟨b,off,none⟩∧GZ w b=some cs∧True:=by
    have hq0:=List.getElem?_eq_getElem (show 0<qs.length by omega)
    obtain⟨⟨f1,f2,-⟩,f3⟩:=hq2 0 _ hq0
    have hp:=List.getElem?_eq_getElem (show 0<(qs[0]'(by omega)).length by omega)
    obtain⟨v,hv,_⟩:=f3 0 _ hp
    simp[Addr.add]at hv
    obtain⟨b,off,cs,e1,e2,_⟩:=BL hv
    exact⟨b,off,cs,e1,e2,trivial⟩
   have hs : ∀ x∈qs.map (QB P e),x.cells.length=P.cellsOf e:=by
    intro x hx
    obtain⟨q,hq,rfl⟩:=List.mem_map.1 hx
    rw[hcells q hq]
    obtain⟨i,hi,rfl⟩:=List.getElem_of_mem hq
    exact(hq2 i _ (List.getElem?_eq_getElem hi)).1.1
   have hat : ∀ (j:Nat) p,(flat (qs.map (QB P e)))[j]? = some p-> ∃ v,cs[off+j]? = some v∧v.oneCell'=true∧RP (GZ w) v p:=by
    intro j p hp
    have hj:j<len*P.cellsOf e:=by
     have:=(List.getElem?_eq_some_iff.1 hp).1
     rw[XD hs]at this
     simpa [hq1]using this
    have hi:j / P.cellsOf e<qs.length:=by rw[hq1];exact(Nat.div_lt_iff_lt_mul hsz).2 hj
    have hr:j % P.cellsOf e<P.cellsOf e:=Nat.mod_lt _ hsz
    have hqi:=List.getElem?_eq_getElem hi
    have e0:j=j / P.cellsOf e*P.cellsOf e+j % P.cellsOf e:=by rw[Nat.mul_comm];exact(Nat.div_add_mod _ _).symm
    have hxi:(qs.map (QB P e))[j / P.cellsOf e]? = some (QB P e qs[j / P.cellsOf e]):=by rw[List.getElem?_map,hqi];rfl
    have hfg:=Pf hs hxi hr
    rw[<- e0,hcells _ (List.getElem_mem hi)]at hfg
    rw[hfg]at hp
    obtain⟨v,hv,h1,h2⟩:=(hq2 _ _ hqi).2 _ p hp
    rw[<- e0,Y4]at hv
    obtain⟨b',off',cs',e1,e2,e3⟩:=BL hv
    cases e1
    rw[hb]at e2
    cases e2
    exact⟨v,e3,h1,h2⟩
   have hlen:len=(qs.map (QB P e)).length:=by simp[hq1]
   rw[hlen]
   refine .sl b off cs cap _ false _ (fun j=>(cs[off+j]?).getD default) hb (by rw[<- hlen];exact hcap) (fun e=>by cases e) hs (fun j p hp=> ?_) (fun j p hp=> ?_)
   ·obtain⟨v,h1,h2,h3⟩:=hat j p hp
    rw[h1]
    exact⟨rfl,h2⟩
   ·obtain⟨v,h1,h2,h3⟩:=hat j p hp
    rw[h1]
    exact h3
 ·obtain⟨i,hi,rfl⟩:=List.getElem_of_mem hq
  have:=(hq2 i _ (List.getElem?_eq_getElem hi)).1
  exact⟨this.1,this.2.1⟩
 ·refine Fx (by rw[hq1,hl]) fun i q x hq hx=> ?_
  have:=(hq2 i q hq).1
  obtain⟨y,hy,hw⟩:=this.2.2
  rw[hx]at hy
  cases hy
  have hm:=c5a (P:=P) (e:=e) (q:=q) hag this.1
  omega
theorem NL(hS:TS P S=true)(hA:a8e P S=true): ∀ (n:Nat) (t:TypeId) (cs:List Value) (x:DataW H×List MemPlace),t∈S->DataW.trod enc P w base sp held n t cs=some x-> ∃ ps,Cl w cs ps∧Wo P n t ps∧YR ps<=uB x.1:=by
  intro n
  induction n with
  | zero=>intro t cs x _ h;simp[DataW.trod]at h
  | succ n ih=>
    intro t cs x ht h
    have hp:=Aa hS ht
    have hna:=List.all_eq_true.1 hA t ht
    unfold DataW.trod at h
    unfold Wo
    split at h <;> (try rename_i hu) <;> (try simp only[hu]at hp hna ⊢) <;> try (cases hp;done)
    all_goals first
      | (exact⟨_,Cl.one (.bool _) rfl,⟨_,rfl⟩,LF _⟩)
      | (split at h
         · rename_i hc
           obtain⟨rfl,hw⟩:=hc
           exact⟨_,Cl.one (.int _ _) rfl,⟨_,rfl,hw⟩,LF _⟩
         · cases h)
      | (split at h
         · rename_i hc
           cases h
           refine⟨_,Cl.one (.str _) rfl,⟨_,rfl,hc⟩,?_⟩
           show YR [PV.str _]<=Go.Proofs.YtbfjgcjjaoaaaaaGreatDoor.Rows.uptoBulk (DataW.lit (.string _))
           rw[Go.Proofs.YtbfjgcjjaoaaaaaGreatDoor.Rows.uptoBulk,YR,YR,Fz]
           omega
         · cases h)
      | (cases h;done)
      | (cases hna;done)
      | skip
    · exact⟨_,Cl.one (.sl0 _ _ _ false (fun e=>by cases e)) rfl,⟨[],rfl,by simp,fun q hq=>by simp at hq⟩,LF _⟩
    · rename_i e a len cap
      simp only[Bool.and_eq_true,Bool.or_eq_true,beq_iff_eq,decide_eq_true_eq]at hp
      simp only at h
      split at h
      · rename_i hc
        obtain⟨xs,h1,h3⟩:=Option.bind_eq_some_iff.1 h
        obtain⟨ys,h4,rfl⟩:=Option.map_eq_some_iff.1 h3
        obtain⟨qs,k1,k2,k3,k4⟩:=RJ hp.1.2 hp.2 hc.2.1 hc.2.2 (fun cs x hx=>ih e cs x (by simpa using hp.1.1.2) hx) h1
        refine⟨_,Cl.one k1 rfl,⟨qs,rfl,k2,k3⟩,?_⟩
        show YR [PV.sl _ false (qs.map (QB P e))]<=Go.Proofs.YtbfjgcjjaoaaaaaGreatDoor.Rows.uptoBulk (DataW.slice (xs.map (·.1)) (ys.map (·.1)))
        rw[Go.Proofs.YtbfjgcjjaoaaaaaGreatDoor.Rows.uptoBulk,YR,YR,Fz]
        have:YR (qs.map (QB P e))<=Go.Proofs.YtbfjgcjjaoaaaaaGreatDoor.Rows.uptoBulkAll (xs.map (·.1)):=k4
        omega
      · cases h
    · rename_i cs2 fs
      simp only[Bool.and_eq_true]at hp
      split at h
      · rename_i hc
        rw[Option.map_eq_some_iff]at h
        obtain⟨xs,h1,rfl⟩:=h
        obtain⟨ps,k1,k3,k2⟩:=AP ih fs.toList 0 (P.cellsOf t) xs hp.1 (fun f hf=>by simpa using List.all_eq_true.1 hp.2 f hf) hc (Nat.zero_le _) h1
        rw[List.drop_zero]at k1
        refine⟨ps,k1,⟨by rw[<- k1.1.1,hc],fun f hf=>by simpa using k2 [] rfl f hf⟩,?_⟩
        show YR ps<=Go.Proofs.YtbfjgcjjaoaaaaaGreatDoor.Rows.uptoBulk (DataW.agg (xs.map (·.1)))
        rw[Go.Proofs.YtbfjgcjjaoaaaaaGreatDoor.Rows.uptoBulk]
        have:YR ps<=Go.Proofs.YtbfjgcjjaoaaaaaGreatDoor.Rows.uptoBulkAll (xs.map (·.1)):=k3
        omega
      · cases h
theorem EJ(hS:TS P S=true)(hA:a8e P S=true){t:TypeId}(ht:t∈S){r:Reach}{b0:Nat}{v:Value}{d:DataW H}{p:List MemPlace}(hval:Value.okWide P w r b0 t v)(h:DataW.Trod enc P w base sp held t v d p):
  ∃ n q,RP (GZ w) v (QB P t q)∧Wo P n t q∧YR q<=uB d:=by
 obtain⟨n,h⟩:=h
 obtain⟨q,k1,k2,k3⟩:=NL hS hA n t _ _ ht h
 refine⟨n,q,?_,k2,k3⟩
 have hp:=Aa hS ht
 have scal:v.cells = #[v]->YW P t=false->RP (GZ w) v (QB P t q):=by
  intro hc ha
  rw[hc]at k1
  have hl:=k1.1.1
  match q,hl with
  | [x],_=>simp only[QB,ha,List.headD_cons];exact k1.1.2 0 v x rfl rfl
 have agg : ∀ cs,v = .agg cs->YW P t=true->RP (GZ w) v (QB P t q):=by
  rintro cs rfl ha
  simp only[QB,ha]
  exact .agg cs q (by have:=k1.1.1;simpa [Value.cells]using this) (fun x hx=>k1.2 x (by simpa [Value.cells]using hx)) fun j x y hx hy=>k1.1.2 j x y (by simpa [Value.cells]using hx) hy
 split at hp
 ·rename_i hu
  obtain⟨b,rfl⟩:=okWide_bool hu hval
  exact scal rfl (by simp[YW,hu])
 ·rename_i hu
  obtain⟨b,rfl⟩:=okWide_int hu hval
  exact scal rfl (by simp[YW,hu])
 ·rename_i hu
  obtain⟨b,rfl⟩:=okWide_string hu hval
  exact scal rfl (by simp[YW,hu])
 ·rename_i hu
  obtain⟨a,l,c,rfl⟩:=okWide_slice hu hval
  exact scal rfl (by simp[YW,hu])
 ·rename_i hu
  simp only[Value.okWide,hu]at hval
  obtain⟨cs,rfl,_⟩:=hval
  exact agg cs rfl (by simp[YW,hu])
 ·rename_i hu
  simp only[Value.okWide,hu]at hval
  obtain⟨cs,rfl,_⟩:=hval
  exact agg cs rfl (by simp[YW,hu])
 ·cases hp
end
end Go.Pl

namespace Go.Pl
open Enc (enc dec is)
open EncL (encL decL isL)
theorem Lj(l:List Int):YR (l.map enc)=l.length:=by
 induction l with
 | nil=>rfl
 | cons a l ih=>rw[List.map_cons,YR,ih,List.length_cons];show 1+_=_;omega
theorem b5o(l:List Coef):YR (l.map enc)=(l.map wCf).sum:=by
 induction l with
 | nil=>rfl
 | cons a l ih=>
  rw[List.map_cons,YR,ih,List.map_cons,List.sum_cons]
  rfl
theorem c0h(l:List Lin):YR (l.map enc)=(l.map NF).sum:=by
 induction l with
 | nil=>rfl
 | cons a l ih=>
  rw[List.map_cons,YR,ih,List.map_cons,List.sum_cons]
  congr 1
  show Fz (.agg [.int .i64 a.k,.sl 2 false (a.t.map enc)])=_
  simp only[Fz,YR,b5o]
  unfold NF
  omega
mutual
theorem b7e: ∀ t:Tm,KX t<=Fz (Oc t)
 | .mk n ks=>by
  have h:=a4d ks
  have h1:=Lj n.dims
  have h2:=Lj n.data
  have h3:=Lj n.ranks
  have h4:=c0h n.sizes
  rw[Oc,KX]
  show wNd n+Vp ks<=Fz (.agg [.int .i64 n.kind,.int .i64 n.line,.str n.name.s,.int .i64 n.num,.str n.elem.s,.sl 1 false (n.dims.map enc),.sl 1 false (n.data.map enc),.sl 2 false (n.sizes.map enc),.sl 1 false (n.ranks.map enc),.sl 10 false (Ky ks)])
  simp only[Fz,YR,h1,h2,h3,h4]
  unfold wNd
  omega
theorem a4d: ∀ ks:List Tm,Vp ks<=YR (Ky ks)
 | []=>by simp[Vp,Ky,YR]
 | k::ks=>by
  have h1:=b7e k
  have h2:=a4d ks
  rw[Vp,Ky,YR];omega
end
end Go.Pl
namespace Go.Proofs.YtbfjgcjjaoaaaaaGreatDoor
open Go.Pl
set_option maxRecDepth 100000
open Enc (enc dec is)
open EncL (encL decL isL)
theorem QI:Tryz.prog.underlying 3=some (.int .i64):=by kernel_rfl
theorem Rf:Tryz.prog.underlying 9=some .string:=by kernel_rfl
theorem a5z:Tryz.prog.underlying 22=some (.slice 3):=by kernel_rfl
theorem a4w:Tryz.prog.underlying 39=some (.slice 66):=by kernel_rfl
theorem a1y:Tryz.prog.underlying 25=some (.slice 41):=by kernel_rfl
theorem a9a:Tryz.prog.underlying 26=some (.slice 28):=by kernel_rfl
theorem G5:Tryz.prog.cellsOf 3=1:=by kernel_rfl
theorem TJ:Tryz.prog.cellsOf 9=1:=by kernel_rfl
theorem Rq:Tryz.prog.cellsOf 22=1:=by kernel_rfl
theorem a8v:Tryz.prog.cellsOf 39=1:=by kernel_rfl
theorem a9v:Tryz.prog.cellsOf 25=1:=by kernel_rfl
theorem a4n:Tryz.prog.cellsOf 26=1:=by kernel_rfl
theorem Rk:Tryz.prog.cellsOf 66=2:=by kernel_rfl
theorem PK:Tryz.prog.cellsOf 41=2:=by kernel_rfl
theorem Ny:Tryz.prog.cellsOf 24=3:=by kernel_rfl
theorem Px:Tryz.prog.cellsOf 28=10:=by kernel_rfl
theorem b8b:YW Tryz.prog 66=true:=by kernel_rfl
theorem c1u:YW Tryz.prog 41=true:=by kernel_rfl
theorem a7g:YW Tryz.prog 28=true:=by kernel_rfl
theorem a7w:QH Tryz.prog 66=some [(0,9),(1,3)]:=by kernel_rfl
theorem a9t:QH Tryz.prog 41=some [(0,3),(1,39)]:=by kernel_rfl
theorem a3m:QH Tryz.prog 24=some [(0,9),(1,22),(2,22)]:=by kernel_rfl
theorem a7z:QH Tryz.prog 28=some [(0,3),(1,3),(2,9),(3,3),(4,24),(7,25),(8,22),(9,26)]:=by kernel_rfl
theorem Gx{α:Type}[Enc α]{f:List PV->PV}: ∀ {qs:List (List PV)},(∀ q∈qs,∃ a:α,f q=enc a)-> ∃ l:List α,qs.map f=l.map enc
 | [],_=>⟨[],rfl⟩
 | q::qs,h=>by
  obtain⟨a,e⟩:=h q (by simp)
  obtain⟨l,e2⟩:=Gx (qs:=qs) fun x hx=>h x (by simp[hx])
  exact⟨a::l,by rw[List.map_cons,List.map_cons,e,e2]⟩
theorem b6u{n:Nat}{q:List PV}(h:Wo Tryz.prog n 66 q): ∃ t:Coef,QB Tryz.prog 66 q=enc t:=by
 obtain⟨m,_,hl,h0,h1,_⟩:=VR a7w Rk h
 match q,hl with
 | [a,b],_=>
  rw[TJ]at h0
  rw[G5]at h1
  obtain⟨s,e0,_⟩:=Be Rf h0
  obtain⟨k,e1,_⟩:=Ut QI h1
  simp at e0 e1
  subst e0 e1
  exact⟨⟨⟨s⟩,k⟩,by rw[QB,b8b];rfl⟩
theorem Tc{n:Nat}{q:List PV}(h:Wo Tryz.prog n 22 q): ∃ l:List Int,q=[enc l]:=by
 obtain⟨zs,e,_⟩:=EA a5z QI G5 h
 exact⟨zs,e⟩
theorem b1n{n:Nat}{q:List PV}(h:Wo Tryz.prog n 41 q): ∃ l:Lin,QB Tryz.prog 41 q=enc l:=by
 obtain⟨m,_,hl,h0,h1,_⟩:=VR a9t PK h
 match q,hl with
 | [a,b],_=>
  rw[G5]at h0
  rw[a8v]at h1
  obtain⟨k,e0,_⟩:=Ut QI h0
  obtain⟨m',_,qs,e1,_,hq⟩:=UZ a4w Rk h1
  obtain⟨l,e2⟩:=Gx (α:=Coef) (f:=QB Tryz.prog 66) fun x hx=>b6u (hq x hx).2
  simp at e0 e1
  subst e0 e1
  exact⟨⟨k,l⟩,by rw[QB,c1u,e2];rfl⟩
theorem b4m: ∀ (n:Nat) {q:List PV},Wo Tryz.prog n 28 q-> ∃ t:Tm,QB Tryz.prog 28 q=enc t:=by
 intro n
 induction n using Nat.strongRecOn with
 | ind n ih=>
  intro q h
  obtain⟨m,hm,hl,h0,h1,h2,h3,h4,h5,h6,h7,_⟩:=VR a7z Px h
  match q,hl with
  | [a,b,c,d,e,f,g,i,j,k],_=>
   rw[G5]at h0 h1 h3
   rw[TJ]at h2
   rw[Ny]at h4
   rw[a9v]at h5
   rw[Rq]at h6
   rw[a4n]at h7
   obtain⟨v0,e0,_⟩:=Ut QI h0
   obtain⟨v1,e1,_⟩:=Ut QI h1
   obtain⟨v2,e2,_⟩:=Be Rf h2
   obtain⟨v3,e3,_⟩:=Ut QI h3
   obtain⟨m4,_,_,k0,k1,k2,_⟩:=VR a3m Ny h4
   rw[TJ]at k0
   rw[Rq]at k1 k2
   obtain⟨v4,e4,_⟩:=Be Rf k0
   obtain⟨v5,e5⟩:=Tc k1
   obtain⟨v6,e6⟩:=Tc k2
   obtain⟨m7,_,qs,e7,_,hq⟩:=UZ a1y PK h5
   obtain⟨v7,e7'⟩:=Gx (α:=Lin) (f:=QB Tryz.prog 41) fun x hx=>b1n (hq x hx).2
   obtain⟨v8,e8⟩:=Tc h6
   obtain⟨m9,hm9,ts,e9,_,ht⟩:=UZ a9a Px h7
   obtain⟨v9,e9'⟩:=Gx (α:=Tm) (f:=QB Tryz.prog 28) fun x hx=>ih m9 (by omega) (ht x hx).2
   simp at e0 e1 e2 e3 e4 e5 e6 e7 e8 e9
   subst e0 e1 e2 e3 e4 e5 e6 e7 e8 e9
   exact⟨.mk ⟨v0,v1,⟨v2⟩,v3,⟨v4⟩,v5,v6,v7,v8⟩ v9,by rw[QB,a7g,ZX,e7',e9'];rfl⟩
theorem a1d{n:Nat}{q:List PV}(h:Wo Tryz.prog n 28 q)(hw:YR q<=1048576):preT (fun x:Tm×Unit=>tW x.1) [QB Tryz.prog 28 q]=true:=by
 obtain⟨t,e⟩:=b4m n h
 rw[e]
 refine Ze (t,()) rfl (decide_eq_true ?_)
 have h1:=b7e t
 have h2:Fz (QB Tryz.prog 28 q)<=YR q:=by simp only[QB,a7g];rw[Fz];exact Nat.le_refl _
 rw[e]at h2
 have h3:Fz (Oc t)<=YR q:=h2
 show KX t<=1048576
 omega
end Go.Proofs.YtbfjgcjjaoaaaaaGreatDoor

namespace Go.Proofs.YtbfjgcjjaoaaaaaGreatDoor
open Go.Shelf
def Tryz.lays145_ren:Go.Shelf.Ren:=⟨fun|145=>131|220=>156|219=>173|217=>180|225=>181|224=>182|267=>183|266=>186|314=>187|n=>n,fun|9=>9|4=>4|59=>129|3=>3|5=>5|46=>114|146=>185|51=>140|n=>n,fun|1=>1|n=>n⟩
theorem Tryz.lays145:Go.Proofs.Lays.n145 Tryz.prog Tryz.lays145_ren:={
 mixed:=by kernel_rfl
 f145:=Tryz.func131.trans (congrArg some (by kernel_rfl))
 f217:=Tryz.func180.trans (congrArg some (by kernel_rfl))
 f219:=Tryz.func173.trans (congrArg some (by kernel_rfl))
 f220:=Tryz.func156.trans (congrArg some (by kernel_rfl))
 f224:=Tryz.func182.trans (congrArg some (by kernel_rfl))
 f225:=Tryz.func181.trans (congrArg some (by kernel_rfl))
 f266:=Tryz.func186.trans (congrArg some (by kernel_rfl))
 f267:=Tryz.func183.trans (congrArg some (by kernel_rfl))
 f314:=Tryz.func187.trans (congrArg some (by kernel_rfl))
 t3:=Tryz.underlying3
 a3:=Tryz.isAgg3
 z3:=Tryz.sizeOf3
 v3:=Tryz.zeroValue3
 t4:=Tryz.underlying4
 a4:=Tryz.isAgg4
 z4:=Tryz.sizeOf4
 v4:=Tryz.zeroValue4
 t5:=Tryz.underlying5
 a5:=Tryz.isAgg5
 z5:=Tryz.sizeOf5
 v5:=Tryz.zeroValue5
 t9:=Tryz.underlying9
 a9:=Tryz.isAgg9
 z9:=Tryz.sizeOf9
 v9:=Tryz.zeroValue9
 t46:=Tryz.underlying114
 a46:=Tryz.isAgg114
 z46:=Tryz.sizeOf114
 v46:=Tryz.zeroValue114
 t51:=Tryz.underlying140
 a51:=Tryz.isAgg140
 z51:=Tryz.sizeOf140
 v51:=Tryz.zeroValue140
 t59:=Tryz.underlying129
 a59:=Tryz.isAgg129
 z59:=Tryz.sizeOf129
 v59:=Tryz.zeroValue129
 t146:=Tryz.underlying185
 a146:=Tryz.isAgg185
 z146:=Tryz.sizeOf185
 v146:=Tryz.zeroValue185
 g1:=by kernel_rfl}
def Tryz.lays156_ren:Go.Shelf.Ren:=⟨fun|156=>55|165=>90|166=>91|169=>92|240=>112|241=>113|276=>147|277=>148|n=>n,fun|31=>45|9=>9|3=>3|4=>4|0=>0|20=>20|72=>99|76=>103|70=>97|37=>82|75=>102|127=>116|164=>146|5=>5|80=>105|n=>n,fun|n=>n⟩
theorem Tryz.lays156:Go.Proofs.Lays.n156 Tryz.prog Tryz.lays156_ren:={
 mixed:=by kernel_rfl
 f156:=Tryz.func55.trans (congrArg some (by kernel_rfl))
 f165:=Tryz.func90.trans (congrArg some (by kernel_rfl))
 f166:=Tryz.func91.trans (congrArg some (by kernel_rfl))
 f169:=Tryz.func92.trans (congrArg some (by kernel_rfl))
 f240:=Tryz.func112.trans (congrArg some (by kernel_rfl))
 f241:=Tryz.func113.trans (congrArg some (by kernel_rfl))
 f276:=Tryz.func147.trans (congrArg some (by kernel_rfl))
 f277:=Tryz.func148.trans (congrArg some (by kernel_rfl))
 t0:=Tryz.underlying0
 a0:=Tryz.isAgg0
 z0:=Tryz.sizeOf0
 v0:=Tryz.zeroValue0
 t3:=Tryz.underlying3
 a3:=Tryz.isAgg3
 z3:=Tryz.sizeOf3
 v3:=Tryz.zeroValue3
 t4:=Tryz.underlying4
 a4:=Tryz.isAgg4
 z4:=Tryz.sizeOf4
 v4:=Tryz.zeroValue4
 t9:=Tryz.underlying9
 a9:=Tryz.isAgg9
 z9:=Tryz.sizeOf9
 v9:=Tryz.zeroValue9
 t20:=Tryz.underlying20
 a20:=Tryz.isAgg20
 z20:=Tryz.sizeOf20
 v20:=Tryz.zeroValue20
 t31:=Tryz.underlying45
 a31:=Tryz.isAgg45
 z31:=Tryz.sizeOf45
 v31:=Tryz.zeroValue45
 t37:=Tryz.underlying82
 a37:=Tryz.isAgg82
 z37:=Tryz.sizeOf82
 v37:=Tryz.zeroValue82
 t70:=Tryz.underlying97
 a70:=Tryz.isAgg97
 z70:=Tryz.sizeOf97
 v70:=Tryz.zeroValue97
 t72:=Tryz.underlying99
 a72:=Tryz.isAgg99
 z72:=Tryz.sizeOf99
 v72:=Tryz.zeroValue99
 t75:=Tryz.underlying102
 a75:=Tryz.isAgg102
 z75:=Tryz.sizeOf102
 v75:=Tryz.zeroValue102
 t76:=Tryz.underlying103
 a76:=Tryz.isAgg103
 z76:=Tryz.sizeOf103
 v76:=Tryz.zeroValue103
 t127:=Tryz.underlying116
 a127:=Tryz.isAgg116
 z127:=Tryz.sizeOf116
 v127:=Tryz.zeroValue116
 t164:=Tryz.underlying146
 a164:=Tryz.isAgg146
 z164:=Tryz.sizeOf146
 v164:=Tryz.zeroValue146}
def Tryz.lays121_ren:Go.Shelf.Ren:=⟨fun|121=>52|214=>89|n=>n,fun|4=>4|9=>9|n=>n,fun|n=>n⟩
theorem Tryz.lays121:Go.Proofs.Lays.n121 Tryz.prog Tryz.lays121_ren:={
 mixed:=by kernel_rfl
 f121:=Tryz.func52.trans (congrArg some (by kernel_rfl))
 f214:=Tryz.func89.trans (congrArg some (by kernel_rfl))
 t4:=Tryz.underlying4
 a4:=Tryz.isAgg4
 z4:=Tryz.sizeOf4
 v4:=Tryz.zeroValue4
 t9:=Tryz.underlying9
 a9:=Tryz.isAgg9
 z9:=Tryz.sizeOf9
 v9:=Tryz.zeroValue9}
def Tryz.lays102_ren:Go.Shelf.Ren:=⟨fun|102=>58|209=>95|207=>116|n=>n,fun|9=>9|4=>4|3=>3|n=>n,fun|n=>n⟩
theorem Tryz.lays102:Go.Proofs.Lays.n102 Tryz.prog Tryz.lays102_ren:={
 mixed:=by kernel_rfl
 f102:=Tryz.func58.trans (congrArg some (by kernel_rfl))
 f207:=Tryz.func116.trans (congrArg some (by kernel_rfl))
 f209:=Tryz.func95.trans (congrArg some (by kernel_rfl))
 t3:=Tryz.underlying3
 a3:=Tryz.isAgg3
 z3:=Tryz.sizeOf3
 v3:=Tryz.zeroValue3
 t4:=Tryz.underlying4
 a4:=Tryz.isAgg4
 z4:=Tryz.sizeOf4
 v4:=Tryz.zeroValue4
 t9:=Tryz.underlying9
 a9:=Tryz.isAgg9
 z9:=Tryz.sizeOf9
 v9:=Tryz.zeroValue9}
def Tryz.lays288_ren:Go.Shelf.Ren:=⟨fun|288=>120|283=>143|284=>144|285=>145|286=>146|129=>142|317=>163|318=>164|319=>165|320=>166|337=>175|338=>176|n=>n,fun|37=>82|53=>122|3=>3|4=>4|9=>9|171=>142|0=>0|173=>144|212=>159|51=>140|5=>5|20=>20|213=>160|46=>114|232=>179|233=>180|n=>n,fun|17=>0|18=>4|19=>5|n=>n⟩
theorem Tryz.lays288:Go.Proofs.LaysM.n288 Tryz.prog Tryz.lays288_ren:={
 mixed:=by kernel_rfl
 f129:=Tryz.func142.trans (congrArg some (by kernel_rfl))
 f283:=Tryz.func143.trans (congrArg some (by kernel_rfl))
 f284:=Tryz.func144.trans (congrArg some (by kernel_rfl))
 f285:=Tryz.func145.trans (congrArg some (by kernel_rfl))
 f286:=Tryz.func146.trans (congrArg some (by kernel_rfl))
 f288:=Tryz.func120.trans (congrArg some (by kernel_rfl))
 f317:=Tryz.func163.trans (congrArg some (by kernel_rfl))
 f318:=Tryz.func164.trans (congrArg some (by kernel_rfl))
 f319:=Tryz.func165.trans (congrArg some (by kernel_rfl))
 f320:=Tryz.func166.trans (congrArg some (by kernel_rfl))
 f337:=Tryz.func175.trans (congrArg some (by kernel_rfl))
 f338:=Tryz.func176.trans (congrArg some (by kernel_rfl))
 t0:=Tryz.underlying0
 a0:=Tryz.isAgg0
 z0:=Tryz.sizeOf0
 v0:=Tryz.zeroValue0
 t3:=Tryz.underlying3
 a3:=Tryz.isAgg3
 z3:=Tryz.sizeOf3
 v3:=Tryz.zeroValue3
 t4:=Tryz.underlying4
 a4:=Tryz.isAgg4
 z4:=Tryz.sizeOf4
 v4:=Tryz.zeroValue4
 t5:=Tryz.underlying5
 a5:=Tryz.isAgg5
 z5:=Tryz.sizeOf5
 v5:=Tryz.zeroValue5
 t9:=Tryz.underlying9
 a9:=Tryz.isAgg9
 z9:=Tryz.sizeOf9
 v9:=Tryz.zeroValue9
 t20:=Tryz.underlying20
 a20:=Tryz.isAgg20
 z20:=Tryz.sizeOf20
 v20:=Tryz.zeroValue20
 t37:=Tryz.underlying82
 a37:=Tryz.isAgg82
 z37:=Tryz.sizeOf82
 v37:=Tryz.zeroValue82
 t46:=Tryz.underlying114
 a46:=Tryz.isAgg114
 z46:=Tryz.sizeOf114
 v46:=Tryz.zeroValue114
 t51:=Tryz.underlying140
 a51:=Tryz.isAgg140
 z51:=Tryz.sizeOf140
 v51:=Tryz.zeroValue140
 t53:=Tryz.underlying122
 a53:=Tryz.isAgg122
 z53:=Tryz.sizeOf122
 v53:=Tryz.zeroValue122
 t171:=Tryz.underlying142
 a171:=Tryz.isAgg142
 z171:=Tryz.sizeOf142
 v171:=Tryz.zeroValue142
 t173:=Tryz.underlying144
 a173:=Tryz.isAgg144
 z173:=Tryz.sizeOf144
 v173:=Tryz.zeroValue144
 t212:=Tryz.underlying159
 a212:=Tryz.isAgg159
 z212:=Tryz.sizeOf159
 v212:=Tryz.zeroValue159
 t213:=Tryz.underlying160
 a213:=Tryz.isAgg160
 z213:=Tryz.sizeOf160
 t232:=Tryz.underlying179
 a232:=Tryz.isAgg179
 z232:=Tryz.sizeOf179
 v232:=Tryz.zeroValue179
 t233:=Tryz.underlying180
 a233:=Tryz.isAgg180
 z233:=Tryz.sizeOf180
 v233:=Tryz.zeroValue180
 g17:=by kernel_rfl
 g18:=by kernel_rfl
 g19:=by kernel_rfl
 i0:=by kernel_rfl
 i3:=by kernel_rfl
 i4:=by kernel_rfl
 i5:=by kernel_rfl
 i9:=by kernel_rfl
 i20:=by kernel_rfl
 i37:=by kernel_rfl
 i46:=by kernel_rfl
 i51:=by kernel_rfl
 i53:=by kernel_rfl
 i171:=by kernel_rfl
 i173:=by kernel_rfl
 i212:=by kernel_rfl
 i232:=by kernel_rfl
 i233:=by kernel_rfl
 m17:=by kernel_rfl
 m18:=by kernel_rfl
 m19:=by kernel_rfl}
end Go.Proofs.YtbfjgcjjaoaaaaaGreatDoor

namespace Go.Proofs.YtbfjgcjjaoaaaaaGreatDoor
open Go.Shelf
def Tryz.lays172_ren:Go.Shelf.Ren:=⟨fun|172=>115|244=>150|245=>151|247=>167|279=>168|280=>169|281=>170|282=>171|287=>177|316=>178|171=>51|205=>179|321=>184|322=>185|243=>88|246=>111|283=>143|284=>144|285=>145|286=>146|129=>142|317=>163|318=>164|319=>165|320=>166|337=>175|338=>176|n=>n,fun|9=>9|3=>3|75=>102|76=>103|4=>4|5=>5|167=>161|37=>82|0=>0|85=>162|2=>2|168=>164|53=>122|175=>172|46=>114|210=>176|127=>116|145=>184|143=>182|21=>21|171=>142|173=>144|212=>159|51=>140|20=>20|213=>160|232=>179|233=>180|80=>105|n=>n,fun|15=>2|16=>3|17=>0|18=>4|19=>5|n=>n⟩
theorem Tryz.lays172:Go.Proofs.LaysC.n172 Tryz.prog Tryz.lays172_ren:={
 mixed:=by kernel_rfl
 f129:=Tryz.func142.trans (congrArg some (by kernel_rfl))
 f171:=Tryz.func51.trans (congrArg some (by kernel_rfl))
 f172:=Tryz.func115.trans (congrArg some (by kernel_rfl))
 f205:=Tryz.func179.trans (congrArg some (by kernel_rfl))
 f243:=Tryz.func88.trans (congrArg some (by kernel_rfl))
 f244:=Tryz.func150.trans (congrArg some (by kernel_rfl))
 f245:=Tryz.func151.trans (congrArg some (by kernel_rfl))
 f246:=Tryz.func111.trans (congrArg some (by kernel_rfl))
 f247:=Tryz.func167.trans (congrArg some (by kernel_rfl))
 f279:=Tryz.func168.trans (congrArg some (by kernel_rfl))
 f280:=Tryz.func169.trans (congrArg some (by kernel_rfl))
 f281:=Tryz.func170.trans (congrArg some (by kernel_rfl))
 f282:=Tryz.func171.trans (congrArg some (by kernel_rfl))
 f283:=Tryz.func143.trans (congrArg some (by kernel_rfl))
 f284:=Tryz.func144.trans (congrArg some (by kernel_rfl))
 f285:=Tryz.func145.trans (congrArg some (by kernel_rfl))
 f286:=Tryz.func146.trans (congrArg some (by kernel_rfl))
 f287:=Tryz.func177.trans (congrArg some (by kernel_rfl))
 f316:=Tryz.func178.trans (congrArg some (by kernel_rfl))
 f317:=Tryz.func163.trans (congrArg some (by kernel_rfl))
 f318:=Tryz.func164.trans (congrArg some (by kernel_rfl))
 f319:=Tryz.func165.trans (congrArg some (by kernel_rfl))
 f320:=Tryz.func166.trans (congrArg some (by kernel_rfl))
 f321:=Tryz.func184.trans (congrArg some (by kernel_rfl))
 f322:=Tryz.func185.trans (congrArg some (by kernel_rfl))
 f337:=Tryz.func175.trans (congrArg some (by kernel_rfl))
 f338:=Tryz.func176.trans (congrArg some (by kernel_rfl))
 t0:=Tryz.underlying0
 a0:=Tryz.isAgg0
 z0:=Tryz.sizeOf0
 v0:=Tryz.zeroValue0
 t2:=Tryz.underlying2
 a2:=Tryz.isAgg2
 z2:=Tryz.sizeOf2
 v2:=Tryz.zeroValue2
 t3:=Tryz.underlying3
 a3:=Tryz.isAgg3
 z3:=Tryz.sizeOf3
 v3:=Tryz.zeroValue3
 t4:=Tryz.underlying4
 a4:=Tryz.isAgg4
 z4:=Tryz.sizeOf4
 v4:=Tryz.zeroValue4
 t5:=Tryz.underlying5
 a5:=Tryz.isAgg5
 z5:=Tryz.sizeOf5
 v5:=Tryz.zeroValue5
 t9:=Tryz.underlying9
 a9:=Tryz.isAgg9
 z9:=Tryz.sizeOf9
 v9:=Tryz.zeroValue9
 t20:=Tryz.underlying20
 a20:=Tryz.isAgg20
 z20:=Tryz.sizeOf20
 v20:=Tryz.zeroValue20
 t21:=Tryz.underlying21
 a21:=Tryz.isAgg21
 z21:=Tryz.sizeOf21
 v21:=Tryz.zeroValue21
 t37:=Tryz.underlying82
 a37:=Tryz.isAgg82
 z37:=Tryz.sizeOf82
 v37:=Tryz.zeroValue82
 t46:=Tryz.underlying114
 a46:=Tryz.isAgg114
 z46:=Tryz.sizeOf114
 v46:=Tryz.zeroValue114
 t51:=Tryz.underlying140
 a51:=Tryz.isAgg140
 z51:=Tryz.sizeOf140
 v51:=Tryz.zeroValue140
 t53:=Tryz.underlying122
 a53:=Tryz.isAgg122
 z53:=Tryz.sizeOf122
 v53:=Tryz.zeroValue122
 t75:=Tryz.underlying102
 a75:=Tryz.isAgg102
 z75:=Tryz.sizeOf102
 v75:=Tryz.zeroValue102
 t76:=Tryz.underlying103
 a76:=Tryz.isAgg103
 z76:=Tryz.sizeOf103
 v76:=Tryz.zeroValue103
 t85:=Tryz.underlying162
 a85:=Tryz.isAgg162
 z85:=Tryz.sizeOf162
 v85:=Tryz.zeroValue162
 t127:=Tryz.underlying116
 a127:=Tryz.isAgg116
 z127:=Tryz.sizeOf116
 v127:=Tryz.zeroValue116
 t143:=Tryz.underlying182
 a143:=Tryz.isAgg182
 z143:=Tryz.sizeOf182
 v143:=Tryz.zeroValue182
 t145:=Tryz.underlying184
 a145:=Tryz.isAgg184
 z145:=Tryz.sizeOf184
 v145:=Tryz.zeroValue184
 t167:=Tryz.underlying161
 a167:=Tryz.isAgg161
 z167:=Tryz.sizeOf161
 v167:=Tryz.zeroValue161
 t168:=Tryz.underlying164
 a168:=Tryz.isAgg164
 z168:=Tryz.sizeOf164
 v168:=Tryz.zeroValue164
 t171:=Tryz.underlying142
 a171:=Tryz.isAgg142
 z171:=Tryz.sizeOf142
 v171:=Tryz.zeroValue142
 t173:=Tryz.underlying144
 a173:=Tryz.isAgg144
 z173:=Tryz.sizeOf144
 v173:=Tryz.zeroValue144
 t175:=Tryz.underlying172
 a175:=Tryz.isAgg172
 z175:=Tryz.sizeOf172
 v175:=Tryz.zeroValue172
 t210:=Tryz.underlying176
 a210:=Tryz.isAgg176
 z210:=Tryz.sizeOf176
 v210:=Tryz.zeroValue176
 t212:=Tryz.underlying159
 a212:=Tryz.isAgg159
 z212:=Tryz.sizeOf159
 v212:=Tryz.zeroValue159
 t213:=Tryz.underlying160
 a213:=Tryz.isAgg160
 z213:=Tryz.sizeOf160
 t232:=Tryz.underlying179
 a232:=Tryz.isAgg179
 z232:=Tryz.sizeOf179
 v232:=Tryz.zeroValue179
 t233:=Tryz.underlying180
 a233:=Tryz.isAgg180
 z233:=Tryz.sizeOf180
 v233:=Tryz.zeroValue180
 g15:=by kernel_rfl
 g16:=by kernel_rfl
 g17:=by kernel_rfl
 g18:=by kernel_rfl
 g19:=by kernel_rfl
 t80:=Tryz.underlying105
 a80:=Tryz.isAgg105
 z80:=Tryz.sizeOf105
 v80:=Tryz.zeroValue105
 i0:=by kernel_rfl
 i2:=by kernel_rfl
 i3:=by kernel_rfl
 i4:=by kernel_rfl
 i5:=by kernel_rfl
 i9:=by kernel_rfl
 i20:=by kernel_rfl
 i21:=by kernel_rfl
 i37:=by kernel_rfl
 i46:=by kernel_rfl
 i51:=by kernel_rfl
 i53:=by kernel_rfl
 i75:=by kernel_rfl
 i76:=by kernel_rfl
 i80:=by kernel_rfl
 i85:=by kernel_rfl
 i127:=by kernel_rfl
 i143:=by kernel_rfl
 i145:=by kernel_rfl
 i167:=by kernel_rfl
 i168:=by kernel_rfl
 i171:=by kernel_rfl
 i173:=by kernel_rfl
 i175:=by kernel_rfl
 i210:=by kernel_rfl
 i212:=by kernel_rfl
 i232:=by kernel_rfl
 i233:=by kernel_rfl
 m15:=by kernel_rfl
 m16:=by kernel_rfl
 m17:=by kernel_rfl
 m18:=by kernel_rfl
 m19:=by kernel_rfl
 c0:=by kernel_rfl
 c2:=by kernel_rfl
 c3:=by kernel_rfl
 c4:=by kernel_rfl
 c5:=by kernel_rfl
 c9:=by kernel_rfl
 c20:=by kernel_rfl
 c21:=by kernel_rfl
 c37:=by kernel_rfl
 c46:=by kernel_rfl
 c51:=by kernel_rfl
 c53:=by kernel_rfl
 c75:=by kernel_rfl
 c76:=by kernel_rfl
 c80:=by kernel_rfl
 c85:=by kernel_rfl
 c127:=by kernel_rfl
 c143:=by kernel_rfl
 c145:=by kernel_rfl
 c167:=by kernel_rfl
 c168:=by kernel_rfl
 c171:=by kernel_rfl
 c173:=by kernel_rfl
 c175:=by kernel_rfl
 c210:=by kernel_rfl
 c212:=by kernel_rfl
 c213:=by kernel_rfl
 c232:=by kernel_rfl
 c233:=by kernel_rfl}
def Tryz.lays171_ren:Go.Shelf.Ren:=⟨fun|171=>51|243=>88|246=>111|283=>143|284=>144|285=>145|286=>146|129=>142|317=>163|318=>164|319=>165|320=>166|337=>175|338=>176|n=>n,fun|3=>3|9=>9|2=>2|4=>4|171=>142|0=>0|53=>122|37=>82|5=>5|173=>144|212=>159|51=>140|20=>20|213=>160|46=>114|232=>179|233=>180|n=>n,fun|17=>0|18=>4|19=>5|n=>n⟩
theorem Tryz.lays171:Go.Proofs.LaysM.n171 Tryz.prog Tryz.lays171_ren:={
 mixed:=by kernel_rfl
 f129:=Tryz.func142.trans (congrArg some (by kernel_rfl))
 f171:=Tryz.func51.trans (congrArg some (by kernel_rfl))
 f243:=Tryz.func88.trans (congrArg some (by kernel_rfl))
 f246:=Tryz.func111.trans (congrArg some (by kernel_rfl))
 f283:=Tryz.func143.trans (congrArg some (by kernel_rfl))
 f284:=Tryz.func144.trans (congrArg some (by kernel_rfl))
 f285:=Tryz.func145.trans (congrArg some (by kernel_rfl))
 f286:=Tryz.func146.trans (congrArg some (by kernel_rfl))
 f317:=Tryz.func163.trans (congrArg some (by kernel_rfl))
 f318:=Tryz.func164.trans (congrArg some (by kernel_rfl))
 f319:=Tryz.func165.trans (congrArg some (by kernel_rfl))
 f320:=Tryz.func166.trans (congrArg some (by kernel_rfl))
 f337:=Tryz.func175.trans (congrArg some (by kernel_rfl))
 f338:=Tryz.func176.trans (congrArg some (by kernel_rfl))
 t0:=Tryz.underlying0
 a0:=Tryz.isAgg0
 z0:=Tryz.sizeOf0
 v0:=Tryz.zeroValue0
 t2:=Tryz.underlying2
 a2:=Tryz.isAgg2
 z2:=Tryz.sizeOf2
 v2:=Tryz.zeroValue2
 t3:=Tryz.underlying3
 a3:=Tryz.isAgg3
 z3:=Tryz.sizeOf3
 v3:=Tryz.zeroValue3
 t4:=Tryz.underlying4
 a4:=Tryz.isAgg4
 z4:=Tryz.sizeOf4
 v4:=Tryz.zeroValue4
 t5:=Tryz.underlying5
 a5:=Tryz.isAgg5
 z5:=Tryz.sizeOf5
 v5:=Tryz.zeroValue5
 t9:=Tryz.underlying9
 a9:=Tryz.isAgg9
 z9:=Tryz.sizeOf9
 v9:=Tryz.zeroValue9
 t20:=Tryz.underlying20
 a20:=Tryz.isAgg20
 z20:=Tryz.sizeOf20
 v20:=Tryz.zeroValue20
 t37:=Tryz.underlying82
 a37:=Tryz.isAgg82
 z37:=Tryz.sizeOf82
 v37:=Tryz.zeroValue82
 t46:=Tryz.underlying114
 a46:=Tryz.isAgg114
 z46:=Tryz.sizeOf114
 v46:=Tryz.zeroValue114
 t51:=Tryz.underlying140
 a51:=Tryz.isAgg140
 z51:=Tryz.sizeOf140
 v51:=Tryz.zeroValue140
 t53:=Tryz.underlying122
 a53:=Tryz.isAgg122
 z53:=Tryz.sizeOf122
 v53:=Tryz.zeroValue122
 t171:=Tryz.underlying142
 a171:=Tryz.isAgg142
 z171:=Tryz.sizeOf142
 v171:=Tryz.zeroValue142
 t173:=Tryz.underlying144
 a173:=Tryz.isAgg144
 z173:=Tryz.sizeOf144
 v173:=Tryz.zeroValue144
 t212:=Tryz.underlying159
 a212:=Tryz.isAgg159
 z212:=Tryz.sizeOf159
 v212:=Tryz.zeroValue159
 t213:=Tryz.underlying160
 a213:=Tryz.isAgg160
 z213:=Tryz.sizeOf160
 t232:=Tryz.underlying179
 a232:=Tryz.isAgg179
 z232:=Tryz.sizeOf179
 v232:=Tryz.zeroValue179
 t233:=Tryz.underlying180
 a233:=Tryz.isAgg180
 z233:=Tryz.sizeOf180
 v233:=Tryz.zeroValue180
 g17:=by kernel_rfl
 g18:=by kernel_rfl
 g19:=by kernel_rfl
 i0:=by kernel_rfl
 i2:=by kernel_rfl
 i3:=by kernel_rfl
 i4:=by kernel_rfl
 i5:=by kernel_rfl
 i9:=by kernel_rfl
 i20:=by kernel_rfl
 i37:=by kernel_rfl
 i46:=by kernel_rfl
 i51:=by kernel_rfl
 i53:=by kernel_rfl
 i171:=by kernel_rfl
 i173:=by kernel_rfl
 i212:=by kernel_rfl
 i232:=by kernel_rfl
 i233:=by kernel_rfl
 m17:=by kernel_rfl
 m18:=by kernel_rfl
 m19:=by kernel_rfl}
def Tryz.lays99_ren:Go.Shelf.Ren:=⟨fun|99=>114|206=>149|n=>n,fun|9=>9|4=>4|3=>3|n=>n,fun|n=>n⟩
theorem Tryz.lays99:Go.Proofs.Lays.n99 Tryz.prog Tryz.lays99_ren:={
 mixed:=by kernel_rfl
 f99:=Tryz.func114.trans (congrArg some (by kernel_rfl))
 f206:=Tryz.func149.trans (congrArg some (by kernel_rfl))
 t3:=Tryz.underlying3
 a3:=Tryz.isAgg3
 z3:=Tryz.sizeOf3
 v3:=Tryz.zeroValue3
 t4:=Tryz.underlying4
 a4:=Tryz.isAgg4
 z4:=Tryz.sizeOf4
 v4:=Tryz.zeroValue4
 t9:=Tryz.underlying9
 a9:=Tryz.isAgg9
 z9:=Tryz.sizeOf9
 v9:=Tryz.zeroValue9}
def Tryz.lays190_ren:Go.Shelf.Ren:=⟨fun|190=>85|125=>110|258=>109|128=>141|129=>142|302=>132|303=>133|304=>134|305=>135|306=>136|307=>137|308=>138|309=>139|310=>140|333=>157|329=>158|330=>159|334=>160|335=>161|336=>162|344=>174|n=>n,fun|31=>45|9=>9|3=>3|46=>114|0=>0|51=>140|53=>122|4=>4|183=>133|182=>132|131=>137|5=>5|218=>151|222=>155|228=>169|229=>170|n=>n,fun|n=>n⟩
theorem Tryz.lays190:Go.Proofs.Lays.n190 Tryz.prog Tryz.lays190_ren:={
 mixed:=by kernel_rfl
 f125:=Tryz.func110.trans (congrArg some (by kernel_rfl))
 f128:=Tryz.func141.trans (congrArg some (by kernel_rfl))
 f129:=Tryz.func142.trans (congrArg some (by kernel_rfl))
 f190:=Tryz.func85.trans (congrArg some (by kernel_rfl))
 f258:=Tryz.func109.trans (congrArg some (by kernel_rfl))
 f302:=Tryz.func132.trans (congrArg some (by kernel_rfl))
 f303:=Tryz.func133.trans (congrArg some (by kernel_rfl))
 f304:=Tryz.func134.trans (congrArg some (by kernel_rfl))
 f305:=Tryz.func135.trans (congrArg some (by kernel_rfl))
 f306:=Tryz.func136.trans (congrArg some (by kernel_rfl))
 f307:=Tryz.func137.trans (congrArg some (by kernel_rfl))
 f308:=Tryz.func138.trans (congrArg some (by kernel_rfl))
 f309:=Tryz.func139.trans (congrArg some (by kernel_rfl))
 f310:=Tryz.func140.trans (congrArg some (by kernel_rfl))
 f329:=Tryz.func158.trans (congrArg some (by kernel_rfl))
 f330:=Tryz.func159.trans (congrArg some (by kernel_rfl))
 f333:=Tryz.func157.trans (congrArg some (by kernel_rfl))
 f334:=Tryz.func160.trans (congrArg some (by kernel_rfl))
 f335:=Tryz.func161.trans (congrArg some (by kernel_rfl))
 f336:=Tryz.func162.trans (congrArg some (by kernel_rfl))
 f344:=Tryz.func174.trans (congrArg some (by kernel_rfl))
 t0:=Tryz.underlying0
 a0:=Tryz.isAgg0
 z0:=Tryz.sizeOf0
 v0:=Tryz.zeroValue0
 t3:=Tryz.underlying3
 a3:=Tryz.isAgg3
 z3:=Tryz.sizeOf3
 v3:=Tryz.zeroValue3
 t4:=Tryz.underlying4
 a4:=Tryz.isAgg4
 z4:=Tryz.sizeOf4
 v4:=Tryz.zeroValue4
 t5:=Tryz.underlying5
 a5:=Tryz.isAgg5
 z5:=Tryz.sizeOf5
 v5:=Tryz.zeroValue5
 t9:=Tryz.underlying9
 a9:=Tryz.isAgg9
 z9:=Tryz.sizeOf9
 v9:=Tryz.zeroValue9
 t31:=Tryz.underlying45
 a31:=Tryz.isAgg45
 z31:=Tryz.sizeOf45
 v31:=Tryz.zeroValue45
 t46:=Tryz.underlying114
 a46:=Tryz.isAgg114
 z46:=Tryz.sizeOf114
 v46:=Tryz.zeroValue114
 t51:=Tryz.underlying140
 a51:=Tryz.isAgg140
 z51:=Tryz.sizeOf140
 v51:=Tryz.zeroValue140
 t53:=Tryz.underlying122
 a53:=Tryz.isAgg122
 z53:=Tryz.sizeOf122
 v53:=Tryz.zeroValue122
 t131:=Tryz.underlying137
 a131:=Tryz.isAgg137
 z131:=Tryz.sizeOf137
 v131:=Tryz.zeroValue137
 t182:=Tryz.underlying132
 a182:=Tryz.isAgg132
 z182:=Tryz.sizeOf132
 v182:=Tryz.zeroValue132
 t183:=Tryz.underlying133
 a183:=Tryz.isAgg133
 z183:=Tryz.sizeOf133
 v183:=Tryz.zeroValue133
 t218:=Tryz.underlying151
 a218:=Tryz.isAgg151
 z218:=Tryz.sizeOf151
 v218:=Tryz.zeroValue151
 t222:=Tryz.underlying155
 a222:=Tryz.isAgg155
 z222:=Tryz.sizeOf155
 v222:=Tryz.zeroValue155
 t228:=Tryz.underlying169
 a228:=Tryz.isAgg169
 z228:=Tryz.sizeOf169
 v228:=Tryz.zeroValue169
 t229:=Tryz.underlying170
 a229:=Tryz.isAgg170
 z229:=Tryz.sizeOf170
 v229:=Tryz.zeroValue170}
end Go.Proofs.YtbfjgcjjaoaaaaaGreatDoor

namespace Go.Proofs.YtbfjgcjjaoaaaaaGreatDoor
open Go.Pl Go.RowKit
open Enc (enc dec is)
open EncL (encL decL isL)
set_option maxRecDepth 100000
theorem QZ:Zn Tryz.prog 114 (fun _:Str×Str×Unit=>true) (fun x:Str×Str×Unit=>x.2.1.s.isPrefixOf x.1.s):=YF (by
  rintro⟨⟨s⟩,⟨p⟩,⟨⟩⟩ hps Φ w vs hL hΦ hv
  obtain⟨u,v,rfl,h1,h2⟩:=b5e hv
  rw[VZ h1,VZ h2]
  refine(Any.strings_HasPrefix Tryz.lays99 ⟨s.toArray⟩ ⟨p.toArray⟩ w).mono ?_
  rintro e w' ⟨rfl,rfl⟩
  exact⟨_,rfl,.bool _,.refl _ _⟩)
theorem b0k:Zn Tryz.prog 115 (fun x:Str×Unit=>decide (x.1.s.length<=1000000)) (fun x:Str×Unit=>Yg x.1):=YF (by
  rintro⟨⟨s⟩,⟨⟩⟩ hps Φ w vs hL hΦ hv
  have hs:s.length<=1000000:=by simpa using hps
  obtain⟨v,rfl,h1⟩:=b2j hv
  rw[VZ h1]
  have hsz:(⟨s.toArray⟩:ByteArray).size=s.length:=rfl
  cases h:Lib.atoiAll s
  ·rename_i n
   have e1:Yg ⟨s⟩=(n,⟨false⟩):=by simp only[Yg,h]
   rw[e1]
   refine(Any.strconv_Atoi_ok Tryz.lays172 ⟨s.toArray⟩ (by rw[hsz];omega) n h w).mono ?_
   rintro e w' ⟨rfl,hw⟩
   refine⟨_,rfl,.tup _ _ rfl ?_,?_⟩
   ·intro j v x hv hx
    match j with
    | 0=>cases hv;cases hx;exact .int _ _
    | 1=>cases hv;cases hx;exact .nili
    | j+2=>simp at hv
   ·rcases hw with rfl|⟨t,rfl⟩
    ·exact .refl _ _
    ·exact Gh _ _ 0 _
  ·skip
   have e1:Yg ⟨s⟩=(0,⟨true⟩):=by simp only[Yg,h]
   rw[e1]
   obtain⟨cs,hc,ev,he,hev⟩:=hL.syn
   refine(Any.strconv_Atoi_syntax Tryz.lays172 ⟨s.toArray⟩ (by rw[hsz];omega) h ev w (Ur hΦ hc he) hev).mono ?_
   rintro e w' ⟨N,rfl,_,_,hb⟩
   refine⟨_,rfl,.tup _ _ rfl ?_,hb⟩
   intro j v x hv hx
   match j with
   | 0=>cases hv;cases hx;exact .int _ _
   | 1=>cases hv;cases hx;exact .ifc _ _
   | j+2=>simp at hv
  ·skip
   have e1:Yg ⟨s⟩=(Lib.atoiSat s,⟨true⟩):=by simp only[Yg,h]
   rw[e1]
   obtain⟨cs,hc,ev,he,hev⟩:=hL.rng
   refine(Any.strconv_Atoi_range Tryz.lays172 ⟨s.toArray⟩ (by rw[hsz];omega) h ev w (Ur hΦ hc he) hev).mono ?_
   rintro e w' ⟨N,rfl,_,_,hb⟩
   refine⟨_,rfl,.tup _ _ rfl ?_,hb⟩
   intro j v x hv hx
   match j with
   | 0=>cases hv;cases hx;exact .int _ _
   | 1=>cases hv;cases hx;exact .ifc _ _
   | j+2=>simp at hv)
theorem Un:Zn Tryz.prog 51 (fun x:Int×Unit=>decide (-9223372036854775808<=x.1)&&decide (x.1<=9223372036854775807)) (fun x:Int×Unit=>ZI x.1):=YF (by
  rintro⟨n,⟨⟩⟩ hps Φ w vs hL hΦ hv
  obtain⟨v,rfl,h1⟩:=b2j hv
  have h1:RP Φ v (.int .i64 n):=h1
  rw[c1n h1]
  have hn : -9223372036854775808<=n∧n<=9223372036854775807:=by simpa using hps
  have hg:=hL.pow
  obtain⟨T,fz,hh⟩:=hΦ _ _ hg
  refine(Any.strconv_Itoa Tryz.lays171 n hn.1 hn.2 w ?_).mono ?_
  ·unfold Lib.TabIs World.var?
   rw[show Program.globalNamed Tryz.prog "internal/strconv.uint64pow10" = some 0 by kernel_rfl]
   simp only[Option.bind_some,hh]
   rfl
  ·rintro e w' ⟨rfl,k,os,rfl⟩
   refine⟨_,rfl,.str _,?_⟩
   exact⟨rfl,rfl,rfl,by show w.heap.size<=(w.heap++os).size;simp,fun j hj=>by show(w.heap++os)[j]? = _;rw[Array.getElem?_append_left hj]⟩)
end Go.Proofs.YtbfjgcjjaoaaaaaGreatDoor

namespace Go.Proofs.YtbfjgcjjaoaaaaaGreatDoor
open Go.Pl Go.RowKit
open Enc (enc dec is)
open EncL (encL decL isL)
set_option maxRecDepth 100000
theorem b7h: ∀ s:List UInt8,((s.dropWhile fun c=>c != 46)=[]->Lib.index s [46] = -1) ∧
  ∀ (c:UInt8) (r:List UInt8),(s.dropWhile fun c=>c != 46)=c::r->Lib.index s [46]=((s.takeWhile fun c=>c != 46).length:Nat)∧s.drop ((s.takeWhile fun c=>c != 46).length+1)=r∧s.take (s.takeWhile fun c=>c != 46).length=s.takeWhile fun c=>c != 46
 | []=>⟨fun _=>rfl,fun _ _ h=>by cases h⟩
 | b::l=>by
  obtain⟨h1,h2⟩:=b7h l
  by_cases hb:b=46
  ·subst hb
   refine⟨fun h=>by simp at h,fun c r h=> ?_⟩
   have h:(46:UInt8)::l=c::r:=by simpa using h
   cases h
   exact⟨rfl,rfl,rfl⟩
  ·have hbn:(b != 46)=true:=by simpa using hb
   have hp:([46]:List UInt8).isPrefixOf (b::l)=false:=by simp[List.isPrefixOf];exact fun e=>hb e.symm
   have ei:Lib.index (b::l) [46]=if Lib.index l [46] == -1 then -1 else Lib.index l [46]+1:=by rw[Lib.index,hp];rfl
   rw[List.dropWhile_cons,if_pos hbn,List.takeWhile_cons,if_pos hbn]
   refine⟨fun h=>by rw[ei,h1 h];rfl,fun c r h=> ?_⟩
   obtain⟨k1,k2,k3⟩:=h2 c r h
   rw[ei,k1]
   refine⟨?_,?_,?_⟩
   ·rw[if_neg (by simp),List.length_cons];rfl
   ·rw[List.length_cons,List.drop_succ_cons];exact k2
   ·rw[List.length_cons,List.take_succ_cons,k3]
theorem b3i(s:List UInt8):Lib.cut s [46]=((Vv ⟨s⟩).a.s,(Vv ⟨s⟩).b.s,(Vv ⟨s⟩).c):=by
 obtain⟨h1,h2⟩:=b7h s
 unfold Lib.cut Vv
 cases hd:s.dropWhile fun c=>c != 46 with
 | nil=>
  rw[h1 hd]
  rfl
 | cons c r=>
  obtain⟨k1,k2,k3⟩:=h2 c r hd
  rw[k1,if_pos (by omega),Int.toNat_natCast,k3]
  show(_,s.drop ((s.takeWhile fun c=>c != 46).length+1),true)=_
  rw[k2]
theorem a3w:Zn Tryz.prog 131 (fun x:Str×Str×Unit=>decide (x.1.s.length<=1048576)&&decide (x.2.1.s=[46])) (fun x:Str×Str×Unit=>Vv x.1):=YF (by
  rintro⟨⟨s⟩,⟨p⟩,⟨⟩⟩ hps Φ w vs hL hΦ hv
  simp only[Bool.and_eq_true,decide_eq_true_eq]at hps
  obtain⟨hs,hp⟩:=hps
  have hp:p=[46]:=hp
  subst hp
  obtain⟨u,v,rfl,h1,h2⟩:=b5e hv
  rw[VZ h1,VZ h2]
  obtain⟨cs,m,hc,hm⟩:=hL.mx
  have hsz:(⟨s.toArray⟩:ByteArray).size=s.length:=rfl
  refine(Any.strings_Cut Tryz.lays145 ⟨s.toArray⟩ ⟨#[46]⟩ m w (by rw[hsz];have hs:s.length<=1048576:=hs;omega) (Ur hΦ hc hm)).mono ?_
  rintro e w' ⟨rfl,k,rfl⟩
  refine⟨_,rfl,.tup _ _ rfl ?_,?_⟩
  ·rw[show(⟨s.toArray⟩:ByteArray).data.toList=s from rfl,show(⟨#[46]⟩:ByteArray).data.toList=[46]from rfl,b3i]
   intro j v x hv hx
   match j with
   | 0=>cases hv;cases hx;exact .str _
   | 1=>cases hv;cases hx;exact .str _
   | 2=>cases hv;cases hx;exact .bool _
   | j+3=>simp at hv
  ·exact⟨rfl,rfl,rfl,Nat.le_refl _,fun _ _=>rfl⟩)
theorem Eg:Lib.formatBool true=[116,114,117,101]:=by decide
theorem LU:Lib.formatBool false=[102,97,108,115,101]:=by decide
theorem b8j:Zn Tryz.prog 52 (fun _:Bool×Unit=>true) (fun x:Bool×Unit=>b5h x.1):=YF (by
  rintro⟨b,⟨⟩⟩ _ Φ w vs hL hΦ hv
  obtain⟨v,rfl,h1⟩:=b2j hv
  have h1:RP Φ v (.bool b):=h1
  cases h1
  refine(Any.strconv_FormatBool Tryz.lays121 b w).mono ?_
  rintro e w' ⟨rfl,rfl⟩
  refine⟨_,rfl,?_,.refl _ _⟩
  cases b
  ·rw[LU];exact .str _
  ·rw[Eg];exact .str _)
theorem Ca:Zn Tryz.prog 58 (fun x:Str×Str×Unit=>decide (x.1.s.length<=1000000)) (fun x:Str×Str×Unit=>(⟨Lib.trimSuffix x.1.s x.2.1.s⟩:Str)):=YF (by
  rintro⟨⟨s⟩,⟨p⟩,⟨⟩⟩ hps Φ w vs hL hΦ hv
  have hs:s.length<=1000000:=by simpa using hps
  obtain⟨u,v,rfl,h1,h2⟩:=b5e hv
  rw[VZ h1,VZ h2]
  have hsz:(⟨s.toArray⟩:ByteArray).size=s.length:=rfl
  refine(Any.strings_TrimSuffix Tryz.lays102 ⟨s.toArray⟩ ⟨p.toArray⟩ w (by rw[hsz];omega)).mono ?_
  rintro e w' ⟨rfl,rfl⟩
  exact⟨_,rfl,.str _,.refl _ _⟩)
theorem b7u:Builder.Extra Tryz.prog Tryz.lays156_ren where
 sizeBuilder:=by kernel_rfl
 liesBuilder:=by kernel_rfl
 t5:=Tryz.lays288.t5
 a5:=Tryz.lays288.a5
 z5:=Tryz.lays288.z5
 v5:=Tryz.lays288.v5
 infoByte:=by kernel_rfl
 cellsByte:=by kernel_rfl
 sizeByte:=by kernel_rfl
 neB5:=by decide
theorem KA: ∀ l:List (List UInt8),Lib.join l [44,32]=Yd l
 | []=>rfl
 | [s]=>by simp[Lib.join,List.intercalate,Yd]
 | s::t::r=>by
  have h:=KA (t::r)
  rw[Yd]
  ·rw[<- h]
   simp[Lib.join,List.intercalate]
  ·simp
theorem O6(l:List Str):flat (l.map (enc:Str->PV))=l.map fun s:Str=>PV.str s.s:=by
 induction l with
 | nil=>rfl
 | cons a l ih=>rw[List.map_cons,List.map_cons,<- ih];rfl
theorem a2s:Zn Tryz.prog 55 (fun x:List Str×Str×Unit=>Y8 x.1&&decide (x.2.1.s=[44,32])) (fun x:List Str×Str×Unit=>Yi x.1):=YF (by
  rintro⟨l,⟨p⟩,⟨⟩⟩ hps Φ w vs hL hΦ hv
  simp only[Bool.and_eq_true,decide_eq_true_eq]at hps
  obtain⟨hj,hp⟩:=hps
  have hp:p=[44,32]:=hp
  subst hp
  have hj:Y8 l=true:=hj
  unfold Y8 at hj
  simp only[Bool.and_eq_true,decide_eq_true_eq]at hj
  obtain⟨u,v,rfl,h1,h2⟩:=b5e hv
  have h1:RP Φ u (.sl 1 false (l.map enc)):=h1
  rw[VZ h2]
  have em:(l.map fun s:Str=>(⟨s.s.toArray⟩:ByteArray)).map (·.data.toList)=l.map (·.s):=by rw[List.map_map];rfl
  by_cases hl:l=[]
  ·subst hl
   have : ∃ a c,u = .slice a 0 c:=by
    cases h1 with
    | sl0 a c _ _ h=>exact⟨a,c,rfl⟩
    | sl b off cs c _ _ _ uu hb hc htt hs hu hr=>exact⟨_,_,rfl⟩
   obtain⟨a,c,rfl⟩:=this
   refine(Any.strings_Join_none Tryz.lays156 b7u a c ⟨#[44,32]⟩ w).mono ?_
   rintro e w' ⟨rfl,rfl⟩
   exact⟨_,rfl,.str _,.refl _ _⟩
  ·obtain⟨b,off,c,cs,us,rfl,hb,hc,_,h3,h4,h5,h6⟩:=h1.sl_cells hΦ (by simpa using hl)
   obtain⟨T,fz,hh⟩:=hΦ b cs hb
   have hblt:b<w.heap.size:=(Array.getElem?_eq_some_iff.1 hh).1
   have ef:=O6 l
   rw[ef]at h5
   have hcells : ∀ (j:Nat) x,(l.map fun s:Str=>(⟨s.s.toArray⟩:ByteArray))[j]? = some x->w.cell? ⟨b,off+j,none⟩=some (.string x):=fun j x hx=>by
    rw[List.getElem?_map,Option.map_eq_some_iff]at hx
    obtain⟨s,hs,rfl⟩:=hx
    have hj2:j<us.length:=by rw[h5.1,List.length_map];exact(List.getElem?_eq_some_iff.1 hs).1
    have hu:=List.getElem?_eq_getElem hj2
    have hr:=h5.2 j _ _ hu (by rw[List.getElem?_map,hs];rfl)
    rw[h4 j _ hu,VZ hr]
   have hlen:(l.map (enc:Str->PV)).length=(l.map fun s:Str=>(⟨s.s.toArray⟩:ByteArray)).length:=by rw[List.length_map,List.length_map]
   rw[hlen]at hc ⊢
   refine(Any.strings_Join Tryz.lays156 b7u b off c (l.map fun s:Str=>(⟨s.s.toArray⟩:ByteArray)) ⟨#[44,32]⟩ w hcells hblt (by rw[List.length_map];omega) hc (by
    rw[em]
    show(Lib.join (l.map (·.s)) [44,32]).length<=_
    rw[KA];omega)).mono ?_
   rintro e w' ⟨rfl,hbl⟩
   refine⟨_,rfl,?_,hbl⟩
   rw[em]
   show RP Φ (.string ⟨(Lib.join (l.map (·.s)) [44,32]).toArray⟩) _
   rw[KA]
   exact .str _)
theorem Dn:Yo Tryz.prog 120 (KD 5) TN:=c0p (ρ:=Tryz.lays288_ren) Tryz.lays288 fun Φ w hL hΦ=>by
 have hg:=hL.pow
 obtain⟨T,fz,hh⟩:=hΦ _ _ hg
 unfold Lib.TabIs World.var?
 rw[show Program.globalNamed Tryz.prog "internal/strconv.uint64pow10" = some 0 by kernel_rfl]
 simp only[Option.bind_some,hh]
 rfl
end Go.Proofs.YtbfjgcjjaoaaaaaGreatDoor

namespace Go.Proofs.YtbfjgcjjaoaaaaaGreatDoor
open Go.Shelf
def Tryz.keysA_ren:Go.Shelf.Ren:=⟨fun|7=>48|10=>86|n=>n,fun|23=>64|26=>9|3=>4|28=>69|0=>0|27=>68|33=>54|4=>4|n=>n,fun|n=>n⟩
theorem Tryz.keysA:Go.Proofs.SlLaysZ.n7 Tryz.prog Tryz.keysA_ren:={
 mixed:=by kernel_rfl
 f7:=⟨Tryz.f48.name,by decide,Tryz.func48.trans (congrArg some (by kernel_rfl))⟩
 f10:=⟨Tryz.f86.name,by decide,Tryz.func86.trans (congrArg some (by kernel_rfl))⟩
 t0:=Tryz.underlying0
 a0:=Tryz.isAgg0
 z0:=Tryz.sizeOf0
 v0:=Tryz.zeroValue0
 t4:=Tryz.underlying4
 a4:=Tryz.isAgg4
 z4:=Tryz.sizeOf4
 v4:=Tryz.zeroValue4
 t23:=Tryz.underlying64
 a23:=Tryz.isAgg64
 z23:=Tryz.sizeOf64
 v23:=Tryz.zeroValue64
 t26:=Tryz.underlying9
 a26:=Tryz.isAgg9
 z26:=Tryz.sizeOf9
 v26:=Tryz.zeroValue9
 t27:=Tryz.underlying68
 a27:=Tryz.isAgg68
 z27:=Tryz.sizeOf68
 v27:=Tryz.zeroValue68
 t28:=Tryz.underlying69
 a28:=Tryz.isAgg69
 z28:=Tryz.sizeOf69
 v28:=Tryz.zeroValue69
 t33:=Tryz.underlying54
 a33:=Tryz.isAgg54
 z33:=Tryz.sizeOf54
 v33:=Tryz.zeroValue54}
def Tryz.sortedA_ren:Go.Shelf.Ren:=⟨fun|6=>47|8=>84|9=>85|11=>108|13=>110|12=>109|23=>141|24=>142|14=>132|15=>133|16=>134|17=>135|18=>136|19=>137|20=>138|21=>139|22=>140|25=>157|26=>158|27=>159|28=>160|29=>161|30=>162|31=>174|n=>n,fun|26=>9|28=>69|24=>45|0=>0|3=>3|37=>114|48=>140|50=>122|4=>4|40=>133|39=>132|45=>137|5=>5|9=>9|51=>151|55=>155|57=>169|58=>170|33=>54|n=>n,fun|n=>n⟩
theorem Tryz.sortedA:Go.Proofs.SlLaysZ.n6 Tryz.prog Tryz.sortedA_ren:={
 mixed:=by kernel_rfl
 f6:=⟨Tryz.f47.name,by decide,Tryz.func47.trans (congrArg some (by kernel_rfl))⟩
 f8:=⟨Tryz.f84.name,by decide,Tryz.func84.trans (congrArg some (by kernel_rfl))⟩
 f11:=⟨Tryz.f108.name,by decide,Tryz.func108.trans (congrArg some (by kernel_rfl))⟩
 t0:=Tryz.underlying0
 a0:=Tryz.isAgg0
 z0:=Tryz.sizeOf0
 v0:=Tryz.zeroValue0
 t24:=Tryz.underlying45
 a24:=Tryz.isAgg45
 z24:=Tryz.sizeOf45
 v24:=Tryz.zeroValue45
 t26:=Tryz.underlying9
 a26:=Tryz.isAgg9
 z26:=Tryz.sizeOf9
 v26:=Tryz.zeroValue9
 t28:=Tryz.underlying69
 a28:=Tryz.isAgg69
 z28:=Tryz.sizeOf69
 v28:=Tryz.zeroValue69
 i26:=by kernel_rfl}
end Go.Proofs.YtbfjgcjjaoaaaaaGreatDoor


namespace Go.Proofs.YtbfjgcjjaoaaaaaGreatDoor
open Go.RowKit Go.Shelf Go.Pl Go.Proofs
theorem b6l(m:Nat):AnyZ.SortsIn Tryz.prog Tryz.sortedA_ren Fence.wide m:=
  ⟨fun blk off cap ss W hH hblk hsz=>callsIn_wide.2 (Any.slices_Sort_string Tryz.lays190 blk off cap ss W hH hblk hsz),
   fun p cap W=>callsIn_wide.2 (Any.slices_Sort_string_none Tryz.lays190 p cap W)⟩
theorem b4x:SortedC Tryz.prog 47 86 9 where
 str:=by kernel_rfl
 run:=by
  intro Bm b nn D0 w hBm hm hown hmax hbytes
  have hseq:SeqGives Fence.wide 2 Tryz.prog 86 #[.pointer (some ⟨Bm,0,none⟩)] encStr (fun ss=>ss.Perm (strKeys D0)) (Maps.size D0) w:=
   AnyZ.keys_gives (ρ:=Tryz.keysA_ren) {Tryz.keysA with} Fence.wide _ trivial rfl (by omega) Bm b nn D0 _ hBm hm hown
  exact callsIn_wide.1 (AnyZ.sorted_in Tryz.sortedA Fence.wide 5 trivial trivial trivial trivial rfl (by omega) (b6l _) (enters_of Tryz.func85 (by kernel_rfl) rfl) 86 #[.pointer (some ⟨Bm,0,none⟩)] trivial (enters_of Tryz.func86 (by kernel_rfl) rfl) _ _ hmax hbytes _ hseq)
theorem c3w:Yo Tryz.prog 47 (V3 86) UU:=Lc (LV b4x)
end Go.Proofs.YtbfjgcjjaoaaaaaGreatDoor

namespace Go.Proofs.YtbfjgcjjaoaaaaaGreatDoor
open Go.RowKit Go.Lib Go.Pl
theorem a5o:(Tryz.prog.info? 3).map (fun i=>(i.zero,i.size,i.bytes))=some (some (.int .i64 0),1,8):=by kernel_rfl
theorem Jb:Tryz.prog.underlying 22=some (.slice 3):=by kernel_rfl
theorem ML(n c:Nat)(w:World):Calls Tryz.prog 119 #[.slice none n c] w fun e w'=>e = .returned (.slice none 0 0)∧w'=w:=by
 have q22 : ∀ (w:World) (a:Option Addr) (n c n' c':Nat),(binOp .eql 22 (.slice a n c) (.slice none n' c')).run Tryz.prog w = .ok (.bool a.isNone) w:=fun w a n c n' c'=>Lib.run_eql_slice_nil w _ _ a n c n' c' Jb
 go_enter Tryz.func119,Tryz.ntmps119
 go_wp2
 go_ret
 exact⟨rfl,rfl⟩
theorem RX(a:Addr)(c:Nat)(w:World):Calls Tryz.prog 119 #[.slice (some a) 0 c] w fun e w'=>(∃ g,e = .returned (.slice (some g) 0 0))∧Below w.heap.size w w':=by
 have q22 : ∀ (w:World) (a:Option Addr) (n c n' c':Nat),(binOp .eql 22 (.slice a n c) (.slice none n' c')).run Tryz.prog w = .ok (.bool a.isNone) w:=fun w a n c n' c'=>Lib.run_eql_slice_nil w _ _ a n c n' c' Jb
 obtain⟨i0,hi,hz0,hz1,hz2⟩:=info_parts a5o
 go_enter Tryz.func119,Tryz.ntmps119
 go_wp2_with (at_builtin;refine Lib.wpList_append_run _ rfl _ _ _ _ rfl _ _ rfl rfl _ _ (X6 Jb hi (Nat.le_refl _)) ?_)
 go_ret
 exact⟨⟨_,rfl⟩,(Below.refl _ w).alloc (Nat.le_refl _) _⟩
theorem RQ(a:Addr)(n c:Nat)(news:List Value)(w:World)(h0:0<n)(hn:n<=2000000)(hl:news.length=n*1)(hc : ∀ j u,news[j]? = some u->w.cell? (a.add j)=some u)(h1 : ∀ u∈news,u.oneCell'=true):
  Calls Tryz.prog 119 #[.slice (some a) n c] w fun e w'=> ∃ v',e = .returned v'∧w'.ownsRow w.heap.size 3 1 v' n news∧Below w.heap.size w w':=by
 have q22 : ∀ (w:World) (a:Option Addr) (n c n' c':Nat),(binOp .eql 22 (.slice a n c) (.slice none n' c')).run Tryz.prog w = .ok (.bool a.isNone) w:=fun w a n c n' c'=>Lib.run_eql_slice_nil w _ _ a n c n' c' Jb
 obtain⟨i0,hi,hz0,hz1,hz2⟩:=info_parts a5o
 have A:Aside (∀ j u,news[j]? = some u->w.cell? (a.add j)=some u):=hc
 clear hc
 go_enter Tryz.func119,Tryz.ntmps119
 go_wp2_with (at_builtin;refine wpList_append_own _ rfl _ _ 22 rfl w.heap.size 3 i0 (.int .i64 0) 1 8 Jb hi hz0 hz1 hz2 rfl (by decide) _ _ _ rfl (World.ownsRow_made w #[] 0 (Nat.le_refl _) (Nat.zero_le _) rfl) a n c news rfl ?qc1 ?qc2 ?qc3 ?qc4 ?qc5 ?qc6 ?_)
 case qc1=>exact hl
 case qc2=>intro j u hj;exact Lib.cell?_alloc_some _ (A.out j u hj)
 case qc3=>exact h1
 case qc4=>unfold maxLen;omega
 case qc5=>omega
 case qc6=>simp
 intro v' w1 hown hgrow hnil
 go_wp2
 go_ret
 refine⟨v',rfl,by simpa using hown,?_⟩
 exact((Below.refl _ w).alloc (Nat.le_refl _) _).grown hgrow (by simp) (by intro k hk;simp[Value.ownBlock]at hk;omega)
theorem b8v:CloneC Tryz.prog 119 3 1:=⟨ML,RX,RQ⟩
end Go.Proofs.YtbfjgcjjaoaaaaaGreatDoor

namespace Go.Proofs.YtbfjgcjjaoaaaaaGreatDoor
open Go.Pl
open Enc (enc dec is)
open EncL (encL decL isL)
set_option maxRecDepth 100000
theorem ZW:Tryz.prog.follows .mixedOrders=true:=by kernel_rfl
theorem ED:Zn Tryz.prog 115 (fun x:Str×Unit=>decide (x.1.s.length<=281474976710656)) (fun x:Str×Unit=>Yg x.1):=YF (by
  rintro⟨⟨s⟩,⟨⟩⟩ hps Φ w vs hL hΦ hv
  have hs:s.length<=281474976710656:=by simpa using hps
  obtain⟨v,rfl,h1⟩:=b2j hv
  rw[VZ h1]
  have hsz:(⟨s.toArray⟩:ByteArray).size=s.length:=rfl
  cases h:Lib.atoiAll s
  ·rename_i n
   have e1:Yg ⟨s⟩=(n,⟨false⟩):=by simp only[Yg,h]
   rw[e1]
   refine(Any.strconv_Atoi_ok Tryz.lays172 ⟨s.toArray⟩ (by rw[hsz];omega) n h w).mono ?_
   rintro e w' ⟨rfl,hw⟩
   refine⟨_,rfl,.tup _ _ rfl ?_,?_⟩
   ·intro j v x hv hx
    match j with
    | 0=>cases hv;cases hx;exact .int _ _
    | 1=>cases hv;cases hx;exact .nili
    | j+2=>simp at hv
   ·rcases hw with rfl|⟨t,rfl⟩
    ·exact .refl _ _
    ·exact Gh _ _ 0 _
  ·skip
   have e1:Yg ⟨s⟩=(0,⟨true⟩):=by simp only[Yg,h]
   rw[e1]
   obtain⟨cs,hc,ev,he,hev⟩:=hL.syn
   refine(Any.strconv_Atoi_syntax Tryz.lays172 ⟨s.toArray⟩ (by rw[hsz];omega) h ev w (Ur hΦ hc he) hev).mono ?_
   rintro e w' ⟨N,rfl,_,_,hb⟩
   refine⟨_,rfl,.tup _ _ rfl ?_,hb⟩
   intro j v x hv hx
   match j with
   | 0=>cases hv;cases hx;exact .int _ _
   | 1=>cases hv;cases hx;exact .ifc _ _
   | j+2=>simp at hv
  ·skip
   have e1:Yg ⟨s⟩=(Lib.atoiSat s,⟨true⟩):=by simp only[Yg,h]
   rw[e1]
   obtain⟨cs,hc,ev,he,hev⟩:=hL.rng
   refine(Any.strconv_Atoi_range Tryz.lays172 ⟨s.toArray⟩ (by rw[hsz];omega) h ev w (Ur hΦ hc he) hev).mono ?_
   rintro e w' ⟨N,rfl,_,_,hb⟩
   refine⟨_,rfl,.tup _ _ rfl ?_,hb⟩
   intro j v x hv hx
   match j with
   | 0=>cases hv;cases hx;exact .int _ _
   | 1=>cases hv;cases hx;exact .ifc _ _
   | j+2=>simp at hv)
theorem BN:Zn Tryz.prog 94 (fun _:Int×Unit=>true) (fun x:Int×Unit=>Yj x.1):=Zn.of (T:=b0j) (ic:=M5) (rs:=Fj) Zj ZW Tryz.func94 (by kernel_rfl) (by kernel_rfl) (by kernel_rfl) b4u
theorem Po:Zn Tryz.prog 93 (fun x:Str×Unit=>decide (x.1.s.length<=1000000)) (fun x:Str×Unit=>Yf x.1):=Zn.of (T:=X7) (ic:=Xe) (rs:=Xt) (Zb (Yq Tryz.func114 (by kernel_rfl) QZ) (Zb (Yq Tryz.func115 (by kernel_rfl) b0k) (Zb (Yq Tryz.func51 (by kernel_rfl) Un) Zj))) ZW Tryz.func93 (by kernel_rfl) (by kernel_rfl) (by kernel_rfl) EP
theorem Pw:Zn Tryz.prog 93 (fun x:Str×Unit=>decide (x.1.s.length<=281474976710656)) (fun x:Str×Unit=>Yf x.1):=Zn.of (T:=Xp) (ic:=YX) (rs:=YZ) (Zb (Yq Tryz.func114 (by kernel_rfl) QZ) (Zb (Yq Tryz.func115 (by kernel_rfl) ED) (Zb (Yq Tryz.func51 (by kernel_rfl) Un) Zj))) ZW Tryz.func93 (by kernel_rfl) (by kernel_rfl) (by kernel_rfl) Lm
theorem TC:Zn Tryz.prog 56 (fun x:Lin×Unit=>VN x.1) (fun x:Lin×Unit=>Zw x.1):=Zn.of (T:=Wy) (ic:=XL) (rs:=XN) (Zb (Yq Tryz.func94 (by kernel_rfl) BN) (Zb (Yq Tryz.func93 (by kernel_rfl) Po) Zj)) ZW Tryz.func56 (by kernel_rfl) (by kernel_rfl) (by kernel_rfl) MU
theorem SS:Zn Tryz.prog 56 (fun x:Lin×Unit=>V8 x.1) (fun x:Lin×Unit=>Zw x.1):=Zn.of (T:=Vn) (ic:=X0) (rs:=Wx) (Zb (Yq Tryz.func94 (by kernel_rfl) BN) (Zb (Yq Tryz.func93 (by kernel_rfl) Pw) Zj)) ZW Tryz.func56 (by kernel_rfl) (by kernel_rfl) (by kernel_rfl) a0q
theorem b4n:Yo Tryz.prog 57 XF JE:=QX (T:=LZ) (ic:=Tw) (rs:=AY) (Zb (Yq Tryz.func51 (by kernel_rfl) Un) (Zb (Yq Tryz.func58 (by kernel_rfl) Ca) Zj)) ZW Tryz.func57 (by kernel_rfl) (by kernel_rfl) (by kernel_rfl) b0w
theorem Hw:Zn Tryz.prog 29 (fun x:Lin×Unit=>VN x.1) (fun x:Lin×Unit=>(⟨Ym x.1⟩:Str)):=Zn.of (T:=WX) (ic:=WM) (rs:=Wm) (Zb (Yq Tryz.func56 (by kernel_rfl) TC) (Zb (Yq Tryz.func57 (by kernel_rfl) b4n) Zj)) ZW Tryz.func29 (by kernel_rfl) (by kernel_rfl) (by kernel_rfl) Lb
theorem KM:Zn Tryz.prog 81 (fun _:UInt8×Unit=>true) (fun x:UInt8×Unit=>lowB x.1):=Zn.of (T:=CL) (ic:=J6) (rs:=J7) Zj ZW Tryz.func81 (by kernel_rfl) (by kernel_rfl) (by kernel_rfl) NU
theorem Tg:Zn Tryz.prog 107 (fun _:UInt8×Unit=>true) (fun x:UInt8×Unit=>digB x.1):=Zn.of (T:=DW) (ic:=J4) (rs:=Ha) Zj ZW Tryz.func107 (by kernel_rfl) (by kernel_rfl) (by kernel_rfl) MN
theorem LM:Zn Tryz.prog 82 (fun x:Str×Bool×Unit=>decide (x.1.s.length<=1048576)) (fun x:Str×Bool×Unit=>DU x.1 x.2.1):=Zn.of (T:=UT) (ic:=Vu) (rs:=Vt) (Zb (Yq Tryz.func107 (by kernel_rfl) Tg) (Zb (Yq Tryz.func81 (by kernel_rfl) KM) Zj)) ZW Tryz.func82 (by kernel_rfl) (by kernel_rfl) (by kernel_rfl) a9d
theorem Gp:Zn Tryz.prog 83 (fun _:Str×Unit=>true) (fun x:Str×Unit=>Gl.contains x.1.s):=Zn.of (T:=LA) (ic:=AA) (rs:=TD) Zj ZW Tryz.func83 (by kernel_rfl) (by kernel_rfl) (by kernel_rfl) a3j
theorem WS:Zn Tryz.prog 46 (fun x:Str×Unit=>decide (x.1.s.length<=1048576)) (fun x:Str×Unit=>ZZ x.1.s):=Zn.of (T:=Tt) (ic:=Cv) (rs:=DV) (Zb (Yq Tryz.func81 (by kernel_rfl) KM) (Zb (Yq Tryz.func82 (by kernel_rfl) LM) (Zb (Yq Tryz.func83 (by kernel_rfl) Gp) Zj))) ZW Tryz.func46 (by kernel_rfl) (by kernel_rfl) (by kernel_rfl) EW
theorem Bi:Zn Tryz.prog 106 (fun x:Str×Unit=>decide (x.1.s.length<=1048576)) (fun x:Str×Unit=>fullI x.1.s):=Zn.of (T:=G8) (ic:=CY) (rs:=KT) (Zb (Yq Tryz.func131 (by kernel_rfl) a3w) (Zb (Yq Tryz.func46 (by kernel_rfl) WS) Zj)) ZW Tryz.func106 (by kernel_rfl) (by kernel_rfl) (by kernel_rfl) a1o
theorem Qf:Zn Tryz.prog 79 (fun x:Str×Unit=>decide (x.1.s.length<=1048576)) (fun x:Str×Unit=>RS x.1.s):=Zn.of (T:=NT) (ic:=TQ) (rs:=Tz) (Zb (Yq Tryz.func46 (by kernel_rfl) WS) (Zb (Yq Tryz.func106 (by kernel_rfl) Bi) Zj)) ZW Tryz.func79 (by kernel_rfl) (by kernel_rfl) (by kernel_rfl) a2g
theorem Cf:Zn Tryz.prog 77 (fun x:Tm×Unit=>tW x.1) (fun x:Tm×Unit=>VO x.1.nd):=Zn.of (T:=Re) (ic:=TH) (rs:=GJ) Zj ZW Tryz.func77 (by kernel_rfl) (by kernel_rfl) (by kernel_rfl) a9g
theorem Bt:Zn Tryz.prog 103 (fun x:Lin×Unit=>V8 x.1) (fun x:Lin×Unit=> !(Zw x.1)):=Zn.of (T:=LB) (ic:=S9) (rs:=SK) (Zb (Yq Tryz.func56 (by kernel_rfl) SS) Zj) ZW Tryz.func103 (by kernel_rfl) (by kernel_rfl) (by kernel_rfl) a5c
theorem b1y:Zn Tryz.prog 129 (fun x:List Lin×FnV 103×Unit=>decide (x.1.length<=1048576)&&x.1.all V8) (fun x:List Lin×FnV 103×Unit=>Y6 (fun l:Lin=> !(Zw l)) x.1):=Zn.of (T:=Di) (ic:=KE) (rs:=Q6) (Zb (Yq Tryz.func103 (by kernel_rfl) Bt) Zj) ZW Tryz.func129 (by kernel_rfl) (by kernel_rfl) (by kernel_rfl) b3e
theorem b3t:Zn Tryz.prog 102 (fun x:List Lin×FnV 103×Unit=>decide (x.1.length<=1048576)&&x.1.all V8) (fun x:List Lin×FnV 103×Unit=>x.1.any fun l:Lin=> !(Zw l)):=Zn.of (T:=a4g) (ic:=MP) (rs:=MV) (Zb (Yq Tryz.func129 (by kernel_rfl) b1y) Zj) ZW Tryz.func102 (by kernel_rfl) (by kernel_rfl) (by kernel_rfl) b5d
theorem Jk:Zn Tryz.prog 76 (fun x:Tm×Int×Int×Unit=>tW x.1) (fun x:Tm×Int×Int×Unit=>Z8 x.1.nd x.2.1 x.2.2.1):=Zn.of (T:=Bc) (ic:=Hm) (rs:=Ho) (Zb (Yq Tryz.func102 (by kernel_rfl) b3t) Zj) ZW Tryz.func76 (by kernel_rfl) (by kernel_rfl) (by kernel_rfl) Mw
theorem SG:Zn Tryz.prog 105 (fun _:Int×Unit=>true) (fun x:Int×Unit=>Z4 x.1):=Zn.of (T:=NS) (ic:=AQ) (rs:=TR) Zj ZW Tryz.func105 (by kernel_rfl) (by kernel_rfl) (by kernel_rfl) a9s
theorem b2t:Zn Tryz.prog 130 (fun x:List Int×FnV 105×Unit=>decide (x.1.length<=1048576)) (fun x:List Int×FnV 105×Unit=>Y6 Z4 x.1):=Zn.of (T:=Da) (ic:=Qr) (rs:=Kt) (Zb (Yq Tryz.func105 (by kernel_rfl) SG) Zj) ZW Tryz.func130 (by kernel_rfl) (by kernel_rfl) (by kernel_rfl) b4h
theorem b3n:Zn Tryz.prog 104 (fun x:List Int×FnV 105×Unit=>decide (x.1.length<=1048576)) (fun x:List Int×FnV 105×Unit=>x.1.any Z4):=Zn.of (T:=a9p) (ic:=Sc) (rs:=Fq) (Zb (Yq Tryz.func130 (by kernel_rfl) b2t) Zj) ZW Tryz.func104 (by kernel_rfl) (by kernel_rfl) (by kernel_rfl) b1i
theorem Ru:Zn Tryz.prog 78 (fun x:Tm×Unit=>tW x.1) (fun x:Tm×Unit=>Xr x.1.nd x.1.ks.length):=Zn.of (T:=GL) (ic:=Dc) (rs:=Jl) (Zb (Yq Tryz.func79 (by kernel_rfl) Qf) (Zb (Yq Tryz.func76 (by kernel_rfl) Jk) (Zb (Yq Tryz.func104 (by kernel_rfl) b3n) Zj))) ZW Tryz.func78 (by kernel_rfl) (by kernel_rfl) (by kernel_rfl) a0h
theorem a8a:Xj Tryz.prog 172 Z9 QR:=Js (T:=Vs) (ic:=Wz) (rs:=WH) Zj ZW Tryz.func172 (by kernel_rfl) (by kernel_rfl) (by kernel_rfl) a1g
theorem Nc:Xj Tryz.prog 152 Z9 Vo:=Js (T:=Km) (ic:=Qn) (rs:=Qu) (Zb (Yq Tryz.func172 (by kernel_rfl) a8a) Zj) ZW Tryz.func152 (by kernel_rfl) (by kernel_rfl) (by kernel_rfl) Sj
theorem b4e:Xj Tryz.prog 117 CZ WY:=Js (T:=Xy) (ic:=YQ) (rs:=YO) (Zb (Yq Tryz.func152 (by kernel_rfl) Nc) Zj) ZW Tryz.func117 (by kernel_rfl) (by kernel_rfl) (by kernel_rfl) a6y
theorem a2c:Zn Tryz.prog 117 (fun _:List Int×Unit=>true) (fun x:List Int×Unit=>WI x.1):=Zn.ofPure b4e fun⟨l,_⟩ h=>⟨by show(Zx l).all PV.isNum=true;simp,by show Zk _ (.tup [.int .i64 (WI ((Zx l).map PV.asInt)).1,.int .i64 (WI ((Zx l).map PV.asInt)).2]);rw[WL];exact Zt (x:=WI l) rfl⟩
theorem Ee:Zn Tryz.prog 119 (fun x:List Int×Unit=>decide (x.1.length<=2000000)) (fun x:List Int×Unit=>x.1):=NY (α:=Int) (by decide) (a0y b8v (by decide))
theorem SC:Zn Tryz.prog 154 (fun _:Str×Int×Unit=>true) (fun x:Str×Int×Unit=>WE x.1 x.2.1):=Zn.of (T:=a6r) (ic:=Li) (rs:=NN) Zj ZW Tryz.func154 (by kernel_rfl) (by kernel_rfl) (by kernel_rfl) b1j
theorem c2u:Yo Tryz.prog 153 G7 Td:=QX (T:=b1d) (ic:=L6) (rs:=MC) (Zb (Yq Tryz.func154 (by kernel_rfl) SC) Zj) ZW Tryz.func153 (by kernel_rfl) (by kernel_rfl) (by kernel_rfl) b1r
theorem c0q:Yo Tryz.prog 130 Wq GR:=QX (T:=D5) (ic:=Kh) (rs:=KH) (Zb (Yq Tryz.func153 (by kernel_rfl) c2u) Zj) ZW Tryz.func130 (by kernel_rfl) (by kernel_rfl) (by kernel_rfl) b3f
theorem b8f:Yo Tryz.prog 104 Wq Si:=QX (T:=a9c) (ic:=M7) (rs:=Mv) (Zb (Yq Tryz.func130 (by kernel_rfl) c0q) Zj) ZW Tryz.func104 (by kernel_rfl) (by kernel_rfl) (by kernel_rfl) b4q
theorem Ps:Zn Tryz.prog 118 (fun x:Str×List Int×Unit=>decide (x.2.1.length<=2000000)) (fun x:Str×List Int×Unit=>x.2.1.all (WE x.1)):=Zn.of (T:=Ke) (ic:=Qt) (rs:=Qi) (Zb (Yq Tryz.func104 (by kernel_rfl) b8f) Zj) ZW Tryz.func118 (by kernel_rfl) (by kernel_rfl) (by kernel_rfl) Rh
theorem a1l:Zn Tryz.prog 96 (fun x:Str×List Int×List Int×Unit=>decide (x.2.1.length<=2000000)&&decide (x.2.2.1.length<=2000000)) (fun x:Str×List Int×List Int×Unit=>M6 x.1 x.2.1 x.2.2.1):=Zn.of (T:=Fg) (ic:=SE) (rs:=Sw) (Zb (Yq Tryz.func117 (by kernel_rfl) a2c) (Zb (Yq Tryz.func118 (by kernel_rfl) Ps) (Zb (Yq Tryz.func119 (by kernel_rfl) Ee) Zj))) ZW Tryz.func96 (by kernel_rfl) (by kernel_rfl) (by kernel_rfl) a3a
theorem JH:Zn Tryz.prog 59 (fun x:Arr×Unit=>Qk x.1) (fun x:Arr×Unit=>Ud x.1):=Zn.of (T:=b1c) (ic:=M4) (rs:=NP) (Zb (Yq Tryz.func96 (by kernel_rfl) a1l) Zj) ZW Tryz.func59 (by kernel_rfl) (by kernel_rfl) (by kernel_rfl) b3h
theorem PO:Zn Tryz.prog 43 (fun x:Tm×Unit=>tW x.1) (fun x:Tm×Unit=>Hl x.1):=Zn.of (T:=GG) (ic:=Dr) (rs:=KZ) (Zb (Yq Tryz.func46 (by kernel_rfl) WS) (Zb (Yq Tryz.func76 (by kernel_rfl) Jk) (Zb (Yq Tryz.func77 (by kernel_rfl) Cf) (Zb (Yq Tryz.func59 (by kernel_rfl) JH) (Zb (Yq Tryz.func78 (by kernel_rfl) Ru) (Zb (Yq Tryz.func79 (by kernel_rfl) Qf) Zj)))))) ZW Tryz.func43 (by kernel_rfl) (by kernel_rfl) (by kernel_rfl) Ec
theorem a2e:Yo Tryz.prog 42 WA (VY 74):=QX (T:=Ml) (ic:=AU) (rs:=AJ) Zj ZW Tryz.func42 (by kernel_rfl) (by kernel_rfl) (by kernel_rfl) a1v
theorem Em{cd:Code}(h:QY Tryz.prog Ns Tryz.f19 0=some cd):UW Tryz.prog cd=some (.t 7,[8,9],Dw,Dy):=by
 have:(QY Tryz.prog Ns Tryz.f19 0).bind (UW Tryz.prog)=some (.t 7,[8,9],Dw,Dy):=by kernel_rfl
 rw[h]at this
 exact this
theorem b1t(hT:Yk Tryz.prog QW): ∀ (B:Nat) (c:Ctx),c.w0.heap.size=B->(∀ i m,0<=i->c.μ0 i m=none)->a3r (JQ B 4 hT ZW) (fun n cd=>QY Tryz.prog Ns Tryz.f19 n=some cd) tvE c:=by
 rintro B c hB hk n cd hcd st a w q hr ⟨rfl,hE⟩
 exact Am hT ZW Rp (fun x=>by obtain⟨t,l⟩:=x;rfl) (Em hcd) hB hk hr hE
theorem Ot:Yk Tryz.prog QW:=(Zb (Yq Tryz.func42 (by kernel_rfl) a2e) (Zb (Yq Tryz.func43 (by kernel_rfl) PO) Zj))
theorem TB:Zn Tryz.prog 19 (fun x:Tm×Unit=>tW x.1) (fun x:Tm×Unit=>Wj x.1):=Zn.ofM (T:=QW) (ic:=JP) (rs:=Kn) (E:=tvE) (sel:=Ns) Ot ZW Tryz.func19 (by kernel_rfl) (by kernel_rfl) (by kernel_rfl) (b1t Ot) b6x
theorem c1x:Yo Tryz.prog 48 QE (KR 86):=QX (T:=a7b) (ic:=Mg) (rs:=LY) Zj ZW Tryz.func48 (by kernel_rfl) (by kernel_rfl) (by kernel_rfl) b2e
theorem Eb{cd:Code}(h:QY Tryz.prog Ns Tryz.f21 0=some cd):UW Tryz.prog cd=some (.t 11,[12,13],Cb,Wd):=by
 have:(QY Tryz.prog Ns Tryz.f21 0).bind (UW Tryz.prog)=some (.t 11,[12,13],Cb,Wd):=by kernel_rfl
 rw[h]at this
 exact this
theorem b6n(hT:Yk Tryz.prog Jt): ∀ (B:Nat) (c:Ctx),c.w0.heap.size=B->(∀ i m,0<=i->c.μ0 i m=none)->a3r (JQ B 4 hT ZW) (fun n cd=>QY Tryz.prog Ns Tryz.f21 n=some cd) tdE c:=by
 rintro B c hB hk n cd hcd st a w q hr ⟨rfl,hE⟩
 exact Am hT ZW Rp (fun x=>by obtain⟨t,l⟩:=x;rfl) (Eb hcd) hB hk hr hE
theorem OG:Yk Tryz.prog Jt:=(Zb (Yq Tryz.func42 (by kernel_rfl) a2e) (Zb (Yq Tryz.func48 (by kernel_rfl) c1x) (Zb (Yq Tryz.func47 (by kernel_rfl) c3w) Zj)))
theorem Nj:Zn Tryz.prog 21 (fun x:Tm×Unit=>tW x.1) (fun x:Tm×Unit=>WW x.1):=Zn.ofM (T:=Jt) (ic:=D8) (rs:=J8) (E:=tdE) (sel:=Ns) OG ZW Tryz.func21 (by kernel_rfl) (by kernel_rfl) (by kernel_rfl) (b6n OG) b6o
theorem Ll:Zn Tryz.prog 45 (fun x:Str×Unit=>decide (x.1.s.length<=1048576)) (fun x:Str×Unit=> !(ZZ x.1.s)):=Zn.of (T:=ME) (ic:=AX) (rs:=Tj) (Zb (Yq Tryz.func46 (by kernel_rfl) WS) Zj) ZW Tryz.func45 (by kernel_rfl) (by kernel_rfl) (by kernel_rfl) a3k
theorem b5b:Zn Tryz.prog 80 (fun x:List Str×FnV 45×Unit=>Vk x.1) (fun x:List Str×FnV 45×Unit=>Y6 (fun s:Str=> !(ZZ s.s)) x.1):=Zn.of (T:=Dj) (ic:=Kz) (rs:=Ki) (Zb (Yq Tryz.func45 (by kernel_rfl) Ll) Zj) ZW Tryz.func80 (by kernel_rfl) (by kernel_rfl) (by kernel_rfl) b5z
theorem b6y:Zn Tryz.prog 44 (fun x:List Str×FnV 45×Unit=>Vk x.1) (fun x:List Str×FnV 45×Unit=>x.1.any fun s:Str=> !(ZZ s.s)):=Zn.of (T:=b1b) (ic:=NZ) (rs:=Mi) (Zb (Yq Tryz.func80 (by kernel_rfl) b5b) Zj) ZW Tryz.func44 (by kernel_rfl) (by kernel_rfl) (by kernel_rfl) b5u
theorem A7:Zn Tryz.prog 20 (fun x:List Str×Unit=>Vk x.1) (fun x:List Str×Unit=>x.1.all fun s:Str=>ZZ s.s):=Zn.of (T:=DD) (ic:=JV) (rs:=Hg) (Zb (Yq Tryz.func44 (by kernel_rfl) b6y) Zj) ZW Tryz.func20 (by kernel_rfl) (by kernel_rfl) (by kernel_rfl) Lv
theorem Hu:Zn Tryz.prog 14 (fun x:Tm×Unit=>tW x.1) (fun x:Tm×Unit=>Xz x.1):=Zn.of (T:=K9) (ic:=J5) (rs:=QG) (Zb (Yq Tryz.func19 (by kernel_rfl) TB) (Zb (Yq Tryz.func21 (by kernel_rfl) Nj) (Zb (Yq Tryz.func20 (by kernel_rfl) A7) Zj))) ZW Tryz.func14 (by kernel_rfl) (by kernel_rfl) (by kernel_rfl) La
theorem C8:Zn Tryz.prog 15 (fun _:Str×Unit=>true) (fun x:Str×Unit=>Dv x.1):=Zn.of (T:=NM) (ic:=Sb) (rs:=SA) Zj ZW Tryz.func15 (by kernel_rfl) (by kernel_rfl) (by kernel_rfl) a7v
theorem a9k:Xj Tryz.prog 87 Gw GY:=Js (T:=Mr) (ic:=Ti) (rs:=Su) Zj ZW Tryz.func87 (by kernel_rfl) (by kernel_rfl) (by kernel_rfl) fun ps h=>b2f (a4t ps h)
theorem b3p:Zn Tryz.prog 49 (fun _:Str×Unit=>true) (fun x:Str×Unit=>NQ x.1):=Zn.of (T:=ZA) (ic:=Zv) (rs:=Zu) (Zb (Yq Tryz.func87 (by kernel_rfl) a9k) Zj) ZW Tryz.func49 (by kernel_rfl) (by kernel_rfl) (by kernel_rfl) a1w
theorem b3r:Zn Tryz.prog 50 (fun _:Str×Bool×Unit=>true) (fun x:Str×Bool×Unit=>En x.1 x.2.1):=Zn.of (T:=Zq) (ic:=Zm) (rs:=Zl) (Zb (Yq Tryz.func87 (by kernel_rfl) a9k) Zj) ZW Tryz.func50 (by kernel_rfl) (by kernel_rfl) (by kernel_rfl) a8o
theorem BK:Zn Tryz.prog 22 (fun x:Tm×Unit=>tW x.1) (fun x:Tm×Unit=>UM x.1):=Zn.of (T:=FN) (ic:=Lx) (rs:=Sv) (Zb (Yq Tryz.func49 (by kernel_rfl) b3p) Zj) ZW Tryz.func22 (by kernel_rfl) (by kernel_rfl) (by kernel_rfl) b4i
theorem AL:Zn Tryz.prog 24 (fun x:Tm×Unit=>tW x.1) (fun x:Tm×Unit=>XV x.1):=Zn.of (T:=Sl) (ic:=AR) (rs:=GH) (Zb (Yq Tryz.func22 (by kernel_rfl) BK) (Zb (Yq Tryz.func50 (by kernel_rfl) b3r) Zj)) ZW Tryz.func24 (by kernel_rfl) (by kernel_rfl) (by kernel_rfl) a7c
theorem WU:Zn Tryz.prog 28 (fun x:List Str×Unit=>Y8 x.1) (fun x:List Str×Unit=>Yi x.1):=Zn.of (T:=Tv) (ic:=CJ) (rs:=DF) (Zb (Yq Tryz.func55 (by kernel_rfl) a2s) Zj) ZW Tryz.func28 (by kernel_rfl) (by kernel_rfl) (by kernel_rfl) a1b
theorem b2q:Zn Tryz.prog 53 (fun x:List Lin×FnV 29×Unit=>decide (x.1.length<=1048576)&&x.1.all Zw) (fun x:List Lin×FnV 29×Unit=>Yi (x.1.map Yx)):=Zn.of (T:=Q3) (ic:=U7) (rs:=U0) (Zb (Yq Tryz.func29 (by kernel_rfl) Hw) (Zb (Yq Tryz.func28 (by kernel_rfl) WU) Zj)) ZW Tryz.func53 (by kernel_rfl) (by kernel_rfl) (by kernel_rfl) a9f
theorem b4g:Zn Tryz.prog 54 (fun x:List Int×FnV 51×Unit=>decide (x.1.length<=1048576)&&XP x.1) (fun x:List Int×FnV 51×Unit=>Yi (x.1.map ZI)):=Zn.of (T:=Q8) (ic:=UR) (rs:=U2) (Zb (Yq Tryz.func51 (by kernel_rfl) Un) (Zb (Yq Tryz.func28 (by kernel_rfl) WU) Zj)) ZW Tryz.func54 (by kernel_rfl) (by kernel_rfl) (by kernel_rfl) a4i
theorem MX:Zn Tryz.prog 25 (fun x:Tm×Unit=>VO x.1.nd) (fun x:Tm×Unit=>P8 x.1.nd):=Zn.of (T:=Sq) (ic:=Ty) (rs:=G9) (Zb (Yq Tryz.func51 (by kernel_rfl) Un) (Zb (Yq Tryz.func52 (by kernel_rfl) b8j) Zj)) ZW Tryz.func25 (by kernel_rfl) (by kernel_rfl) (by kernel_rfl) a8x
theorem Bw:Yo Tryz.prog 97 (Vd 5) JM:=QX (T:=b0s) (ic:=LG) (rs:=NV) (Zb (Yq Tryz.func120 (by kernel_rfl) Dn) Zj) ZW Tryz.func97 (by kernel_rfl) (by kernel_rfl) (by kernel_rfl) b3c
theorem SB:Yo Tryz.prog 61 (Vd 5) JM:=QX (T:=a2t) (ic:=Le) (rs:=LX) (Zb (Yq Tryz.func97 (by kernel_rfl) Bw) Zj) ZW Tryz.func61 (by kernel_rfl) (by kernel_rfl) (by kernel_rfl) b3x
theorem b8l:Yo Tryz.prog 60 (U3 5) SH:=QX (T:=a2i) (ic:=Mf) (rs:=M0) (Zb (Yq Tryz.func61 (by kernel_rfl) SB) Zj) ZW Tryz.func60 (by kernel_rfl) (by kernel_rfl) (by kernel_rfl) b1k
theorem Sm:Zn Tryz.prog 30 (fun x:Arr×Unit=>Qk x.1&&Ud x.1) (fun x:Arr×Unit=>Ri x.1):=Zn.of (T:=Xg) (ic:=YH) (rs:=YI) (Zb (Yq Tryz.func59 (by kernel_rfl) JH) (Zb (Yq Tryz.func60 (by kernel_rfl) b8l) Zj)) ZW Tryz.func30 (by kernel_rfl) (by kernel_rfl) (by kernel_rfl) Lh
theorem a0u{N:Nat}(hN:Zn Tryz.prog 16 (fun x:Tm×Unit=>(tW x.1&&YJ x.1)&&decide (Yb x.1<N)) (fun x:Tm×Unit=>Zr x.1)):Yo Tryz.prog 23 (YP N) TZ:=QX (T:=M3 N) (ic:=TG) (rs:=A9) (Zb (Yq Tryz.func16 (by kernel_rfl) hN) Zj) ZW Tryz.func23 (by kernel_rfl) (by kernel_rfl) (by kernel_rfl) (a4a N)
theorem Ao{N:Nat}(hN:Zn Tryz.prog 16 (fun x:Tm×Unit=>(tW x.1&&YJ x.1)&&decide (Yb x.1<N)) (fun x:Tm×Unit=>Zr x.1)):Zn Tryz.prog 27 (fun x:List Tm×FnV 16×Unit=>(NE x.1&&Xc x.1)&&decide (ZP x.1<N)) (fun x:List Tm×FnV 16×Unit=>Yi (x.1.map Zr)):=Zn.of (T:=KI N) (ic:=Qd) (rs:=UE) (Zb (Yq Tryz.func16 (by kernel_rfl) hN) (Zb (Yq Tryz.func28 (by kernel_rfl) WU) Zj)) ZW Tryz.func27 (by kernel_rfl) (by kernel_rfl) (by kernel_rfl) (a4y N)
theorem NI{N:Nat}(hN:Zn Tryz.prog 16 (fun x:Tm×Unit=>(tW x.1&&YJ x.1)&&decide (Yb x.1<N)) (fun x:Tm×Unit=>Zr x.1)):Zn Tryz.prog 26 (fun x:Tm×Unit=>(tW x.1&&YJ x.1&&decide (x.1.nd.kind=6))&&decide (ZP x.1.ks<N)) (fun x:Tm×Unit=>Ce x.1):=Zn.of (T:=Gy N) (ic:=Cr) (rs:=K6) (Zb (Yq Tryz.func53 (by kernel_rfl) b2q) (Zb (Yq Tryz.func51 (by kernel_rfl) Un) (Zb (Yq Tryz.func54 (by kernel_rfl) b4g) (Zb (Yq Tryz.func27 (by kernel_rfl) (Ao hN)) Zj)))) ZW Tryz.func26 (by kernel_rfl) (by kernel_rfl) (by kernel_rfl) (Ev N)
theorem Nv:Zn Tryz.prog 16 (fun x:Tm×Unit=>tW x.1&&YJ x.1) (fun x:Tm×Unit=>Zr x.1):=Zn.rec (fun a=>Yb a.1) fun N hN=>Zn.of (T:=G6 N) (ic:=De) (rs:=Jm) (Zb (Yq Tryz.func22 (by kernel_rfl) BK) (Zb (Yq Tryz.func24 (by kernel_rfl) AL) (Zb (Yq Tryz.func23 (by kernel_rfl) (a0u hN)) (Zb (Yq Tryz.func16 (by kernel_rfl) hN) (Zb (Yq Tryz.func25 (by kernel_rfl) MX) (Zb (Yq Tryz.func26 (by kernel_rfl) (NI hN)) (Zb (Yq Tryz.func27 (by kernel_rfl) (Ao hN)) (Zb (Yq Tryz.func28 (by kernel_rfl) WU) (Zb (Yq Tryz.func29 (by kernel_rfl) Hw) (Zb (Yq Tryz.func30 (by kernel_rfl) Sm) Zj)))))))))) ZW Tryz.func16 (by kernel_rfl) (by kernel_rfl) (by kernel_rfl) (EM N)
theorem H6:Zn Tryz.prog 7 (fun x:Tm×Unit=>tW x.1) (fun x:Tm×Unit=>XZ x.1):=Zn.of (T:=GX) (ic:=Cn) (rs:=Jh) (Zb (Yq Tryz.func14 (by kernel_rfl) Hu) (Zb (Yq Tryz.func15 (by kernel_rfl) C8) (Zb (Yq Tryz.func16 (by kernel_rfl) Nv) Zj))) ZW Tryz.func7 (by kernel_rfl) (by kernel_rfl) (by kernel_rfl) Et
theorem TE:Zn Tryz.prog 11 (fun x:Tm×Unit=>tW x.1) (fun x:Tm×Unit=>(Yb x.1:Int)):=Zn.rec (fun a=>Yb a.1) fun N hN=>Zn.of (T:=Kl N) (ic:=U9) (rs:=UG) (Zb (Yq Tryz.func11 (by kernel_rfl) hN) Zj) ZW Tryz.func11 (by kernel_rfl) (by kernel_rfl) (by kernel_rfl) (a2o N)
theorem RY:Zn Tryz.prog 12 (fun x:Tm×Unit=>tW x.1) (fun x:Tm×Unit=>(ZY x.1:Int)):=Zn.rec (fun a=>Yb a.1) fun N hN=>Zn.of (T:=UJ N) (ic:=VI) (rs:=VM) (Zb (Yq Tryz.func12 (by kernel_rfl) hN) Zj) ZW Tryz.func12 (by kernel_rfl) (by kernel_rfl) (by kernel_rfl) (a0v N)
theorem Gs:Zn Tryz.prog 13 (fun x:Tm×Unit=>tW x.1) (fun x:Tm×Unit=>Xd x.1):=Zn.rec (fun a=>Yb a.1) fun N hN=>Zn.of (T:=Q9 N) (ic:=Qc) (rs:=U8) (Zb (Yq Tryz.func13 (by kernel_rfl) hN) Zj) ZW Tryz.func13 (by kernel_rfl) (by kernel_rfl) (by kernel_rfl) (a9j N)
theorem M8:Zn Tryz.prog 6 (fun x:Tm×Int×Unit=>tW x.1) (fun x:Tm×Int×Unit=>KS x.1 x.2.1):=Zn.of (T:=WN) (ic:=X8) (rs:=XI) (Zb (Yq Tryz.func11 (by kernel_rfl) TE) (Zb (Yq Tryz.func12 (by kernel_rfl) RY) (Zb (Yq Tryz.func13 (by kernel_rfl) Gs) Zj))) ZW Tryz.func6 (by kernel_rfl) (by kernel_rfl) (by kernel_rfl) a9q
theorem a8c:Zn Tryz.prog 10 (fun _:Str×Unit=>true) (fun x:Str×Unit=>vT x.1):=Zn.of (T:=c2y) (ic:=a5u) (rs:=a6z) Zj ZW Tryz.func10 (by kernel_rfl) (by kernel_rfl) (by kernel_rfl) b7x
theorem NA:Zn Tryz.prog 9 (fun _:Str×List Tm×Unit=>true) (fun x:Str×List Tm×Unit=>cT x.1 x.2.1):=Zn.of (T:=SX) (ic:=CE) (rs:=Bb) Zj ZW Tryz.func9 (by kernel_rfl) (by kernel_rfl) (by kernel_rfl) a0g
theorem Te:Zn Tryz.prog 5 (fun _:Unit=>true) (fun _:Unit=>true):=Zn.of (T:=CV) (ic:=JL) (rs:=JS) (Zb (Yq Tryz.func10 (by kernel_rfl) a8c) (Zb (Yq Tryz.func9 (by kernel_rfl) NA) (Zb (Yq Tryz.func7 (by kernel_rfl) H6) Zj))) ZW Tryz.func5 (by kernel_rfl) (by kernel_rfl) (by kernel_rfl) MI
theorem Bn:Zn Tryz.prog 4 (fun x:Tm×Unit=>tW x.1) (fun _:Tm×Unit=>true):=Zn.of (T:=Qw) (ic:=VX) (rs:=VV) (Zb (Yq Tryz.func5 (by kernel_rfl) Te) (Zb (Yq Tryz.func7 (by kernel_rfl) H6) (Zb (Yq Tryz.func6 (by kernel_rfl) M8) Zj))) ZW Tryz.func4 (by kernel_rfl) (by kernel_rfl) (by kernel_rfl) a5s
end Go.Proofs.YtbfjgcjjaoaaaaaGreatDoor

