/-
  Texts of mine that belong together (packed by pack.py), for every input: Post, LaidZ, PlGb, OpPr, OpQf, ShP, Sh, ShB, ShR, ShS, Sk, Cl, ShN, ShM, OkQf.
-/
import Derived.Test.YtkpppjbhmmabeaaGreatDoorChecked
import Derived.Test.YtkpppjbhmmabeaaGreatDoorRows
import Derived.Test.YtkpppjbhmmabeaaGreatDoorKL2
import Derived.Test.YtkpppjbhmmabeaaGreatDoorKL3
import Derived.Test.YtkpppjbhmmabeaaGreatDoorKL4
import Derived.Test.YtkpppjbhmmabeaaGreatDoorKL5
import Derived.Test.YtkpppjbhmmabeaaGreatDoorKL6
import Derived.Below
import Derived.ChangeSame
import Derived.Stop.LaidErr
import Derived.Lib.LaidTab
import Derived.Shelf.Vars
import Derived.KernelRfl
import Derived.Shelf.Strings.Cut
import Derived.Shelf.Strings.OnBuilder
import Derived.Shelf.Strings.Trim
import Derived.Shelf.Small.Wraps
import Derived.Shelf.LaysM
import Derived.Shelf.Strconv.Itoa3
import Derived.Shelf.Strconv.AtoiAll
import Derived.Shelf.Strings.Prefix
import Derived.Shelf.Sort.Plain
import Derived.Shelf.Small.Strs
import Derived.Shelf.Slices.In.SortNone
import Derived.Shelf.SlIter.Sorted
import Derived.Shelf.SlIter.Keys
import Derived.Ground.GgzProg
import Derived.WalkKit
import Derived.Deep.LoopGhost
import Derived.Lib.Walk
import Derived.Lib.SliceRun
import Derived.Shelf.Strings.SlTrimAscii
set_option linter.unusedVariables false
set_option linter.unusedSimpArgs false
namespace Go.Proofs.YtkpppjbhmmabeaaGreatDoor
open Go.RowKit Go.WideShapes Go.ChangeShapes
section
variable {H:Type} {enc:TypeId×Value->H} {P:Program}
theorem Ni{f:Func}{s:ChangeSpec}{apart fresh i m:Bool}{W W':World}{args:Array Value}{v:Value}{ds q:List (DataW H)}{a pa pv:List MemPlace}
  (z:DataW.Whole enc P f.params.toList s.vars apart W args.toList ds q a)
  (l : ∀ (b:Nat) (sp:Nat->Bool) (hd:Bool),DataW.TrodAll enc P W' b sp hd f.resultTypes.toList (v.resultList f.resultTypes.size) (s.fn H (ds++q)).results [])
  (g : ∀ sp:Nat->Bool,(∀ p∈a,sp p.block=true)->DataW.TrodAll enc P W' 0 sp true f.params.toList args.toList (s.fn H (ds++q)).args pa)
  (e : ∀ sp:Nat->Bool,(∀ p∈a,sp p.block=true)->DataW.TrodVars enc P W' sp s.vars (s.fn H (ds++q)).vars pv)
  (hps:a=pa++pv) (hb:Below W.heap.size W W')
  (A : ∀ (j:Nat) (t:TypeId) (r:Value),f.resultTypes[j]? = some t->(v.resultList f.resultTypes.size)[j]? = some r->Value.okWide P W' .any 0 t r) :
  s.post enc P f apart fresh i m W args v W':=by
 have y : ∀ p∈a,p.block<W.heap.size:=fun p h=>z.lt p h
 have k : ∀ p∈a,(fun b=>decide (b<W.heap.size)) p.block=true:=fun p h=>by simpa using y p h
 refine⟨ds,q,a,[],pa,pv,z,l _ _ _,g _ k,e _ k,World.keptBut_mono (fun p h=>⟨h,?_⟩) (hb.frame (· ∈ a)),fun _=> ?_⟩
 ·rw[hps,List.mem_append]at h
  exact Or.inr h
 ·obtain⟨_,_,_,_,_,B,hn⟩:=z
  refine⟨A,_,_,([]++pa)++pv,⟨[]++pa,pv,trodAll_append (g _ (fun _ _=>rfl)) (l _ _ _),e _ (fun _ _=>rfl),rfl,?_,?_⟩,?_⟩
  ·intro b off h
   have u:MemPlace.cell b off∈a:=by rw[hps];simpa using h
   rw[hb.frozen (y _ u)]
   exact B b off u
  ·intro ha
   have:=hn ha
   rw[hps]at this
   simpa using this
  ·intro p h _
   rw[hps]
   simpa using h
end
end Go.Proofs.YtkpppjbhmmabeaaGreatDoor
namespace Go.Proofs.YtkpppjbhmmabeaaGreatDoor
open Go.Pl Go.RowKit Go.ChangeShapes
set_option maxRecDepth 100000
theorem b3l{P:Program}{W:World}{n:String}{g:Nat}{cs:Array Value}(a:P.globalNamed n=some g)(h:W.var? P n=some cs):TL W g=some cs:=by
 unfold World.var? at h
 rw[a]at h
 simp only[Option.bind_some]at h
 unfold TL
 exact h
theorem e9d:Tryz.prog.globalNamed "internal/strconv.uint64pow10" = some 1:=by kernel_rfl
theorem g1v:Tryz.prog.globalNamed "strconv.ErrRange" = some 3:=by kernel_rfl
theorem f8i:Tryz.prog.globalNamed "strconv.ErrSyntax" = some 2:=by kernel_rfl
theorem c1m:Tryz.prog.underlying 77=some (.interface ((match Tryz.prog.underlying 77 with|some (.interface ms)=>ms|_=>#[]))):=by kernel_rfl
theorem f7s{W:World}{r:List (String×DataW Unit)}(h:laidMet Tryz.prog (("internal/strconv.uint64pow10",Rows.laid_internal_strconv_uint64pow10)::r) W):TL W 1=some Pj:=by
 have h1:Lib.TabIs Tryz.prog W "internal/strconv.uint64pow10" .u64 ((List.range 20).map fun i=>((10 ^ i:Nat):Int)):=Lib.tabIs_of_head (e:=159) (t:=200) e9d (by kernel_rfl) (n:=20) (by kernel_rfl) (by kernel_rfl) (by kernel_rfl) (by kernel_rfl) h
 exact(b3l e9d h1).trans rfl
theorem c6z{W:World}{n:String}{g:Nat}{text:List UInt8}{r:List (String×DataW Unit)}(hg:Tryz.prog.globalNamed n=some g)(ht:(Tryz.prog.globals[g]?).map (·.type)=some 77)(h:laidMet Tryz.prog ((n,.iface "*errors.errorString" (.ptr (.agg [.lit (.string text)])))::r) W): ∃ cs,TL W g=some cs∧RB cs:=by
 obtain⟨ps,⟨g0,t0,cs0,f0,p0,q0,hg0,ht0,hv0,hd0,_,e0⟩,_,hrows⟩:=h
 obtain rfl:=Option.some.inj (hg.symm.trans hg0)
 obtain rfl:=Option.some.inj (ht.symm.trans ht0)
 subst e0
 refine⟨cs0,b3l hg hv0,?_⟩
 obtain⟨f1,u,v,e,_⟩:=iface_of_trod c1m hd0
 obtain⟨l0⟩:=cs0
 have e:l0=[.iface u v]:=e
 subst e
 exact⟨_,rfl,.inr ⟨u,v,rfl⟩⟩
theorem g0r{W:World}(h:W.ShapedOpen Tryz.prog): ∃ cs m,TL W 0=some cs∧cs[0]? = some (Value.int .i64 m):=by
 obtain⟨m,hm⟩:=cell_of_shapedOpen_int (g:=0) (t:=3) (zero:=#[.int .i64 0]) (k:=.i64) h (of_decide_eq_true (by kernel_rfl)) (by kernel_rfl) rfl (by kernel_rfl) (by kernel_rfl) (by kernel_rfl)
 unfold World.cell? at hm
 unfold TL
 split at hm
 ·rename_i cs T fz a
  exact⟨cs,m,by simp only[a],by simpa using hm⟩
 ·cases hm
theorem e3z{W:World}{x y z:String×DataW Unit}{r:List (String×DataW Unit)}(h:laidMet Tryz.prog (x::y::("internal/strconv.uint64pow10",Rows.laid_internal_strconv_uint64pow10)::z::("strconv.ErrRange",Rows.laid_strconv_ErrRange)::("strconv.ErrSyntax",Rows.laid_strconv_ErrSyntax)::r) W)(hs:W.ShapedOpen Tryz.prog):GlobOK (TL W):=
 ⟨c6z f8i (by kernel_rfl) h.tail.tail.tail.tail.tail,c6z g1v (by kernel_rfl) h.tail.tail.tail.tail,f7s h.tail.tail,g0r hs⟩
noncomputable def g2m:DataW Unit->Value
 | .lit (.int k n)=>.int k n
 | _=>.int .i64 0
noncomputable def TR:DataW Unit->Array Value
 | .agg ds=>(ds.flatMap fun | .agg es=>es.map g2m|d=>[g2m d]).toArray
 | _=>#[]
noncomputable def d7t:DataW Unit->ByteArray
 | .iface _ (.ptr (.agg [.lit (.string bs)]))=>⟨bs.toArray⟩
 | _=>⟨#[]⟩
noncomputable def low:Nat:=(World.holding Tryz.prog default ⟨#[],#[],[]⟩).heap.size
noncomputable def a7o(cs:Array Value):Obj->Obj
 | .cells _ t frozen=>.cells cs t frozen
 | o=>o
noncomputable def Ac(os:Os):World:=
 let w0:=World.holding Tryz.prog os ⟨#[.cells #[.string (d7t Rows.laid_strconv_ErrRange)] 229,.cells #[.string (d7t Rows.laid_strconv_ErrSyntax)] 229],#[],[]⟩
 {w0 with heap:=((((((w0.heap.modify 3 (a7o #[.iface 227 (.pointer (some ⟨low,0,none⟩))])).modify 2 (a7o #[.iface 227 (.pointer (some ⟨low+1,0,none⟩))])).modify 1 (a7o (TR Rows.laid_internal_strconv_uint64pow10))).modify 4 (a7o (TR Rows.laid_math_bits_deBruijn32tab))).modify 5 (a7o (TR Rows.laid_math_bits_deBruijn64tab))).modify 7 (a7o (TR Rows.laid_unicode_utf8_acceptRanges))).modify 6 (a7o (TR Rows.laid_unicode_utf8_first))}
end Go.Proofs.YtkpppjbhmmabeaaGreatDoor
namespace Go.Pl
open Go.RowKit Go.WideShapes Go.ChangeShapes
abbrev uB{H:Type}(d:DataW H):Nat:=Go.Proofs.YtkpppjbhmmabeaaGreatDoor.Rows.uptoBulk d
abbrev uBs{H:Type}(l:List (DataW H)):Nat:=Go.Proofs.YtkpppjbhmmabeaaGreatDoor.Rows.uptoBulkAll l
theorem a2v{H:Type}(d:DataW H)(l:List (DataW H)):uBs (d::l)=uB d+uBs l:=by unfold uBs uB;rw[Go.Proofs.YtkpppjbhmmabeaaGreatDoor.Rows.uptoBulkAll]
theorem b0r{H:Type}(d:DataW H):1<=uB d:=by
 cases d with
 | lit l=>cases l <;> simp[uB,Go.Proofs.YtkpppjbhmmabeaaGreatDoor.Rows.uptoBulk]
 | _=>simp[uB,Go.Proofs.YtkpppjbhmmabeaaGreatDoor.Rows.uptoBulk]
mutual
def pvW:PV->Nat
 | .str s=>s.length+1
 | .sl _ _ xs=>XP xs+1
 | .agg xs=>XP xs
 | _=>1
def XP:List PV->Nat
 | []=>0
 | p::ps=>pvW p+XP ps
end
theorem d7m(a b:List PV):XP (a++b)=XP a+XP b:=by
 induction a with
 | nil=>simp[XP]
 | cons x a ih=>rw[List.cons_append,XP,ih,XP];omega
theorem f8k{P:Program}{e:TypeId}{q:List PV}(a:XT P e=true∨P.cellsOf e=1)(b:q.length=P.cellsOf e):pvW (Bl P e q)<=XP q:=by
 cases ha:XT P e with
 | true=>simp only[Bl,ha];rw[pvW];exact Nat.le_refl _
 | false=>
  have h1:P.cellsOf e=1:=by simpa [ha]using a
  rw[h1]at b
  match q,b with
  | [x],_=>simp only[Bl,ha,List.headD_cons];rw[XP,XP];exact Nat.le_refl _
theorem b2i{H:Type}{f:List PV->PV}: ∀ {qs:List (List PV)} {xs:List (DataW H×List MemPlace)},qs.length=xs.length->(∀ (i:Nat) (q:List PV) (x:DataW H×List MemPlace),qs[i]? = some q->xs[i]? = some x->pvW (f q)<=uB x.1)->XP (qs.map f)<=uBs (xs.map (·.1))
 | [],[],_,_=>by simp[XP]
 | q::qs,x::xs,hl,h=>by
  have h0:=h 0 q x rfl rfl
  have h1:=b2i (qs:=qs) (xs:=xs) (by simpa using hl) fun i q x a b=>h (i+1) q x (by simpa using a) (by simpa using b)
  rw[List.map_cons,XP,List.map_cons,a2v]
  omega
 | [],_::_,hl,_=>by cases hl
 | _::_,[],hl,_=>by cases hl
def c6q(P:Program)(S:List TypeId):Bool:=S.all fun t=>match P.underlying t with|some (.array _ _)=>false|_=>true
section
variable {H:Type} {enc:TypeId×Value->H} {P:Program} {w:World} {base:Nat} {sp:Nat->Bool} {held:Bool} {S:List TypeId}
theorem OV{n:Nat}{cs:List Value}(r : ∀ (t:TypeId) (cs:List Value) (x:DataW H×List MemPlace),t∈S->DataW.trod enc P w base sp held n t cs=some x-> ∃ ps,Cl w cs ps∧Kg P n t ps∧XP ps<=uB x.1):
  ∀ (b:List Field) (o N:Nat) (xs:List (DataW H×List MemPlace)),JD P o b N=true->(∀ f∈b,f.type∈S)->cs.length=N->o<=N ->
   b.mapM (fun f=>DataW.trod enc P w base sp held n f.type ((cs.drop f.offset).take (P.cellsOf f.type)))=some xs ->
   ∃ ps,Cl w (cs.drop o) ps∧XP ps<=uBs (xs.map (·.1))∧ ∀ qs:List PV,qs.length=o->(∀ f∈b,Kg P n f.type (((qs++ps).drop f.offset).take (P.cellsOf f.type))):=by
 intro b
 induction b with
 | nil=>
  intro o N xs hc _ u ho _
  simp[JD]at hc
  refine⟨[],?_,by simp[XP],fun qs _ f D=>by simp at D⟩
  rw[List.drop_of_length_le (by omega)]
  exact Cl.nil
 | cons f b ihf=>
  intro o N xs hc hm u ho h
  simp only[JD,Bool.and_eq_true,beq_iff_eq]at hc
  obtain⟨i,hc⟩:=hc
  simp only[List.mapM_cons,Option.bind_eq_bind,Option.bind_eq_some_iff]at h
  obtain⟨x,B,q,s,e⟩:=h
  cases e
  obtain⟨m,y,E,w1⟩:=r _ _ x (hm f List.mem_cons_self) B
  have l:o+P.cellsOf f.type<=N:=by
   have : ∀ (b:List Field) (a:Nat),JD P a b N=true->a<=N:=by
    intro b
    induction b with
    | nil=>intro a h;simp[JD]at h;omega
    | cons g b r=>intro a h;simp only[JD,Bool.and_eq_true]at h;have:=r _ h.2;omega
   exact this _ _ hc
  obtain⟨F,C,w2,A⟩:=ihf (o+P.cellsOf f.type) N q hc (fun g j=>hm g (List.mem_cons_of_mem _ j)) u l s
  have k:m.length=P.cellsOf f.type:=by
   rw[<- y.1.1,List.length_take,List.length_drop,i]
   omega
  refine⟨m++F,?_,by rw[d7m,List.map_cons,a2v];omega,fun qs z g j=> ?_⟩
  ·have:=y.append C
   rw[i]at this
   have e:cs.drop o=(cs.drop o).take (P.cellsOf f.type)++cs.drop (o+P.cellsOf f.type):=by rw[<- List.drop_drop,List.take_append_drop]
   rw[e]
   exact this
  ·rcases List.mem_cons.1 j with rfl|j
   ·rw[i,<- z,List.drop_left,<- k,List.take_left]
    exact E
   ·have:=A (qs++m) (by simp[z,k]) g j
    rwa [List.append_assoc]at this
theorem a4v{n:Nat}{e:TypeId}{a:Addr}{len cap:Nat}{xs:List (DataW H×List MemPlace)}(C:0<P.cellsOf e)(E:XT P e=true∨P.cellsOf e=1)(B:len<=cap)(hmax:cap<=maxLen)
  (ih : ∀ (cs:List Value) (x:DataW H×List MemPlace),DataW.trod enc P w base sp held n e cs=some x-> ∃ ps,Cl w cs ps∧Kg P n e ps∧XP ps<=uB x.1)
  (h:(List.range len).mapM (fun i=>(w.cells? base (a.add (i*P.cellsOf e)) (P.cellsOf e)).bind (DataW.trod enc P w base sp held n e))=some xs) :
  ∃ qs:List (List PV),RP (TL w) (.slice (some a) len cap) (.sl (P.cellsOf e) false (qs.map (Bl P e)))∧qs.length<=maxLen∧(∀ q∈qs,q.length=P.cellsOf e∧Kg P n e q)∧XP (qs.map (Bl P e))<=uBs (xs.map (·.1)):=by
 obtain⟨T,W⟩:=a2i h
 rw[List.length_range]at T
 have N : ∀ i,i<len-> ∃ q:List PV,(q.length=P.cellsOf e∧Kg P n e q∧ ∃ x,xs[i]? = some x∧XP q<=uB x.1)∧ ∀ (r:Nat) p,q[r]? = some p-> ∃ v,w.cell? (a.add (i*P.cellsOf e+r))=some v∧v.oneCell'=true∧RP (TL w) v p:=by
  intro i hi
  have A:=List.getElem?_eq_getElem (show i<xs.length by omega)
  have:=W i i _ (by simp[hi]) A
  rw[Option.bind_eq_some_iff]at this
  obtain⟨cs,h1,h2⟩:=this
  obtain⟨q,K,k2,Z⟩:=ih cs _ h2
  obtain⟨Y,c2⟩:=c1i h1
  refine⟨q,⟨by rw[<- K.1.1,Y],k2,_,A,Z⟩,fun r p l=> ?_⟩
  have hr:r<cs.length:=by rw[K.1.1];exact(List.getElem?_eq_some_iff.1 l).1
  have u:=List.getElem?_eq_getElem hr
  refine⟨_,?_,K.2 _ (List.getElem_mem hr),K.1.2 r _ p u l⟩
  rw[<- b8e]
  exact c2 r _ u
 obtain⟨qs,m,k⟩:=a5j len N
 have g : ∀ q∈qs,(Bl P e q).cells=q:=by
  intro q z
  obtain⟨i,hi,rfl⟩:=List.getElem_of_mem z
  have:=(k i _ (List.getElem?_eq_getElem hi)).1
  exact b9a E this.1 fun ha=>c4w this.2.1 ha
 refine⟨qs,?_,by omega,fun q z=> ?_,?_⟩
 ·by_cases h0:len=0
  ·subst h0
   have:qs=[]:=List.length_eq_zero_iff.1 m
   subst this
   exact .sl0 _ _ _ _ fun e=>by cases e
  ·-- the first cell tells the block
   obtain⟨b,off,cs,rfl,hb,-⟩ : ∃ b off cs,a=⟨b,off,none⟩∧TL w b=some cs∧True:=by
    have O:=List.getElem?_eq_getElem (show 0<qs.length by omega)
    obtain⟨⟨f1,f2,-⟩,f3⟩:=k 0 _ O
    have l:=List.getElem?_eq_getElem (show 0<(qs[0]'(by omega)).length by omega)
    obtain⟨v,u,_⟩:=f3 0 _ l
    simp[Addr.add]at u
    obtain⟨b,off,cs,M,J,_⟩:=M7 u
    exact⟨b,off,cs,M,J,trivial⟩
   have hs : ∀ x∈qs.map (Bl P e),x.cells.length=P.cellsOf e:=by
    intro x A
    obtain⟨q,z,rfl⟩:=List.mem_map.1 A
    rw[g q z]
    obtain⟨i,hi,rfl⟩:=List.getElem_of_mem z
    exact(k i _ (List.getElem?_eq_getElem hi)).1.1
   have D : ∀ (j:Nat) p,(flat (qs.map (Bl P e)))[j]? = some p-> ∃ v,cs[off+j]? = some v∧v.oneCell'=true∧RP (TL w) v p:=by
    intro j p l
    have X:j<len*P.cellsOf e:=by
     have:=(List.getElem?_eq_some_iff.1 l).1
     rw[WS hs]at this
     simpa [m]using this
    have hi:j / P.cellsOf e<qs.length:=by rw[m];exact(Nat.div_lt_iff_lt_mul C).2 X
    have hr:j % P.cellsOf e<P.cellsOf e:=Nat.mod_lt _ C
    have I:=List.getElem?_eq_getElem hi
    have Q:j=j / P.cellsOf e*P.cellsOf e+j % P.cellsOf e:=by rw[Nat.mul_comm];exact(Nat.div_add_mod _ _).symm
    have L:(qs.map (Bl P e))[j / P.cellsOf e]? = some (Bl P e qs[j / P.cellsOf e]):=by rw[List.getElem?_map,I];rfl
    have F:=a2m hs L hr
    rw[<- Q,g _ (List.getElem_mem hi)]at F
    rw[F]at l
    obtain⟨v,u,h1,h2⟩:=(k _ _ I).2 _ p l
    rw[<- Q,Wd]at u
    obtain⟨b',off',cs',M,J,V⟩:=M7 u
    cases M
    rw[hb]at J
    cases J
    exact⟨v,V,h1,h2⟩
   have s:len=(qs.map (Bl P e)).length:=by simp[m]
   rw[s]
   refine .sl b off cs cap _ false _ (fun j=>(cs[off+j]?).getD default) hb (by rw[<- s];exact B) (fun e=>by cases e) hs (fun j p l=> ?_) (fun j p l=> ?_)
   ·obtain⟨v,h1,h2,h3⟩:=D j p l
    rw[h1]
    exact⟨rfl,h2⟩
   ·obtain⟨v,h1,h2,h3⟩:=D j p l
    rw[h1]
    exact h3
 ·obtain⟨i,hi,rfl⟩:=List.getElem_of_mem z
  have:=(k i _ (List.getElem?_eq_getElem hi)).1
  exact⟨this.1,this.2.1⟩
 ·refine b2i (by rw[m,T]) fun i q x z A=> ?_
  have:=(k i q z).1
  obtain⟨y,U,hw⟩:=this.2.2
  rw[A]at U
  cases U
  have hm:=f8k (P:=P) (e:=e) (q:=q) E this.1
  omega
theorem b1w(s:Fh P S=true)(z:c6q P S=true): ∀ (n:Nat) (t:TypeId) (cs:List Value) (x:DataW H×List MemPlace),t∈S->DataW.trod enc P w base sp held n t cs=some x-> ∃ ps,Cl w cs ps∧Kg P n t ps∧XP ps<=uB x.1:=by
  intro n
  induction n with
  | zero=>intro t cs x _ h;simp[DataW.trod]at h
  | succ n ih=>
    intro t cs x ht h
    have b:=Lt s ht
    have g:=List.all_eq_true.1 z t ht
    unfold DataW.trod at h
    unfold Kg
    split at h <;> (try rename_i hu) <;> (try simp only[hu]at b g ⊢) <;> try (cases b;done)
    all_goals first
      | (exact⟨_,Cl.one (.bool _) rfl,⟨_,rfl⟩,b0r _⟩)
      | (split at h
         · rename_i hc
           obtain⟨rfl,A⟩:=hc
           exact⟨_,Cl.one (.int _ _) rfl,⟨_,rfl,A⟩,b0r _⟩
         · cases h)
      | (split at h
         · rename_i hc
           cases h
           refine⟨_,Cl.one (.str _) rfl,⟨_,rfl,hc⟩,?_⟩
           show XP [PV.str _]<=Go.Proofs.YtkpppjbhmmabeaaGreatDoor.Rows.uptoBulk (DataW.lit (.string _))
           rw[Go.Proofs.YtkpppjbhmmabeaaGreatDoor.Rows.uptoBulk,XP,XP,pvW]
           omega
         · cases h)
      | (cases h;done)
      | (cases g;done)
      | skip
    · exact⟨_,Cl.one (.sl0 _ _ _ false (fun e=>by cases e)) rfl,⟨[],rfl,by simp,fun q u=>by simp at u⟩,b0r _⟩
    · rename_i e a len cap
      simp only[Bool.and_eq_true,Bool.or_eq_true,beq_iff_eq,decide_eq_true_eq]at b
      simp only at h
      split at h
      · rename_i hc
        obtain⟨xs,h1,h3⟩:=Option.bind_eq_some_iff.1 h
        obtain⟨ys,h4,rfl⟩:=Option.map_eq_some_iff.1 h3
        obtain⟨qs,i,j,k,y⟩:=a4v b.1.2 b.2 hc.2.1 hc.2.2 (fun cs x m=>ih e cs x (by simpa using b.1.1.2) m) h1
        refine⟨_,Cl.one i rfl,⟨qs,rfl,j,k⟩,?_⟩
        show XP [PV.sl _ false (qs.map (Bl P e))]<=Go.Proofs.YtkpppjbhmmabeaaGreatDoor.Rows.uptoBulk (DataW.slice (xs.map (·.1)) (ys.map (·.1)))
        rw[Go.Proofs.YtkpppjbhmmabeaaGreatDoor.Rows.uptoBulk,XP,XP,pvW]
        have:XP (qs.map (Bl P e))<=Go.Proofs.YtkpppjbhmmabeaaGreatDoor.Rows.uptoBulkAll (xs.map (·.1)):=y
        omega
      · cases h
    · rename_i cs2 r
      simp only[Bool.and_eq_true]at b
      split at h
      · rename_i hc
        rw[Option.map_eq_some_iff]at h
        obtain⟨xs,h1,rfl⟩:=h
        obtain⟨ps,i,k,j⟩:=OV ih r.toList 0 (P.cellsOf t) xs b.1 (fun f l=>by simpa using List.all_eq_true.1 b.2 f l) hc (Nat.zero_le _) h1
        rw[List.drop_zero]at i
        refine⟨ps,i,⟨by rw[<- i.1.1,hc],fun f l=>by simpa using j [] rfl f l⟩,?_⟩
        show XP ps<=Go.Proofs.YtkpppjbhmmabeaaGreatDoor.Rows.uptoBulk (DataW.agg (xs.map (·.1)))
        rw[Go.Proofs.YtkpppjbhmmabeaaGreatDoor.Rows.uptoBulk]
        have:XP ps<=Go.Proofs.YtkpppjbhmmabeaaGreatDoor.Rows.uptoBulkAll (xs.map (·.1)):=k
        omega
      · cases h
theorem Ad(m:Fh P S=true)(C:c6q P S=true){t:TypeId}(ht:t∈S){r:Reach}{B:Nat}{v:Value}{d:DataW H}{p:List MemPlace}(e:Value.okWide P w r B t v)(h:DataW.Trod enc P w base sp held t v d p):
  ∃ n q,RP (TL w) v (Bl P t q)∧Kg P n t q∧XP q<=uB d:=by
 obtain⟨n,h⟩:=h
 obtain⟨q,i,u,z⟩:=b1w m C n t _ _ ht h
 refine⟨n,q,?_,u,z⟩
 have s:=Lt m ht
 have g:v.cells = #[v]->XT P t=false->RP (TL w) v (Bl P t q):=by
  intro hc ha
  rw[hc]at i
  have A:=i.1.1
  match q,A with
  | [x],_=>simp only[Bl,ha,List.headD_cons];exact i.1.2 0 v x rfl rfl
 have agg : ∀ cs,v = .agg cs->XT P t=true->RP (TL w) v (Bl P t q):=by
  rintro cs rfl ha
  simp only[Bl,ha]
  exact .agg cs q (by have:=i.1.1;simpa [Value.cells]using this) (fun x k=>i.2 x (by simpa [Value.cells]using k)) fun j x y k D=>i.1.2 j x y (by simpa [Value.cells]using k) D
 split at s
 ·rename_i hu
  obtain⟨b,rfl⟩:=okWide_bool hu e
  exact g rfl (by simp[XT,hu])
 ·rename_i hu
  obtain⟨b,rfl⟩:=okWide_int hu e
  exact g rfl (by simp[XT,hu])
 ·rename_i hu
  obtain⟨b,rfl⟩:=okWide_string hu e
  exact g rfl (by simp[XT,hu])
 ·rename_i hu
  obtain⟨a,l,c,rfl⟩:=okWide_slice hu e
  exact g rfl (by simp[XT,hu])
 ·rename_i hu
  simp only[Value.okWide,hu]at e
  obtain⟨cs,rfl,_⟩:=e
  exact agg cs rfl (by simp[XT,hu])
 ·rename_i hu
  simp only[Value.okWide,hu]at e
  obtain⟨cs,rfl,_⟩:=e
  exact agg cs rfl (by simp[XT,hu])
 ·cases s
end
end Go.Pl
namespace Go.Pl
open Enc (enc dec is)
open EncL (encL decL isL)
theorem a7s(l:List Int):XP (l.map enc)=l.length:=by
 induction l with
 | nil=>rfl
 | cons a l ih=>rw[List.map_cons,XP,ih,List.length_cons];show 1+_=_;omega
theorem e3a(l:List Coef):XP (l.map enc)=(l.map Ez).sum:=by
 induction l with
 | nil=>rfl
 | cons a l ih=>
  rw[List.map_cons,XP,ih,List.map_cons,List.sum_cons]
  rfl
theorem f3j(l:List Lin):XP (l.map enc)=(l.map PX).sum:=by
 induction l with
 | nil=>rfl
 | cons a l ih=>
  rw[List.map_cons,XP,ih,List.map_cons,List.sum_cons]
  congr 1
  show pvW (.agg [.int .i64 a.k,.sl 2 false (a.t.map enc)])=_
  simp only[pvW,XP,e3a]
  unfold PX
  omega
mutual
theorem g1z: ∀ t:Tm,KC t<=pvW (tmP t)
 | .mk n ks=>by
  have h:=d4s ks
  have h1:=a7s n.dims
  have h2:=a7s n.data
  have h3:=a7s n.ranks
  have a:=f3j n.sizes
  rw[tmP,KC]
  show wNd n+Vs ks<=pvW (.agg [.int .i64 n.kind,.int .i64 n.line,.str n.name.s,.int .i64 n.num,.str n.elem.s,.sl 1 false (n.dims.map enc),.sl 1 false (n.data.map enc),.sl 2 false (n.sizes.map enc),.sl 1 false (n.ranks.map enc),.sl 10 false (Dw ks)])
  simp only[pvW,XP,h1,h2,h3,a]
  unfold wNd
  omega
theorem d4s: ∀ ks:List Tm,Vs ks<=XP (Dw ks)
 | []=>by simp[Vs,Dw,XP]
 | k::ks=>by
  have h1:=g1z k
  have h2:=d4s ks
  rw[Vs,Dw,XP];omega
end
end Go.Pl
namespace Go.Proofs.YtkpppjbhmmabeaaGreatDoor
open Go.Pl
set_option maxRecDepth 100000
open Enc (enc dec is)
open EncL (encL decL isL)
theorem e0i:Tryz.prog.underlying 9=some .string:=by kernel_rfl
end Go.Proofs.YtkpppjbhmmabeaaGreatDoor
namespace Go.Proofs.YtkpppjbhmmabeaaGreatDoor
open Go.Pl
set_option maxRecDepth 100000
open Enc (enc dec is)
open EncL (encL decL isL)
theorem e0f:Tryz.prog.underlying 5=some (.int .u8):=by kernel_rfl
theorem f9x:XT Tryz.prog 5=false:=by kernel_rfl
theorem f8c:XT Tryz.prog 9=false:=by kernel_rfl
theorem c7y{n:Nat}{q:List PV}(h:Kg Tryz.prog n 5 q): ∃ c:UInt8,Bl Tryz.prog 5 q=enc c:=by
 obtain⟨m,rfl,hm⟩:=c5h e0f h
 have h0:0<=m∧m<=255:=by
  have:=hm
  simp only[Lit.wf,Bool.and_eq_true,decide_eq_true_eq,show IntKind.u8.min=0 by decide,show IntKind.u8.max=255 by decide]at this
  exact this
 refine⟨UInt8.ofNat m.toNat,?_⟩
 rw[Bl,f9x]
 show PV.int .u8 m=PV.int .u8 ((UInt8.ofNat m.toNat).toNat:Int)
 rw[UInt8.toNat_ofNat']
 congr 1
 omega
theorem b8y{n0 i k:Nat}{h e g:List PV}(j:Kg Tryz.prog n0 9 h)(h1:Kg Tryz.prog i 5 e)(h2:Kg Tryz.prog k 5 g):
  preT (fun _:Str×UInt8×UInt8×Unit=>true) [Bl Tryz.prog 9 h,Bl Tryz.prog 5 e,Bl Tryz.prog 5 g]=true:=by
 obtain⟨s,m,_⟩:=d8e e0i j
 obtain⟨a,q⟩:=c7y h1
 obtain⟨b,l⟩:=c7y h2
 rw[q,l,m,show Bl Tryz.prog 9 [PV.str s]=enc (⟨s⟩:Str)from by rw[Bl,f8c];rfl]
 exact Zc ((⟨s⟩:Str),a,b,()) rfl rfl
end Go.Proofs.YtkpppjbhmmabeaaGreatDoor
namespace Go.Proofs.YtkpppjbhmmabeaaGreatDoor
open Go.Shelf
def Tryz.lays145_ren:Go.Shelf.Ren:=⟨fun|145=>171|220=>201|219=>222|217=>232|225=>233|224=>234|267=>235|266=>240|314=>241|n=>n,fun|9=>9|4=>4|59=>166|3=>3|5=>5|46=>152|146=>235|51=>177|n=>n,fun|1=>0|n=>n⟩
theorem Tryz.lays145:Go.Proofs.Lays.n145 Tryz.prog Tryz.lays145_ren:={
 mixed:=by kernel_rfl
 f145:=Tryz.func171.trans (congrArg some (by kernel_rfl))
 f217:=Tryz.func232.trans (congrArg some (by kernel_rfl))
 f219:=Tryz.func222.trans (congrArg some (by kernel_rfl))
 f220:=Tryz.func201.trans (congrArg some (by kernel_rfl))
 f224:=Tryz.func234.trans (congrArg some (by kernel_rfl))
 f225:=Tryz.func233.trans (congrArg some (by kernel_rfl))
 f266:=Tryz.func240.trans (congrArg some (by kernel_rfl))
 f267:=Tryz.func235.trans (congrArg some (by kernel_rfl))
 f314:=Tryz.func241.trans (congrArg some (by kernel_rfl))
 t3:=Tryz.underlying3
 a3:=Tryz.isAgg3
 z3:=Tryz.sizeOf3
 v3:=Tryz.zeroValue3
 t4:=Tryz.underlying4
 a4:=Tryz.isAgg4
 z4:=Tryz.sizeOf4
 v4:=Tryz.zeroValue4
 t5:=Tryz.underlying5
 a5:=Tryz.isAgg5
 z5:=Tryz.sizeOf5
 v5:=Tryz.zeroValue5
 t9:=Tryz.underlying9
 a9:=Tryz.isAgg9
 z9:=Tryz.sizeOf9
 v9:=Tryz.zeroValue9
 t46:=Tryz.underlying152
 a46:=Tryz.isAgg152
 z46:=Tryz.sizeOf152
 v46:=Tryz.zeroValue152
 t51:=Tryz.underlying177
 a51:=Tryz.isAgg177
 z51:=Tryz.sizeOf177
 v51:=Tryz.zeroValue177
 t59:=Tryz.underlying166
 a59:=Tryz.isAgg166
 z59:=Tryz.sizeOf166
 v59:=Tryz.zeroValue166
 t146:=Tryz.underlying235
 a146:=Tryz.isAgg235
 z146:=Tryz.sizeOf235
 v146:=Tryz.zeroValue235
 g1:=by kernel_rfl}
def Tryz.lays156_ren:Go.Shelf.Ren:=⟨fun|156=>19|165=>37|166=>38|169=>39|240=>67|241=>68|276=>103|277=>104|n=>n,fun|31=>31|9=>9|3=>3|4=>4|0=>0|20=>20|72=>74|76=>78|70=>71|37=>72|75=>77|127=>100|164=>130|5=>5|80=>80|n=>n,fun|n=>n⟩
theorem Tryz.lays156:Go.Proofs.Lays.n156 Tryz.prog Tryz.lays156_ren:={
 mixed:=by kernel_rfl
 f156:=Tryz.func19.trans (congrArg some (by kernel_rfl))
 f165:=Tryz.func37.trans (congrArg some (by kernel_rfl))
 f166:=Tryz.func38.trans (congrArg some (by kernel_rfl))
 f169:=Tryz.func39.trans (congrArg some (by kernel_rfl))
 f240:=Tryz.func67.trans (congrArg some (by kernel_rfl))
 f241:=Tryz.func68.trans (congrArg some (by kernel_rfl))
 f276:=Tryz.func103.trans (congrArg some (by kernel_rfl))
 f277:=Tryz.func104.trans (congrArg some (by kernel_rfl))
 t0:=Tryz.underlying0
 a0:=Tryz.isAgg0
 z0:=Tryz.sizeOf0
 v0:=Tryz.zeroValue0
 t3:=Tryz.underlying3
 a3:=Tryz.isAgg3
 z3:=Tryz.sizeOf3
 v3:=Tryz.zeroValue3
 t4:=Tryz.underlying4
 a4:=Tryz.isAgg4
 z4:=Tryz.sizeOf4
 v4:=Tryz.zeroValue4
 t9:=Tryz.underlying9
 a9:=Tryz.isAgg9
 z9:=Tryz.sizeOf9
 v9:=Tryz.zeroValue9
 t20:=Tryz.underlying20
 a20:=Tryz.isAgg20
 z20:=Tryz.sizeOf20
 v20:=Tryz.zeroValue20
 t31:=Tryz.underlying31
 a31:=Tryz.isAgg31
 z31:=Tryz.sizeOf31
 v31:=Tryz.zeroValue31
 t37:=Tryz.underlying72
 a37:=Tryz.isAgg72
 z37:=Tryz.sizeOf72
 v37:=Tryz.zeroValue72
 t70:=Tryz.underlying71
 a70:=Tryz.isAgg71
 z70:=Tryz.sizeOf71
 v70:=Tryz.zeroValue71
 t72:=Tryz.underlying74
 a72:=Tryz.isAgg74
 z72:=Tryz.sizeOf74
 v72:=Tryz.zeroValue74
 t75:=Tryz.underlying77
 a75:=Tryz.isAgg77
 z75:=Tryz.sizeOf77
 v75:=Tryz.zeroValue77
 t76:=Tryz.underlying78
 a76:=Tryz.isAgg78
 z76:=Tryz.sizeOf78
 v76:=Tryz.zeroValue78
 t127:=Tryz.underlying100
 a127:=Tryz.isAgg100
 z127:=Tryz.sizeOf100
 v127:=Tryz.zeroValue100
 t164:=Tryz.underlying130
 a164:=Tryz.isAgg130
 z164:=Tryz.sizeOf130
 v164:=Tryz.zeroValue130}
def Tryz.lays121_ren:Go.Shelf.Ren:=⟨fun|121=>88|214=>127|n=>n,fun|4=>4|9=>9|n=>n,fun|n=>n⟩
theorem Tryz.lays121:Go.Proofs.Lays.n121 Tryz.prog Tryz.lays121_ren:={
 mixed:=by kernel_rfl
 f121:=Tryz.func88.trans (congrArg some (by kernel_rfl))
 f214:=Tryz.func127.trans (congrArg some (by kernel_rfl))
 t4:=Tryz.underlying4
 a4:=Tryz.isAgg4
 z4:=Tryz.sizeOf4
 v4:=Tryz.zeroValue4
 t9:=Tryz.underlying9
 a9:=Tryz.isAgg9
 z9:=Tryz.sizeOf9
 v9:=Tryz.zeroValue9}
def Tryz.lays102_ren:Go.Shelf.Ren:=⟨fun|102=>93|209=>130|207=>153|n=>n,fun|9=>9|4=>4|3=>3|n=>n,fun|n=>n⟩
theorem Tryz.lays102:Go.Proofs.Lays.n102 Tryz.prog Tryz.lays102_ren:={
 mixed:=by kernel_rfl
 f102:=Tryz.func93.trans (congrArg some (by kernel_rfl))
 f207:=Tryz.func153.trans (congrArg some (by kernel_rfl))
 f209:=Tryz.func130.trans (congrArg some (by kernel_rfl))
 t3:=Tryz.underlying3
 a3:=Tryz.isAgg3
 z3:=Tryz.sizeOf3
 v3:=Tryz.zeroValue3
 t4:=Tryz.underlying4
 a4:=Tryz.isAgg4
 z4:=Tryz.sizeOf4
 v4:=Tryz.zeroValue4
 t9:=Tryz.underlying9
 a9:=Tryz.isAgg9
 z9:=Tryz.sizeOf9
 v9:=Tryz.zeroValue9}
def Tryz.lays288_ren:Go.Shelf.Ren:=⟨fun|288=>157|283=>183|284=>184|285=>185|286=>186|129=>182|317=>208|318=>209|319=>210|320=>211|337=>224|338=>225|n=>n,fun|37=>72|53=>159|3=>3|4=>4|9=>9|171=>179|0=>0|173=>181|212=>200|51=>177|5=>5|20=>20|213=>201|46=>152|232=>224|233=>225|n=>n,fun|17=>1|18=>4|19=>5|n=>n⟩
theorem Tryz.lays288:Go.Proofs.LaysM.n288 Tryz.prog Tryz.lays288_ren:={
 mixed:=by kernel_rfl
 f129:=Tryz.func182.trans (congrArg some (by kernel_rfl))
 f283:=Tryz.func183.trans (congrArg some (by kernel_rfl))
 f284:=Tryz.func184.trans (congrArg some (by kernel_rfl))
 f285:=Tryz.func185.trans (congrArg some (by kernel_rfl))
 f286:=Tryz.func186.trans (congrArg some (by kernel_rfl))
 f288:=Tryz.func157.trans (congrArg some (by kernel_rfl))
 f317:=Tryz.func208.trans (congrArg some (by kernel_rfl))
 f318:=Tryz.func209.trans (congrArg some (by kernel_rfl))
 f319:=Tryz.func210.trans (congrArg some (by kernel_rfl))
 f320:=Tryz.func211.trans (congrArg some (by kernel_rfl))
 f337:=Tryz.func224.trans (congrArg some (by kernel_rfl))
 f338:=Tryz.func225.trans (congrArg some (by kernel_rfl))
 t0:=Tryz.underlying0
 a0:=Tryz.isAgg0
 z0:=Tryz.sizeOf0
 v0:=Tryz.zeroValue0
 t3:=Tryz.underlying3
 a3:=Tryz.isAgg3
 z3:=Tryz.sizeOf3
 v3:=Tryz.zeroValue3
 t4:=Tryz.underlying4
 a4:=Tryz.isAgg4
 z4:=Tryz.sizeOf4
 v4:=Tryz.zeroValue4
 t5:=Tryz.underlying5
 a5:=Tryz.isAgg5
 z5:=Tryz.sizeOf5
 v5:=Tryz.zeroValue5
 t9:=Tryz.underlying9
 a9:=Tryz.isAgg9
 z9:=Tryz.sizeOf9
 v9:=Tryz.zeroValue9
 t20:=Tryz.underlying20
 a20:=Tryz.isAgg20
 z20:=Tryz.sizeOf20
 v20:=Tryz.zeroValue20
 t37:=Tryz.underlying72
 a37:=Tryz.isAgg72
 z37:=Tryz.sizeOf72
 v37:=Tryz.zeroValue72
 t46:=Tryz.underlying152
 a46:=Tryz.isAgg152
 z46:=Tryz.sizeOf152
 v46:=Tryz.zeroValue152
 t51:=Tryz.underlying177
 a51:=Tryz.isAgg177
 z51:=Tryz.sizeOf177
 v51:=Tryz.zeroValue177
 t53:=Tryz.underlying159
 a53:=Tryz.isAgg159
 z53:=Tryz.sizeOf159
 v53:=Tryz.zeroValue159
 t171:=Tryz.underlying179
 a171:=Tryz.isAgg179
 z171:=Tryz.sizeOf179
 v171:=Tryz.zeroValue179
 t173:=Tryz.underlying181
 a173:=Tryz.isAgg181
 z173:=Tryz.sizeOf181
 v173:=Tryz.zeroValue181
 t212:=Tryz.underlying200
 a212:=Tryz.isAgg200
 z212:=Tryz.sizeOf200
 v212:=Tryz.zeroValue200
 t213:=Tryz.underlying201
 a213:=Tryz.isAgg201
 z213:=Tryz.sizeOf201
 t232:=Tryz.underlying224
 a232:=Tryz.isAgg224
 z232:=Tryz.sizeOf224
 v232:=Tryz.zeroValue224
 t233:=Tryz.underlying225
 a233:=Tryz.isAgg225
 z233:=Tryz.sizeOf225
 v233:=Tryz.zeroValue225
 g17:=by kernel_rfl
 g18:=by kernel_rfl
 g19:=by kernel_rfl
 i0:=by kernel_rfl
 i3:=by kernel_rfl
 i4:=by kernel_rfl
 i5:=by kernel_rfl
 i9:=by kernel_rfl
 i20:=by kernel_rfl
 i37:=by kernel_rfl
 i46:=by kernel_rfl
 i51:=by kernel_rfl
 i53:=by kernel_rfl
 i171:=by kernel_rfl
 i173:=by kernel_rfl
 i212:=by kernel_rfl
 i232:=by kernel_rfl
 i233:=by kernel_rfl
 m17:=by kernel_rfl
 m18:=by kernel_rfl
 m19:=by kernel_rfl}
def Tryz.lays172_ren:Go.Shelf.Ren:=⟨fun|172=>152|244=>188|245=>189|247=>212|279=>213|280=>214|281=>215|282=>216|287=>226|316=>227|171=>87|205=>228|321=>236|322=>237|243=>126|246=>150|283=>183|284=>184|285=>185|286=>186|129=>182|317=>208|318=>209|319=>210|320=>211|337=>224|338=>225|n=>n,fun|9=>9|3=>3|75=>77|76=>78|4=>4|5=>5|167=>202|37=>72|0=>0|85=>203|2=>2|168=>205|53=>159|175=>216|46=>152|210=>220|127=>100|145=>229|143=>227|21=>21|171=>179|173=>181|212=>200|51=>177|20=>20|213=>201|232=>224|233=>225|80=>80|n=>n,fun|15=>2|16=>3|17=>1|18=>4|19=>5|n=>n⟩
theorem Tryz.lays172:Go.Proofs.LaysC.n172 Tryz.prog Tryz.lays172_ren:={
 mixed:=by kernel_rfl
 f129:=Tryz.func182.trans (congrArg some (by kernel_rfl))
 f171:=Tryz.func87.trans (congrArg some (by kernel_rfl))
 f172:=Tryz.func152.trans (congrArg some (by kernel_rfl))
 f205:=Tryz.func228.trans (congrArg some (by kernel_rfl))
 f243:=Tryz.func126.trans (congrArg some (by kernel_rfl))
 f244:=Tryz.func188.trans (congrArg some (by kernel_rfl))
 f245:=Tryz.func189.trans (congrArg some (by kernel_rfl))
 f246:=Tryz.func150.trans (congrArg some (by kernel_rfl))
 f247:=Tryz.func212.trans (congrArg some (by kernel_rfl))
 f279:=Tryz.func213.trans (congrArg some (by kernel_rfl))
 f280:=Tryz.func214.trans (congrArg some (by kernel_rfl))
 f281:=Tryz.func215.trans (congrArg some (by kernel_rfl))
 f282:=Tryz.func216.trans (congrArg some (by kernel_rfl))
 f283:=Tryz.func183.trans (congrArg some (by kernel_rfl))
 f284:=Tryz.func184.trans (congrArg some (by kernel_rfl))
 f285:=Tryz.func185.trans (congrArg some (by kernel_rfl))
 f286:=Tryz.func186.trans (congrArg some (by kernel_rfl))
 f287:=Tryz.func226.trans (congrArg some (by kernel_rfl))
 f316:=Tryz.func227.trans (congrArg some (by kernel_rfl))
 f317:=Tryz.func208.trans (congrArg some (by kernel_rfl))
 f318:=Tryz.func209.trans (congrArg some (by kernel_rfl))
 f319:=Tryz.func210.trans (congrArg some (by kernel_rfl))
 f320:=Tryz.func211.trans (congrArg some (by kernel_rfl))
 f321:=Tryz.func236.trans (congrArg some (by kernel_rfl))
 f322:=Tryz.func237.trans (congrArg some (by kernel_rfl))
 f337:=Tryz.func224.trans (congrArg some (by kernel_rfl))
 f338:=Tryz.func225.trans (congrArg some (by kernel_rfl))
 t0:=Tryz.underlying0
 a0:=Tryz.isAgg0
 z0:=Tryz.sizeOf0
 v0:=Tryz.zeroValue0
 t2:=Tryz.underlying2
 a2:=Tryz.isAgg2
 z2:=Tryz.sizeOf2
 v2:=Tryz.zeroValue2
 t3:=Tryz.underlying3
 a3:=Tryz.isAgg3
 z3:=Tryz.sizeOf3
 v3:=Tryz.zeroValue3
 t4:=Tryz.underlying4
 a4:=Tryz.isAgg4
 z4:=Tryz.sizeOf4
 v4:=Tryz.zeroValue4
 t5:=Tryz.underlying5
 a5:=Tryz.isAgg5
 z5:=Tryz.sizeOf5
 v5:=Tryz.zeroValue5
 t9:=Tryz.underlying9
 a9:=Tryz.isAgg9
 z9:=Tryz.sizeOf9
 v9:=Tryz.zeroValue9
 t20:=Tryz.underlying20
 a20:=Tryz.isAgg20
 z20:=Tryz.sizeOf20
 v20:=Tryz.zeroValue20
 t21:=Tryz.underlying21
 a21:=Tryz.isAgg21
 z21:=Tryz.sizeOf21
 v21:=Tryz.zeroValue21
 t37:=Tryz.underlying72
 a37:=Tryz.isAgg72
 z37:=Tryz.sizeOf72
 v37:=Tryz.zeroValue72
 t46:=Tryz.underlying152
 a46:=Tryz.isAgg152
 z46:=Tryz.sizeOf152
 v46:=Tryz.zeroValue152
 t51:=Tryz.underlying177
 a51:=Tryz.isAgg177
 z51:=Tryz.sizeOf177
 v51:=Tryz.zeroValue177
 t53:=Tryz.underlying159
 a53:=Tryz.isAgg159
 z53:=Tryz.sizeOf159
 v53:=Tryz.zeroValue159
 t75:=Tryz.underlying77
 a75:=Tryz.isAgg77
 z75:=Tryz.sizeOf77
 v75:=Tryz.zeroValue77
 t76:=Tryz.underlying78
 a76:=Tryz.isAgg78
 z76:=Tryz.sizeOf78
 v76:=Tryz.zeroValue78
 t85:=Tryz.underlying203
 a85:=Tryz.isAgg203
 z85:=Tryz.sizeOf203
 v85:=Tryz.zeroValue203
 t127:=Tryz.underlying100
 a127:=Tryz.isAgg100
 z127:=Tryz.sizeOf100
 v127:=Tryz.zeroValue100
 t143:=Tryz.underlying227
 a143:=Tryz.isAgg227
 z143:=Tryz.sizeOf227
 v143:=Tryz.zeroValue227
 t145:=Tryz.underlying229
 a145:=Tryz.isAgg229
 z145:=Tryz.sizeOf229
 v145:=Tryz.zeroValue229
 t167:=Tryz.underlying202
 a167:=Tryz.isAgg202
 z167:=Tryz.sizeOf202
 v167:=Tryz.zeroValue202
 t168:=Tryz.underlying205
 a168:=Tryz.isAgg205
 z168:=Tryz.sizeOf205
 v168:=Tryz.zeroValue205
 t171:=Tryz.underlying179
 a171:=Tryz.isAgg179
 z171:=Tryz.sizeOf179
 v171:=Tryz.zeroValue179
 t173:=Tryz.underlying181
 a173:=Tryz.isAgg181
 z173:=Tryz.sizeOf181
 v173:=Tryz.zeroValue181
 t175:=Tryz.underlying216
 a175:=Tryz.isAgg216
 z175:=Tryz.sizeOf216
 v175:=Tryz.zeroValue216
 t210:=Tryz.underlying220
 a210:=Tryz.isAgg220
 z210:=Tryz.sizeOf220
 v210:=Tryz.zeroValue220
 t212:=Tryz.underlying200
 a212:=Tryz.isAgg200
 z212:=Tryz.sizeOf200
 v212:=Tryz.zeroValue200
 t213:=Tryz.underlying201
 a213:=Tryz.isAgg201
 z213:=Tryz.sizeOf201
 t232:=Tryz.underlying224
 a232:=Tryz.isAgg224
 z232:=Tryz.sizeOf224
 v232:=Tryz.zeroValue224
 t233:=Tryz.underlying225
 a233:=Tryz.isAgg225
 z233:=Tryz.sizeOf225
 v233:=Tryz.zeroValue225
 g15:=by kernel_rfl
 g16:=by kernel_rfl
 g17:=by kernel_rfl
 g18:=by kernel_rfl
 g19:=by kernel_rfl
 t80:=Tryz.underlying80
 a80:=Tryz.isAgg80
 z80:=Tryz.sizeOf80
 v80:=Tryz.zeroValue80
 i0:=by kernel_rfl
 i2:=by kernel_rfl
 i3:=by kernel_rfl
 i4:=by kernel_rfl
 i5:=by kernel_rfl
 i9:=by kernel_rfl
 i20:=by kernel_rfl
 i21:=by kernel_rfl
 i37:=by kernel_rfl
 i46:=by kernel_rfl
 i51:=by kernel_rfl
 i53:=by kernel_rfl
 i75:=by kernel_rfl
 i76:=by kernel_rfl
 i80:=by kernel_rfl
 i85:=by kernel_rfl
 i127:=by kernel_rfl
 i143:=by kernel_rfl
 i145:=by kernel_rfl
 i167:=by kernel_rfl
 i168:=by kernel_rfl
 i171:=by kernel_rfl
 i173:=by kernel_rfl
 i175:=by kernel_rfl
 i210:=by kernel_rfl
 i212:=by kernel_rfl
 i232:=by kernel_rfl
 i233:=by kernel_rfl
 m15:=by kernel_rfl
 m16:=by kernel_rfl
 m17:=by kernel_rfl
 m18:=by kernel_rfl
 m19:=by kernel_rfl
 c0:=by kernel_rfl
 c2:=by kernel_rfl
 c3:=by kernel_rfl
 c4:=by kernel_rfl
 c5:=by kernel_rfl
 c9:=by kernel_rfl
 c20:=by kernel_rfl
 c21:=by kernel_rfl
 c37:=by kernel_rfl
 c46:=by kernel_rfl
 c51:=by kernel_rfl
 c53:=by kernel_rfl
 c75:=by kernel_rfl
 c76:=by kernel_rfl
 c80:=by kernel_rfl
 c85:=by kernel_rfl
 c127:=by kernel_rfl
 c143:=by kernel_rfl
 c145:=by kernel_rfl
 c167:=by kernel_rfl
 c168:=by kernel_rfl
 c171:=by kernel_rfl
 c173:=by kernel_rfl
 c175:=by kernel_rfl
 c210:=by kernel_rfl
 c212:=by kernel_rfl
 c213:=by kernel_rfl
 c232:=by kernel_rfl
 c233:=by kernel_rfl}
def Tryz.lays171_ren:Go.Shelf.Ren:=⟨fun|171=>87|243=>126|246=>150|283=>183|284=>184|285=>185|286=>186|129=>182|317=>208|318=>209|319=>210|320=>211|337=>224|338=>225|n=>n,fun|3=>3|9=>9|2=>2|4=>4|171=>179|0=>0|53=>159|37=>72|5=>5|173=>181|212=>200|51=>177|20=>20|213=>201|46=>152|232=>224|233=>225|n=>n,fun|17=>1|18=>4|19=>5|n=>n⟩
theorem Tryz.lays171:Go.Proofs.LaysM.n171 Tryz.prog Tryz.lays171_ren:={
 mixed:=by kernel_rfl
 f129:=Tryz.func182.trans (congrArg some (by kernel_rfl))
 f171:=Tryz.func87.trans (congrArg some (by kernel_rfl))
 f243:=Tryz.func126.trans (congrArg some (by kernel_rfl))
 f246:=Tryz.func150.trans (congrArg some (by kernel_rfl))
 f283:=Tryz.func183.trans (congrArg some (by kernel_rfl))
 f284:=Tryz.func184.trans (congrArg some (by kernel_rfl))
 f285:=Tryz.func185.trans (congrArg some (by kernel_rfl))
 f286:=Tryz.func186.trans (congrArg some (by kernel_rfl))
 f317:=Tryz.func208.trans (congrArg some (by kernel_rfl))
 f318:=Tryz.func209.trans (congrArg some (by kernel_rfl))
 f319:=Tryz.func210.trans (congrArg some (by kernel_rfl))
 f320:=Tryz.func211.trans (congrArg some (by kernel_rfl))
 f337:=Tryz.func224.trans (congrArg some (by kernel_rfl))
 f338:=Tryz.func225.trans (congrArg some (by kernel_rfl))
 t0:=Tryz.underlying0
 a0:=Tryz.isAgg0
 z0:=Tryz.sizeOf0
 v0:=Tryz.zeroValue0
 t2:=Tryz.underlying2
 a2:=Tryz.isAgg2
 z2:=Tryz.sizeOf2
 v2:=Tryz.zeroValue2
 t3:=Tryz.underlying3
 a3:=Tryz.isAgg3
 z3:=Tryz.sizeOf3
 v3:=Tryz.zeroValue3
 t4:=Tryz.underlying4
 a4:=Tryz.isAgg4
 z4:=Tryz.sizeOf4
 v4:=Tryz.zeroValue4
 t5:=Tryz.underlying5
 a5:=Tryz.isAgg5
 z5:=Tryz.sizeOf5
 v5:=Tryz.zeroValue5
 t9:=Tryz.underlying9
 a9:=Tryz.isAgg9
 z9:=Tryz.sizeOf9
 v9:=Tryz.zeroValue9
 t20:=Tryz.underlying20
 a20:=Tryz.isAgg20
 z20:=Tryz.sizeOf20
 v20:=Tryz.zeroValue20
 t37:=Tryz.underlying72
 a37:=Tryz.isAgg72
 z37:=Tryz.sizeOf72
 v37:=Tryz.zeroValue72
 t46:=Tryz.underlying152
 a46:=Tryz.isAgg152
 z46:=Tryz.sizeOf152
 v46:=Tryz.zeroValue152
 t51:=Tryz.underlying177
 a51:=Tryz.isAgg177
 z51:=Tryz.sizeOf177
 v51:=Tryz.zeroValue177
 t53:=Tryz.underlying159
 a53:=Tryz.isAgg159
 z53:=Tryz.sizeOf159
 v53:=Tryz.zeroValue159
 t171:=Tryz.underlying179
 a171:=Tryz.isAgg179
 z171:=Tryz.sizeOf179
 v171:=Tryz.zeroValue179
 t173:=Tryz.underlying181
 a173:=Tryz.isAgg181
 z173:=Tryz.sizeOf181
 v173:=Tryz.zeroValue181
 t212:=Tryz.underlying200
 a212:=Tryz.isAgg200
 z212:=Tryz.sizeOf200
 v212:=Tryz.zeroValue200
 t213:=Tryz.underlying201
 a213:=Tryz.isAgg201
 z213:=Tryz.sizeOf201
 t232:=Tryz.underlying224
 a232:=Tryz.isAgg224
 z232:=Tryz.sizeOf224
 v232:=Tryz.zeroValue224
 t233:=Tryz.underlying225
 a233:=Tryz.isAgg225
 z233:=Tryz.sizeOf225
 v233:=Tryz.zeroValue225
 g17:=by kernel_rfl
 g18:=by kernel_rfl
 g19:=by kernel_rfl
 i0:=by kernel_rfl
 i2:=by kernel_rfl
 i3:=by kernel_rfl
 i4:=by kernel_rfl
 i5:=by kernel_rfl
 i9:=by kernel_rfl
 i20:=by kernel_rfl
 i37:=by kernel_rfl
 i46:=by kernel_rfl
 i51:=by kernel_rfl
 i53:=by kernel_rfl
 i171:=by kernel_rfl
 i173:=by kernel_rfl
 i212:=by kernel_rfl
 i232:=by kernel_rfl
 i233:=by kernel_rfl
 m17:=by kernel_rfl
 m18:=by kernel_rfl
 m19:=by kernel_rfl}
def Tryz.lays99_ren:Go.Shelf.Ren:=⟨fun|99=>151|206=>187|n=>n,fun|9=>9|4=>4|3=>3|n=>n,fun|n=>n⟩
theorem Tryz.lays99:Go.Proofs.Lays.n99 Tryz.prog Tryz.lays99_ren:={
 mixed:=by kernel_rfl
 f99:=Tryz.func151.trans (congrArg some (by kernel_rfl))
 f206:=Tryz.func187.trans (congrArg some (by kernel_rfl))
 t3:=Tryz.underlying3
 a3:=Tryz.isAgg3
 z3:=Tryz.sizeOf3
 v3:=Tryz.zeroValue3
 t4:=Tryz.underlying4
 a4:=Tryz.isAgg4
 z4:=Tryz.sizeOf4
 v4:=Tryz.zeroValue4
 t9:=Tryz.underlying9
 a9:=Tryz.isAgg9
 z9:=Tryz.sizeOf9
 v9:=Tryz.zeroValue9}
def Tryz.lays190_ren:Go.Shelf.Ren:=⟨fun|190=>123|125=>149|258=>148|128=>181|129=>182|302=>172|303=>173|304=>174|305=>175|306=>176|307=>177|308=>178|309=>179|310=>180|333=>202|329=>203|330=>204|334=>205|335=>206|336=>207|344=>223|n=>n,fun|31=>31|9=>9|3=>3|46=>152|0=>0|51=>177|53=>159|4=>4|183=>170|182=>169|131=>174|5=>5|218=>192|222=>196|228=>213|229=>214|n=>n,fun|n=>n⟩
theorem Tryz.lays190:Go.Proofs.Lays.n190 Tryz.prog Tryz.lays190_ren:={
 mixed:=by kernel_rfl
 f125:=Tryz.func149.trans (congrArg some (by kernel_rfl))
 f128:=Tryz.func181.trans (congrArg some (by kernel_rfl))
 f129:=Tryz.func182.trans (congrArg some (by kernel_rfl))
 f190:=Tryz.func123.trans (congrArg some (by kernel_rfl))
 f258:=Tryz.func148.trans (congrArg some (by kernel_rfl))
 f302:=Tryz.func172.trans (congrArg some (by kernel_rfl))
 f303:=Tryz.func173.trans (congrArg some (by kernel_rfl))
 f304:=Tryz.func174.trans (congrArg some (by kernel_rfl))
 f305:=Tryz.func175.trans (congrArg some (by kernel_rfl))
 f306:=Tryz.func176.trans (congrArg some (by kernel_rfl))
 f307:=Tryz.func177.trans (congrArg some (by kernel_rfl))
 f308:=Tryz.func178.trans (congrArg some (by kernel_rfl))
 f309:=Tryz.func179.trans (congrArg some (by kernel_rfl))
 f310:=Tryz.func180.trans (congrArg some (by kernel_rfl))
 f329:=Tryz.func203.trans (congrArg some (by kernel_rfl))
 f330:=Tryz.func204.trans (congrArg some (by kernel_rfl))
 f333:=Tryz.func202.trans (congrArg some (by kernel_rfl))
 f334:=Tryz.func205.trans (congrArg some (by kernel_rfl))
 f335:=Tryz.func206.trans (congrArg some (by kernel_rfl))
 f336:=Tryz.func207.trans (congrArg some (by kernel_rfl))
 f344:=Tryz.func223.trans (congrArg some (by kernel_rfl))
 t0:=Tryz.underlying0
 a0:=Tryz.isAgg0
 z0:=Tryz.sizeOf0
 v0:=Tryz.zeroValue0
 t3:=Tryz.underlying3
 a3:=Tryz.isAgg3
 z3:=Tryz.sizeOf3
 v3:=Tryz.zeroValue3
 t4:=Tryz.underlying4
 a4:=Tryz.isAgg4
 z4:=Tryz.sizeOf4
 v4:=Tryz.zeroValue4
 t5:=Tryz.underlying5
 a5:=Tryz.isAgg5
 z5:=Tryz.sizeOf5
 v5:=Tryz.zeroValue5
 t9:=Tryz.underlying9
 a9:=Tryz.isAgg9
 z9:=Tryz.sizeOf9
 v9:=Tryz.zeroValue9
 t31:=Tryz.underlying31
 a31:=Tryz.isAgg31
 z31:=Tryz.sizeOf31
 v31:=Tryz.zeroValue31
 t46:=Tryz.underlying152
 a46:=Tryz.isAgg152
 z46:=Tryz.sizeOf152
 v46:=Tryz.zeroValue152
 t51:=Tryz.underlying177
 a51:=Tryz.isAgg177
 z51:=Tryz.sizeOf177
 v51:=Tryz.zeroValue177
 t53:=Tryz.underlying159
 a53:=Tryz.isAgg159
 z53:=Tryz.sizeOf159
 v53:=Tryz.zeroValue159
 t131:=Tryz.underlying174
 a131:=Tryz.isAgg174
 z131:=Tryz.sizeOf174
 v131:=Tryz.zeroValue174
 t182:=Tryz.underlying169
 a182:=Tryz.isAgg169
 z182:=Tryz.sizeOf169
 v182:=Tryz.zeroValue169
 t183:=Tryz.underlying170
 a183:=Tryz.isAgg170
 z183:=Tryz.sizeOf170
 v183:=Tryz.zeroValue170
 t218:=Tryz.underlying192
 a218:=Tryz.isAgg192
 z218:=Tryz.sizeOf192
 v218:=Tryz.zeroValue192
 t222:=Tryz.underlying196
 a222:=Tryz.isAgg196
 z222:=Tryz.sizeOf196
 v222:=Tryz.zeroValue196
 t228:=Tryz.underlying213
 a228:=Tryz.isAgg213
 z228:=Tryz.sizeOf213
 v228:=Tryz.zeroValue213
 t229:=Tryz.underlying214
 a229:=Tryz.isAgg214
 z229:=Tryz.sizeOf214
 v229:=Tryz.zeroValue214}
end Go.Proofs.YtkpppjbhmmabeaaGreatDoor
namespace Go.Proofs.YtkpppjbhmmabeaaGreatDoor
open Go.Pl Go.RowKit
open Enc (enc dec is)
open EncL (encL decL isL)
set_option maxRecDepth 100000
theorem Da:Zo Tryz.prog 151 (fun _:Str×Str×Unit=>true) (fun x:Str×Str×Unit=>x.2.1.s.isPrefixOf x.1.s):=YT (by
  rintro⟨⟨s⟩,⟨p⟩,⟨⟩⟩ hps Φ w vs hL hΦ hv
  obtain⟨u,v,rfl,h1,h2⟩:=c2m hv
  rw[VJ h1,VJ h2]
  refine(Any.strings_HasPrefix Tryz.lays99 ⟨s.toArray⟩ ⟨p.toArray⟩ w).mono ?_
  rintro e w' ⟨rfl,rfl⟩
  exact⟨_,rfl,.bool _,.refl _ _⟩)
theorem d3d:Zo Tryz.prog 152 (fun x:Str×Unit=>decide (x.1.s.length<=1000000)) (fun x:Str×Unit=>YL x.1):=YT (by
  rintro⟨⟨s⟩,⟨⟩⟩ hps Φ w vs hL hΦ a
  have hs:s.length<=1000000:=by simpa using hps
  obtain⟨v,rfl,h1⟩:=e0y a
  rw[VJ h1]
  have i:(⟨s.toArray⟩:ByteArray).size=s.length:=rfl
  cases h:Lib.atoiAll s
  ·rename_i n
   have k:YL ⟨s⟩=(n,⟨false⟩):=by simp only[YL,h]
   rw[k]
   refine(Any.strconv_Atoi_ok Tryz.lays172 ⟨s.toArray⟩ (by rw[i];omega) n h w).mono ?_
   rintro e w' ⟨rfl,m⟩
   refine⟨_,rfl,.tup _ _ rfl ?_,?_⟩
   ·intro j v x a b
    match j with
    | 0=>cases a;cases b;exact .int _ _
    | 1=>cases a;cases b;exact .nili
    | j+2=>simp at a
   ·rcases m with rfl|⟨t,rfl⟩
    ·exact .refl _ _
    ·exact A8 _ _ 0 _
  ·skip
   have k:YL ⟨s⟩=(0,⟨true⟩):=by simp only[YL,h]
   rw[k]
   obtain⟨cs,hc,ev,l,g⟩:=hL.syn
   refine(Any.strconv_Atoi_syntax Tryz.lays172 ⟨s.toArray⟩ (by rw[i];omega) h ev w (KE hΦ hc l) g).mono ?_
   rintro e w' ⟨N,rfl,_,_,hb⟩
   refine⟨_,rfl,.tup _ _ rfl ?_,hb⟩
   intro j v x a b
   match j with
   | 0=>cases a;cases b;exact .int _ _
   | 1=>cases a;cases b;exact .ifc _ _
   | j+2=>simp at a
  ·skip
   have k:YL ⟨s⟩=(Lib.atoiSat s,⟨true⟩):=by simp only[YL,h]
   rw[k]
   obtain⟨cs,hc,ev,l,g⟩:=hL.rng
   refine(Any.strconv_Atoi_range Tryz.lays172 ⟨s.toArray⟩ (by rw[i];omega) h ev w (KE hΦ hc l) g).mono ?_
   rintro e w' ⟨N,rfl,_,_,hb⟩
   refine⟨_,rfl,.tup _ _ rfl ?_,hb⟩
   intro j v x a b
   match j with
   | 0=>cases a;cases b;exact .int _ _
   | 1=>cases a;cases b;exact .ifc _ _
   | j+2=>simp at a)
theorem KF:Zo Tryz.prog 87 (fun x:Int×Unit=>decide (-9223372036854775808<=x.1)&&decide (x.1<=9223372036854775807)) (fun x:Int×Unit=>Zp x.1):=YT (by
  rintro⟨n,⟨⟩⟩ hps Φ w vs hL hΦ hv
  obtain⟨v,rfl,h1⟩:=e0y hv
  have h1:RP Φ v (.int .i64 n):=h1
  rw[f4a h1]
  have hn : -9223372036854775808<=n∧n<=9223372036854775807:=by simpa using hps
  have hg:=hL.pow
  obtain⟨T,fz,hh⟩:=hΦ _ _ hg
  refine(Any.strconv_Itoa Tryz.lays171 n hn.1 hn.2 w ?_).mono ?_
  ·unfold Lib.TabIs World.var?
   rw[show Program.globalNamed Tryz.prog "internal/strconv.uint64pow10" = some 1 by kernel_rfl]
   simp only[Option.bind_some,hh]
   rfl
  ·rintro e w' ⟨rfl,k,os,rfl⟩
   refine⟨_,rfl,.str _,?_⟩
   exact⟨rfl,rfl,rfl,by show w.heap.size<=(w.heap++os).size;simp,fun j hj=>by show(w.heap++os)[j]? = _;rw[Array.getElem?_append_left hj]⟩)
end Go.Proofs.YtkpppjbhmmabeaaGreatDoor
namespace Go.Proofs.YtkpppjbhmmabeaaGreatDoor
open Go.Pl Go.RowKit
open Enc (enc dec is)
open EncL (encL decL isL)
set_option maxRecDepth 100000
theorem e9l: ∀ s:List UInt8,((s.dropWhile fun c=>c != 46)=[]->Lib.index s [46] = -1) ∧
  ∀ (c:UInt8) (r:List UInt8),(s.dropWhile fun c=>c != 46)=c::r->Lib.index s [46]=((s.takeWhile fun c=>c != 46).length:Nat)∧s.drop ((s.takeWhile fun c=>c != 46).length+1)=r∧s.take (s.takeWhile fun c=>c != 46).length=s.takeWhile fun c=>c != 46
 | []=>⟨fun _=>rfl,fun _ _ h=>by cases h⟩
 | b::l=>by
  obtain⟨h1,h2⟩:=e9l l
  by_cases hb:b=46
  ·subst hb
   refine⟨fun h=>by simp at h,fun c r h=> ?_⟩
   have h:(46:UInt8)::l=c::r:=by simpa using h
   cases h
   exact⟨rfl,rfl,rfl⟩
  ·have a:(b != 46)=true:=by simpa using hb
   have j:([46]:List UInt8).isPrefixOf (b::l)=false:=by simp[List.isPrefixOf];exact fun e=>hb e.symm
   have g:Lib.index (b::l) [46]=if Lib.index l [46] == -1 then -1 else Lib.index l [46]+1:=by rw[Lib.index,j];rfl
   rw[List.dropWhile_cons,if_pos a,List.takeWhile_cons,if_pos a]
   refine⟨fun h=>by rw[g,h1 h];rfl,fun c r h=> ?_⟩
   obtain⟨k,i,m⟩:=h2 c r h
   rw[g,k]
   refine⟨?_,?_,?_⟩
   ·rw[if_neg (by simp),List.length_cons];rfl
   ·rw[List.length_cons,List.drop_succ_cons];exact i
   ·rw[List.length_cons,List.take_succ_cons,m]
theorem d9t(s:List UInt8):Lib.cut s [46]=((Qb ⟨s⟩).a.s,(Qb ⟨s⟩).b.s,(Qb ⟨s⟩).c):=by
 obtain⟨h1,h2⟩:=e9l s
 unfold Lib.cut Qb
 cases hd:s.dropWhile fun c=>c != 46 with
 | nil=>
  rw[h1 hd]
  rfl
 | cons c r=>
  obtain⟨g,e,h⟩:=h2 c r hd
  rw[g,if_pos (by omega),Int.toNat_natCast,h]
  show(_,s.drop ((s.takeWhile fun c=>c != 46).length+1),true)=_
  rw[e]
theorem c8s:Zo Tryz.prog 171 (fun x:Str×Str×Unit=>decide (x.1.s.length<=1048576)&&decide (x.2.1.s=[46])) (fun x:Str×Str×Unit=>Qb x.1):=YT (by
  rintro⟨⟨s⟩,⟨p⟩,⟨⟩⟩ hps Φ w vs hL hΦ a
  simp only[Bool.and_eq_true,decide_eq_true_eq]at hps
  obtain⟨hs,h⟩:=hps
  have h:p=[46]:=h
  subst h
  obtain⟨u,v,rfl,h1,h2⟩:=c2m a
  rw[VJ h1,VJ h2]
  obtain⟨cs,m,hc,hm⟩:=hL.mx
  have g:(⟨s.toArray⟩:ByteArray).size=s.length:=rfl
  refine(Any.strings_Cut Tryz.lays145 ⟨s.toArray⟩ ⟨#[46]⟩ m w (by rw[g];have hs:s.length<=1048576:=hs;omega) (KE hΦ hc hm)).mono ?_
  rintro e w' ⟨rfl,k,rfl⟩
  refine⟨_,rfl,.tup _ _ rfl ?_,?_⟩
  ·rw[show(⟨s.toArray⟩:ByteArray).data.toList=s from rfl,show(⟨#[46]⟩:ByteArray).data.toList=[46]from rfl,d9t]
   intro j v x a b
   match j with
   | 0=>cases a;cases b;exact .str _
   | 1=>cases a;cases b;exact .str _
   | 2=>cases a;cases b;exact .bool _
   | j+3=>simp at a
  ·exact⟨rfl,rfl,rfl,Nat.le_refl _,fun _ _=>rfl⟩)
theorem c0x:Lib.formatBool true=[116,114,117,101]:=by decide
theorem b1q:Lib.formatBool false=[102,97,108,115,101]:=by decide
theorem f0m:Zo Tryz.prog 88 (fun _:Bool×Unit=>true) (fun x:Bool×Unit=>e6z x.1):=YT (by
  rintro⟨b,⟨⟩⟩ _ Φ w vs hL hΦ hv
  obtain⟨v,rfl,h1⟩:=e0y hv
  have h1:RP Φ v (.bool b):=h1
  cases h1
  refine(Any.strconv_FormatBool Tryz.lays121 b w).mono ?_
  rintro e w' ⟨rfl,rfl⟩
  refine⟨_,rfl,?_,.refl _ _⟩
  cases b
  ·rw[b1q];exact .str _
  ·rw[c0x];exact .str _)
theorem RJ:Zo Tryz.prog 93 (fun x:Str×Str×Unit=>decide (x.1.s.length<=1000000)) (fun x:Str×Str×Unit=>(⟨Lib.trimSuffix x.1.s x.2.1.s⟩:Str)):=YT (by
  rintro⟨⟨s⟩,⟨p⟩,⟨⟩⟩ hps Φ w vs hL hΦ hv
  have hs:s.length<=1000000:=by simpa using hps
  obtain⟨u,v,rfl,h1,h2⟩:=c2m hv
  rw[VJ h1,VJ h2]
  have a:(⟨s.toArray⟩:ByteArray).size=s.length:=rfl
  refine(Any.strings_TrimSuffix Tryz.lays102 ⟨s.toArray⟩ ⟨p.toArray⟩ w (by rw[a];omega)).mono ?_
  rintro e w' ⟨rfl,rfl⟩
  exact⟨_,rfl,.str _,.refl _ _⟩)
theorem b6h:Builder.Extra Tryz.prog Tryz.lays156_ren where
 sizeBuilder:=by kernel_rfl
 liesBuilder:=by kernel_rfl
 t5:=Tryz.lays288.t5
 a5:=Tryz.lays288.a5
 z5:=Tryz.lays288.z5
 v5:=Tryz.lays288.v5
 infoByte:=by kernel_rfl
 cellsByte:=by kernel_rfl
 sizeByte:=by kernel_rfl
 neB5:=by decide
theorem Dr: ∀ l:List (List UInt8),Lib.join l [44,32]=Zv l
 | []=>rfl
 | [s]=>by simp[Lib.join,List.intercalate,Zv]
 | s::t::r=>by
  have h:=Dr (t::r)
  rw[Zv]
  ·rw[<- h]
   simp[Lib.join,List.intercalate]
  ·simp
theorem Lb(l:List Str):flat (l.map (enc:Str->PV))=l.map fun s:Str=>PV.str s.s:=by
 induction l with
 | nil=>rfl
 | cons a l ih=>rw[List.map_cons,List.map_cons,<- ih];rfl
theorem EI:Zo Tryz.prog 19 (fun x:List Str×Str×Unit=>YO x.1&&decide (x.2.1.s=[44,32])) (fun x:List Str×Str×Unit=>Yh x.1):=YT (by
  rintro⟨l,⟨p⟩,⟨⟩⟩ hps Φ w vs hL hΦ hv
  simp only[Bool.and_eq_true,decide_eq_true_eq]at hps
  obtain⟨m,z⟩:=hps
  have z:p=[44,32]:=z
  subst z
  have m:YO l=true:=m
  unfold YO at m
  simp only[Bool.and_eq_true,decide_eq_true_eq]at m
  obtain⟨u,v,rfl,h1,h2⟩:=c2m hv
  have h1:RP Φ u (.sl 1 false (l.map enc)):=h1
  rw[VJ h2]
  have B:(l.map fun s:Str=>(⟨s.s.toArray⟩:ByteArray)).map (·.data.toList)=l.map (·.s):=by rw[List.map_map];rfl
  by_cases hl:l=[]
  ·subst hl
   have : ∃ a c,u = .slice a 0 c:=by
    cases h1 with
    | sl0 a c _ _ h=>exact⟨a,c,rfl⟩
    | sl b off cs c _ _ _ uu hb hc htt hs hu hr=>exact⟨_,_,rfl⟩
   obtain⟨a,c,rfl⟩:=this
   refine(Any.strings_Join_none Tryz.lays156 b6h a c ⟨#[44,32]⟩ w).mono ?_
   rintro e w' ⟨rfl,rfl⟩
   exact⟨_,rfl,.str _,.refl _ _⟩
  ·obtain⟨b,off,c,cs,E,rfl,hb,hc,_,h3,F,y,h6⟩:=h1.sl_cells hΦ (by simpa using hl)
   obtain⟨T,fz,C⟩:=hΦ b cs hb
   have i:b<w.heap.size:=(Array.getElem?_eq_some_iff.1 C).1
   have D:=Lb l
   rw[D]at y
   have g : ∀ (j:Nat) x,(l.map fun s:Str=>(⟨s.s.toArray⟩:ByteArray))[j]? = some x->w.cell? ⟨b,off+j,none⟩=some (.string x):=fun j x A=>by
    rw[List.getElem?_map,Option.map_eq_some_iff]at A
    obtain⟨s,hs,rfl⟩:=A
    have r:j<E.length:=by rw[y.1,List.length_map];exact(List.getElem?_eq_some_iff.1 hs).1
    have hu:=List.getElem?_eq_getElem r
    have hr:=y.2 j _ _ hu (by rw[List.getElem?_map,hs];rfl)
    rw[F j _ hu,VJ hr]
   have k:(l.map (enc:Str->PV)).length=(l.map fun s:Str=>(⟨s.s.toArray⟩:ByteArray)).length:=by rw[List.length_map,List.length_map]
   rw[k]at hc ⊢
   refine(Any.strings_Join Tryz.lays156 b6h b off c (l.map fun s:Str=>(⟨s.s.toArray⟩:ByteArray)) ⟨#[44,32]⟩ w g i (by rw[List.length_map];omega) hc (by
    rw[B]
    show(Lib.join (l.map (·.s)) [44,32]).length<=_
    rw[Dr];omega)).mono ?_
   rintro e w' ⟨rfl,q⟩
   refine⟨_,rfl,?_,q⟩
   rw[B]
   show RP Φ (.string ⟨(Lib.join (l.map (·.s)) [44,32]).toArray⟩) _
   rw[Dr]
   exact .str _)
theorem TS:XG Tryz.prog 157 (De 5) L6:=f3u (ρ:=Tryz.lays288_ren) Tryz.lays288 fun Φ w hL hΦ=>by
 have hg:=hL.pow
 obtain⟨T,fz,hh⟩:=hΦ _ _ hg
 unfold Lib.TabIs World.var?
 rw[show Program.globalNamed Tryz.prog "internal/strconv.uint64pow10" = some 1 by kernel_rfl]
 simp only[Option.bind_some,hh]
 rfl
end Go.Proofs.YtkpppjbhmmabeaaGreatDoor
namespace Go.Proofs.YtkpppjbhmmabeaaGreatDoor
open Go.Shelf
def Tryz.keysA_ren:Go.Shelf.Ren:=⟨fun|7=>84|10=>124|n=>n,fun|23=>109|26=>9|3=>4|28=>114|0=>0|27=>113|33=>56|4=>4|n=>n,fun|n=>n⟩
theorem Tryz.keysA:Go.Proofs.SlLaysZ.n7 Tryz.prog Tryz.keysA_ren:={
 mixed:=by kernel_rfl
 f7:=⟨Tryz.f84.name,by decide,Tryz.func84.trans (congrArg some (by kernel_rfl))⟩
 f10:=⟨Tryz.f124.name,by decide,Tryz.func124.trans (congrArg some (by kernel_rfl))⟩
 t0:=Tryz.underlying0
 a0:=Tryz.isAgg0
 z0:=Tryz.sizeOf0
 v0:=Tryz.zeroValue0
 t4:=Tryz.underlying4
 a4:=Tryz.isAgg4
 z4:=Tryz.sizeOf4
 v4:=Tryz.zeroValue4
 t23:=Tryz.underlying109
 a23:=Tryz.isAgg109
 z23:=Tryz.sizeOf109
 v23:=Tryz.zeroValue109
 t26:=Tryz.underlying9
 a26:=Tryz.isAgg9
 z26:=Tryz.sizeOf9
 v26:=Tryz.zeroValue9
 t27:=Tryz.underlying113
 a27:=Tryz.isAgg113
 z27:=Tryz.sizeOf113
 v27:=Tryz.zeroValue113
 t28:=Tryz.underlying114
 a28:=Tryz.isAgg114
 z28:=Tryz.sizeOf114
 v28:=Tryz.zeroValue114
 t33:=Tryz.underlying56
 a33:=Tryz.isAgg56
 z33:=Tryz.sizeOf56
 v33:=Tryz.zeroValue56}
def Tryz.sortedA_ren:Go.Shelf.Ren:=⟨fun|6=>83|8=>122|9=>123|11=>147|13=>149|12=>148|23=>181|24=>182|14=>172|15=>173|16=>174|17=>175|18=>176|19=>177|20=>178|21=>179|22=>180|25=>202|26=>203|27=>204|28=>205|29=>206|30=>207|31=>223|n=>n,fun|26=>9|28=>114|24=>31|0=>0|3=>3|37=>152|48=>177|50=>159|4=>4|40=>170|39=>169|45=>174|5=>5|9=>9|51=>192|55=>196|57=>213|58=>214|33=>56|n=>n,fun|n=>n⟩
theorem Tryz.sortedA:Go.Proofs.SlLaysZ.n6 Tryz.prog Tryz.sortedA_ren:={
 mixed:=by kernel_rfl
 f6:=⟨Tryz.f83.name,by decide,Tryz.func83.trans (congrArg some (by kernel_rfl))⟩
 f8:=⟨Tryz.f122.name,by decide,Tryz.func122.trans (congrArg some (by kernel_rfl))⟩
 f11:=⟨Tryz.f147.name,by decide,Tryz.func147.trans (congrArg some (by kernel_rfl))⟩
 t0:=Tryz.underlying0
 a0:=Tryz.isAgg0
 z0:=Tryz.sizeOf0
 v0:=Tryz.zeroValue0
 t24:=Tryz.underlying31
 a24:=Tryz.isAgg31
 z24:=Tryz.sizeOf31
 v24:=Tryz.zeroValue31
 t26:=Tryz.underlying9
 a26:=Tryz.isAgg9
 z26:=Tryz.sizeOf9
 v26:=Tryz.zeroValue9
 t28:=Tryz.underlying114
 a28:=Tryz.isAgg114
 z28:=Tryz.sizeOf114
 v28:=Tryz.zeroValue114
 i26:=by kernel_rfl}
end Go.Proofs.YtkpppjbhmmabeaaGreatDoor
namespace Go.Proofs.YtkpppjbhmmabeaaGreatDoor
open Go.RowKit Go.Shelf Go.Pl Go.Proofs
theorem e3j(m:Nat):AnyZ.SortsIn Tryz.prog Tryz.sortedA_ren Fence.wide m:=
  ⟨fun blk off cap ss W e a b=>callsIn_wide.2 (Any.slices_Sort_string Tryz.lays190 blk off cap ss W e a b),
   fun p cap W=>callsIn_wide.2 (Any.slices_Sort_string_none Tryz.lays190 p cap W)⟩
theorem e3t:SortedC Tryz.prog 83 124 9 where
 str:=by kernel_rfl
 run:=by
  intro Bm b nn D0 w i hm e h a
  have g:SeqGives Fence.wide 2 Tryz.prog 124 #[.pointer (some ⟨Bm,0,none⟩)] encStr (fun ss=>ss.Perm (strKeys D0)) (Maps.size D0) w:=
   AnyZ.keys_gives (ρ:=Tryz.keysA_ren) {Tryz.keysA with} Fence.wide _ trivial rfl (by omega) Bm b nn D0 _ i hm e
  exact callsIn_wide.1 (AnyZ.sorted_in Tryz.sortedA Fence.wide 5 trivial trivial trivial trivial rfl (by omega) (e3j _) (enters_of Tryz.func123 (by kernel_rfl) rfl) 124 #[.pointer (some ⟨Bm,0,none⟩)] trivial (enters_of Tryz.func124 (by kernel_rfl) rfl) _ _ h a _ g)
theorem g3p:XG Tryz.prog 83 (Q4 124) Jb:=a8x (a9b e3t)
end Go.Proofs.YtkpppjbhmmabeaaGreatDoor
namespace Go.Proofs.YtkpppjbhmmabeaaGreatDoor
open Go.RowKit Go.Lib Go.Pl
theorem c8p:(Tryz.prog.info? 3).map (fun i=>(i.zero,i.size,i.bytes))=some (some (.int .i64 0),1,8):=by kernel_rfl
theorem Cw:Tryz.prog.underlying 24=some (.slice 3):=by kernel_rfl
theorem a6i(n c:Nat)(w:World):Calls Tryz.prog 156 #[.slice none n c] w fun e w'=>e = .returned (.slice none 0 0)∧w'=w:=by
 have q22 : ∀ (w:World) (a:Option Addr) (n c g b:Nat),(binOp .eql 24 (.slice a n c) (.slice none g b)).run Tryz.prog w = .ok (.bool a.isNone) w:=fun w a n c g b=>Lib.run_eql_slice_nil w _ _ a n c g b Cw
 go_enter Tryz.func156,Tryz.ntmps156
 go_wp2
 go_ret
 exact⟨rfl,rfl⟩
theorem a0m(a:Addr)(c:Nat)(w:World):Calls Tryz.prog 156 #[.slice (some a) 0 c] w fun e w'=>(∃ g,e = .returned (.slice (some g) 0 0))∧Below w.heap.size w w':=by
 have q22 : ∀ (w:World) (a:Option Addr) (n c h b:Nat),(binOp .eql 24 (.slice a n c) (.slice none h b)).run Tryz.prog w = .ok (.bool a.isNone) w:=fun w a n c h b=>Lib.run_eql_slice_nil w _ _ a n c h b Cw
 obtain⟨i0,hi,hz0,hz1,hz2⟩:=info_parts c8p
 go_enter Tryz.func156,Tryz.ntmps156
 go_wp2_with (at_builtin;refine Lib.wpList_append_run _ rfl _ _ _ _ rfl _ _ rfl rfl _ _ (Vn Cw hi (Nat.le_refl _)) ?_)
 go_ret
 exact⟨⟨_,rfl⟩,(Below.refl _ w).alloc (Nat.le_refl _) _⟩
theorem EC(a:Addr)(n c:Nat)(news:List Value)(w:World)(h0:0<n)(hn:n<=2000000)(z:news.length=n*1)(hc : ∀ j u,news[j]? = some u->w.cell? (a.add j)=some u)(h1 : ∀ u∈news,u.oneCell'=true):
  Calls Tryz.prog 156 #[.slice (some a) n c] w fun e w'=> ∃ v',e = .returned v'∧w'.ownsRow w.heap.size 3 1 v' n news∧Below w.heap.size w w':=by
 have q22 : ∀ (w:World) (a:Option Addr) (n c q h:Nat),(binOp .eql 24 (.slice a n c) (.slice none q h)).run Tryz.prog w = .ok (.bool a.isNone) w:=fun w a n c q h=>Lib.run_eql_slice_nil w _ _ a n c q h Cw
 obtain⟨s,hi,i,m,l⟩:=info_parts c8p
 have A:Aside (∀ j u,news[j]? = some u->w.cell? (a.add j)=some u):=hc
 clear hc
 go_enter Tryz.func156,Tryz.ntmps156
 go_wp2_with (at_builtin;refine wpList_append_own _ rfl _ _ 24 rfl w.heap.size 3 s (.int .i64 0) 1 8 Cw hi i m l rfl (by decide) _ _ _ rfl (World.ownsRow_made w #[] 0 (Nat.le_refl _) (Nat.zero_le _) rfl) a n c news rfl ?qc1 ?qc2 ?qc3 ?qc4 ?qc5 ?qc6 ?_)
 case qc1=>exact z
 case qc2=>intro j u r;exact Lib.cell?_alloc_some _ (A.out j u r)
 case qc3=>exact h1
 case qc4=>unfold maxLen;omega
 case qc5=>omega
 case qc6=>simp
 intro v' w1 g b hnil
 go_wp2
 go_ret
 refine⟨v',rfl,by simpa using g,?_⟩
 exact((Below.refl _ w).alloc (Nat.le_refl _) _).grown b (by simp) (by intro k y;simp[Value.ownBlock]at y;omega)
theorem f7v:CloneC Tryz.prog 156 3 1:=⟨a6i,a0m,EC⟩
end Go.Proofs.YtkpppjbhmmabeaaGreatDoor
namespace Go.Proofs.YtkpppjbhmmabeaaGreatDoor
open Go.Shelf
def Tryz.lays160_ren:Go.Shelf.Ren:=⟨fun|160=>158|232=>194|231=>193|227=>195|234=>197|233=>196|236=>199|235=>198|228=>218|271=>221|151=>220|197=>219|120=>231|152=>230|260=>229|137=>238|119=>239|224=>234|225=>233|217=>232|266=>240|n=>n,fun|9=>9|4=>4|3=>3|5=>5|117=>188|116=>187|0=>0|124=>191|21=>21|105=>209|46=>152|119=>230|139=>233|138=>232|n=>n,fun|3=>6|4=>7|n=>n⟩
theorem Tryz.lays160:Go.Proofs.Lays.n160 Tryz.prog Tryz.lays160_ren:={
 mixed:=by kernel_rfl
 f119:=Tryz.func239.trans (congrArg some (by kernel_rfl))
 f120:=Tryz.func231.trans (congrArg some (by kernel_rfl))
 f137:=Tryz.func238.trans (congrArg some (by kernel_rfl))
 f151:=Tryz.func220.trans (congrArg some (by kernel_rfl))
 f152:=Tryz.func230.trans (congrArg some (by kernel_rfl))
 f160:=Tryz.func158.trans (congrArg some (by kernel_rfl))
 f197:=Tryz.func219.trans (congrArg some (by kernel_rfl))
 f217:=Tryz.func232.trans (congrArg some (by kernel_rfl))
 f224:=Tryz.func234.trans (congrArg some (by kernel_rfl))
 f225:=Tryz.func233.trans (congrArg some (by kernel_rfl))
 f227:=Tryz.func195.trans (congrArg some (by kernel_rfl))
 f228:=Tryz.func218.trans (congrArg some (by kernel_rfl))
 f231:=Tryz.func193.trans (congrArg some (by kernel_rfl))
 f232:=Tryz.func194.trans (congrArg some (by kernel_rfl))
 f233:=Tryz.func196.trans (congrArg some (by kernel_rfl))
 f234:=Tryz.func197.trans (congrArg some (by kernel_rfl))
 f235:=Tryz.func198.trans (congrArg some (by kernel_rfl))
 f236:=Tryz.func199.trans (congrArg some (by kernel_rfl))
 f260:=Tryz.func229.trans (congrArg some (by kernel_rfl))
 f266:=Tryz.func240.trans (congrArg some (by kernel_rfl))
 f271:=Tryz.func221.trans (congrArg some (by kernel_rfl))
 t0:=Tryz.underlying0
 a0:=Tryz.isAgg0
 z0:=Tryz.sizeOf0
 v0:=Tryz.zeroValue0
 t3:=Tryz.underlying3
 a3:=Tryz.isAgg3
 z3:=Tryz.sizeOf3
 v3:=Tryz.zeroValue3
 t4:=Tryz.underlying4
 a4:=Tryz.isAgg4
 z4:=Tryz.sizeOf4
 v4:=Tryz.zeroValue4
 t5:=Tryz.underlying5
 a5:=Tryz.isAgg5
 z5:=Tryz.sizeOf5
 v5:=Tryz.zeroValue5
 t9:=Tryz.underlying9
 a9:=Tryz.isAgg9
 z9:=Tryz.sizeOf9
 v9:=Tryz.zeroValue9
 t21:=Tryz.underlying21
 a21:=Tryz.isAgg21
 z21:=Tryz.sizeOf21
 v21:=Tryz.zeroValue21
 t46:=Tryz.underlying152
 a46:=Tryz.isAgg152
 z46:=Tryz.sizeOf152
 v46:=Tryz.zeroValue152
 t105:=Tryz.underlying209
 a105:=Tryz.isAgg209
 z105:=Tryz.sizeOf209
 v105:=Tryz.zeroValue209
 t116:=Tryz.underlying187
 a116:=Tryz.isAgg187
 z116:=Tryz.sizeOf187
 t117:=Tryz.underlying188
 a117:=Tryz.isAgg188
 z117:=Tryz.sizeOf188
 v117:=Tryz.zeroValue188
 t119:=Tryz.underlying230
 a119:=Tryz.isAgg230
 z119:=Tryz.sizeOf230
 t124:=Tryz.underlying191
 a124:=Tryz.isAgg191
 z124:=Tryz.sizeOf191
 v124:=Tryz.zeroValue191
 t138:=Tryz.underlying232
 a138:=Tryz.isAgg232
 z138:=Tryz.sizeOf232
 v138:=Tryz.zeroValue232
 t139:=Tryz.underlying233
 a139:=Tryz.isAgg233
 z139:=Tryz.sizeOf233
 v139:=Tryz.zeroValue233
 g3:=by kernel_rfl
 g4:=by kernel_rfl}
end Go.Proofs.YtkpppjbhmmabeaaGreatDoor
namespace Go.Proofs.YtkpppjbhmmabeaaGreatDoor
open Go.Pl Go.RowKit
open Enc (enc dec is)
open EncL (encL decL isL)
set_option maxRecDepth 100000
theorem O5: ∀ l:List (List UInt8),Lib.join l [10]=F3 l
 | []=>rfl
 | [s]=>by simp[Lib.join,List.intercalate,F3]
 | s::t::r=>by
  have h:=O5 (t::r)
  rw[F3]
  ·rw[<- h]
   simp[Lib.join,List.intercalate]
  ·simp
theorem b8n:Zo Tryz.prog 19 (fun x:List Str×Str×Unit=>Rt x.1&&decide (x.2.1.s=[10])) (fun x:List Str×Str×Unit=>nlS x.1):=YT (by
  rintro⟨l,⟨p⟩,⟨⟩⟩ hps Φ w vs hL hΦ hv
  simp only[Bool.and_eq_true,decide_eq_true_eq]at hps
  obtain⟨m,z⟩:=hps
  have z:p=[10]:=z
  subst z
  have m:Rt l=true:=m
  unfold Rt at m
  simp only[Bool.and_eq_true,decide_eq_true_eq]at m
  obtain⟨u,v,rfl,h1,h2⟩:=c2m hv
  have h1:RP Φ u (.sl 1 false (l.map enc)):=h1
  rw[VJ h2]
  have B:(l.map fun s:Str=>(⟨s.s.toArray⟩:ByteArray)).map (·.data.toList)=l.map (·.s):=by rw[List.map_map];rfl
  by_cases hl:l=[]
  ·subst hl
   have : ∃ a c,u = .slice a 0 c:=by
    cases h1 with
    | sl0 a c _ _ h=>exact⟨a,c,rfl⟩
    | sl b off cs c _ _ _ uu hb hc htt hs hu hr=>exact⟨_,_,rfl⟩
   obtain⟨a,c,rfl⟩:=this
   refine(Any.strings_Join_none Tryz.lays156 b6h a c ⟨#[10]⟩ w).mono ?_
   rintro e w' ⟨rfl,rfl⟩
   exact⟨_,rfl,.str _,.refl _ _⟩
  ·obtain⟨b,off,c,cs,E,rfl,hb,hc,_,h3,F,y,h6⟩:=h1.sl_cells hΦ (by simpa using hl)
   obtain⟨T,fz,C⟩:=hΦ b cs hb
   have i:b<w.heap.size:=(Array.getElem?_eq_some_iff.1 C).1
   have D:=Lb l
   rw[D]at y
   have g : ∀ (j:Nat) x,(l.map fun s:Str=>(⟨s.s.toArray⟩:ByteArray))[j]? = some x->w.cell? ⟨b,off+j,none⟩=some (.string x):=fun j x A=>by
    rw[List.getElem?_map,Option.map_eq_some_iff]at A
    obtain⟨s,hs,rfl⟩:=A
    have r:j<E.length:=by rw[y.1,List.length_map];exact(List.getElem?_eq_some_iff.1 hs).1
    have hu:=List.getElem?_eq_getElem r
    have hr:=y.2 j _ _ hu (by rw[List.getElem?_map,hs];rfl)
    rw[F j _ hu,VJ hr]
   have k:(l.map (enc:Str->PV)).length=(l.map fun s:Str=>(⟨s.s.toArray⟩:ByteArray)).length:=by rw[List.length_map,List.length_map]
   rw[k]at hc ⊢
   refine(Any.strings_Join Tryz.lays156 b6h b off c (l.map fun s:Str=>(⟨s.s.toArray⟩:ByteArray)) ⟨#[10]⟩ w g i (by rw[List.length_map];omega) hc (by
    rw[B]
    show(Lib.join (l.map (·.s)) [10]).length<=_
    rw[O5];omega)).mono ?_
   rintro e w' ⟨rfl,q⟩
   refine⟨_,rfl,?_,q⟩
   rw[B]
   show RP Φ (.string ⟨(Lib.join (l.map (·.s)) [10]).toArray⟩) _
   rw[O5]
   exact .str _)
theorem c2o:Zo Tryz.prog 158 (fun x:Str×Str×Unit=>decide (x.1.s.length<=1048576)&&decide (x.2.1.s=JN)) (fun x:Str×Str×Unit=>(⟨RX x.1.s⟩:Str)):=YT (by
  rintro⟨⟨s⟩,⟨p⟩,⟨⟩⟩ hps Φ w vs hL hΦ hv
  simp only[Bool.and_eq_true,decide_eq_true_eq]at hps
  obtain⟨hs,b⟩:=hps
  have b:p=JN:=b
  subst b
  obtain⟨u,v,rfl,h1,h2⟩:=c2m hv
  rw[VJ h1,VJ h2]
  have a:(⟨s.toArray⟩:ByteArray).size=s.length:=rfl
  refine(Any.strings_Trim_laid Tryz.lays160 (by kernel_rfl) ⟨s.toArray⟩ ⟨JN.toArray⟩ w (by rw[a];have hs:s.length<=1048576:=hs;omega) (by decide) (ascii_of_all (l:=JN) (by decide))).mono ?_
  rintro e w' ⟨rfl,hb⟩
  exact⟨_,rfl,.str _,hb⟩)
end Go.Proofs.YtkpppjbhmmabeaaGreatDoor
namespace Go.Proofs.YtkpppjbhmmabeaaGreatDoor
open Go.Pl
open Enc (enc dec is)
open EncL (encL decL isL)
set_option maxRecDepth 100000
theorem QM:Tryz.prog.follows .mixedOrders=true:=by kernel_rfl
theorem tq{f:Nat}{D:Den}{l:List (Nat×Den)}{fn:Func}(hf:Tryz.prog.funcs[f]? = some fn)(h:b5f Tryz.prog f D)(k:YU Tryz.prog (Yi l))(hb:(fn.body.isSome&& !(fn.name == "runtime.NumGoroutine"))=true:=by kernel_rfl):YU Tryz.prog (Yi ((f,D)::l)):=d2a (ent hf hb h) k
theorem dq{f nt:Nat}{α β:Type}[EncL α][Enc β]{fn:Func}{T:ZB}{ic:IC}{rs:List IRes}{pre:α->Bool}{F:α->β}(h : ∀ a,pre a=true->Zd T 0 (Za rs (Zf (F a))) ic [] (Zx nt (encL a)))(i:YU Tryz.prog T)(j:Tryz.prog.funcs[f]? = some fn)(e:a2u Tryz.prog fn=some ic:=by kernel_rfl)(b:Wn (WV Tryz.prog) fn.results.toList=some rs:=by kernel_rfl)(g:fn.ntmps=nt:=by kernel_rfl):Zo Tryz.prog f pre F:=Zo.of i QM j e b g h
theorem c2f:Zo Tryz.prog 152 (fun x:Str×Unit=>decide (x.1.s.length<=281474976710656)) (fun x:Str×Unit=>YL x.1):=YT (by
  rintro⟨⟨s⟩,⟨⟩⟩ hps Φ w vs hL hΦ a
  have hs:s.length<=281474976710656:=by simpa using hps
  obtain⟨v,rfl,h1⟩:=e0y a
  rw[VJ h1]
  have i:(⟨s.toArray⟩:ByteArray).size=s.length:=rfl
  cases h:Lib.atoiAll s
  ·rename_i n
   have k:YL ⟨s⟩=(n,⟨false⟩):=by simp only[YL,h]
   rw[k]
   refine(Any.strconv_Atoi_ok Tryz.lays172 ⟨s.toArray⟩ (by rw[i];omega) n h w).mono ?_
   rintro e w' ⟨rfl,m⟩
   refine⟨_,rfl,.tup _ _ rfl ?_,?_⟩
   ·intro j v x a b
    match j with
    | 0=>cases a;cases b;exact .int _ _
    | 1=>cases a;cases b;exact .nili
    | j+2=>simp at a
   ·rcases m with rfl|⟨t,rfl⟩
    ·exact .refl _ _
    ·exact A8 _ _ 0 _
  ·skip
   have k:YL ⟨s⟩=(0,⟨true⟩):=by simp only[YL,h]
   rw[k]
   obtain⟨cs,hc,ev,l,g⟩:=hL.syn
   refine(Any.strconv_Atoi_syntax Tryz.lays172 ⟨s.toArray⟩ (by rw[i];omega) h ev w (KE hΦ hc l) g).mono ?_
   rintro e w' ⟨N,rfl,_,_,hb⟩
   refine⟨_,rfl,.tup _ _ rfl ?_,hb⟩
   intro j v x a b
   match j with
   | 0=>cases a;cases b;exact .int _ _
   | 1=>cases a;cases b;exact .ifc _ _
   | j+2=>simp at a
  ·skip
   have k:YL ⟨s⟩=(Lib.atoiSat s,⟨true⟩):=by simp only[YL,h]
   rw[k]
   obtain⟨cs,hc,ev,l,g⟩:=hL.rng
   refine(Any.strconv_Atoi_range Tryz.lays172 ⟨s.toArray⟩ (by rw[i];omega) h ev w (KE hΦ hc l) g).mono ?_
   rintro e w' ⟨N,rfl,_,_,hb⟩
   refine⟨_,rfl,.tup _ _ rfl ?_,hb⟩
   intro j v x a b
   match j with
   | 0=>cases a;cases b;exact .int _ _
   | 1=>cases a;cases b;exact .ifc _ _
   | j+2=>simp at a)
theorem M0:Zo Tryz.prog 129 (fun _:Int×Unit=>true) (fun x:Int×Unit=>Yo x.1):=dq e6i Ze Tryz.func129
theorem a4x:Zo Tryz.prog 128 (fun x:Str×Unit=>decide (x.1.s.length<=1000000)) (fun x:Str×Unit=>nameB x.1):=dq b8u (tq Tryz.func151 Da (tq Tryz.func152 d3d (tq Tryz.func87 KF Ze))) Tryz.func128
theorem SB:Zo Tryz.prog 128 (fun x:Str×Unit=>decide (x.1.s.length<=281474976710656)) (fun x:Str×Unit=>nameB x.1):=dq b1l (tq Tryz.func151 Da (tq Tryz.func152 c2f (tq Tryz.func87 KF Ze))) Tryz.func128
theorem OQ:Zo Tryz.prog 91 (fun x:Lin×Unit=>Wu x.1) (fun x:Lin×Unit=>Zg x.1):=dq a7y (tq Tryz.func129 M0 (tq Tryz.func128 a4x Ze)) Tryz.func91
theorem D7:Zo Tryz.prog 91 (fun x:Lin×Unit=>Xx x.1) (fun x:Lin×Unit=>Zg x.1):=dq c2x (tq Tryz.func129 M0 (tq Tryz.func128 SB Ze)) Tryz.func91
theorem d9z:XG Tryz.prog 92 WJ Bg:=GZ (T:=b0m) (ic:=Ev) (rs:=OP) (tq Tryz.func87 KF (tq Tryz.func93 RJ Ze)) QM Tryz.func92 (by kernel_rfl) (by kernel_rfl) (by kernel_rfl) d5u
theorem Hf:Zo Tryz.prog 58 (fun x:Lin×Unit=>Wu x.1) (fun x:Lin×Unit=>(⟨ZC x.1⟩:Str)):=dq a8c (tq Tryz.func91 OQ (tq Tryz.func92 d9z Ze)) Tryz.func58
theorem CL:Zo Tryz.prog 61 (fun _:UInt8×Unit=>true) (fun x:UInt8×Unit=>lowB x.1):=dq b0v Ze Tryz.func61
theorem F7:Zo Tryz.prog 97 (fun _:UInt8×Unit=>true) (fun x:UInt8×Unit=>digB x.1):=dq b1d Ze Tryz.func97
theorem a7m:Zo Tryz.prog 62 (fun x:Str×Bool×Unit=>decide (x.1.s.length<=1048576)) (fun x:Str×Bool×Unit=>RZ x.1 x.2.1):=dq d4e (tq Tryz.func97 F7 (tq Tryz.func61 CL Ze)) Tryz.func62
theorem SI:Zo Tryz.prog 63 (fun _:Str×Unit=>true) (fun x:Str×Unit=>QL.contains x.1.s):=dq d0o Ze Tryz.func63
theorem Uz:Zo Tryz.prog 30 (fun x:Str×Unit=>decide (x.1.s.length<=1048576)) (fun x:Str×Unit=>nameI x.1.s):=dq c0q (tq Tryz.func61 CL (tq Tryz.func62 a7m (tq Tryz.func63 SI Ze))) Tryz.func30
theorem Nq:Zo Tryz.prog 146 (fun x:Str×Unit=>decide (x.1.s.length<=1048576)) (fun x:Str×Unit=>fullI x.1.s):=dq b8s (tq Tryz.func171 c8s (tq Tryz.func30 Uz Ze)) Tryz.func146
theorem JM:Zo Tryz.prog 121 (fun x:Str×Unit=>decide (x.1.s.length<=1048576)) (fun x:Str×Unit=>Ci x.1.s):=dq d7o (tq Tryz.func30 Uz (tq Tryz.func146 Nq Ze)) Tryz.func121
theorem TU:Zo Tryz.prog 119 (fun x:Tm×Unit=>tW x.1) (fun x:Tm×Unit=>UB x.1.nd):=dq c7k Ze Tryz.func119
theorem Nl:Zo Tryz.prog 143 (fun x:Lin×Unit=>Xx x.1) (fun x:Lin×Unit=> !(Zg x.1)):=dq d6a (tq Tryz.func91 D7 Ze) Tryz.func143
theorem e1t:Zo Tryz.prog 135 (fun x:List Lin×FnV 143×Unit=>decide (x.1.length<=1048576)&&x.1.all Xx) (fun x:List Lin×FnV 143×Unit=>Yq (fun l:Lin=> !(Zg l)) x.1):=dq e6s (tq Tryz.func143 Nl Ze) Tryz.func135
theorem e4i:Zo Tryz.prog 99 (fun x:List Lin×FnV 143×Unit=>decide (x.1.length<=1048576)&&x.1.all Xx) (fun x:List Lin×FnV 143×Unit=>x.1.any fun l:Lin=> !(Zg l)):=dq e5p (tq Tryz.func135 e1t Ze) Tryz.func99
theorem Cr:Zo Tryz.prog 118 (fun x:Tm×Int×Int×Unit=>tW x.1) (fun x:Tm×Int×Int×Unit=>Xn x.1.nd x.2.1 x.2.2.1):=dq a8a (tq Tryz.func99 e4i Ze) Tryz.func118
theorem FZ:Zo Tryz.prog 145 (fun _:Int×Unit=>true) (fun x:Int×Unit=>YB x.1):=dq d7h Ze Tryz.func145
theorem e7g:Zo Tryz.prog 170 (fun x:List Int×FnV 145×Unit=>decide (x.1.length<=1048576)) (fun x:List Int×FnV 145×Unit=>Yq YB x.1):=dq e0s (tq Tryz.func145 FZ Ze) Tryz.func170
theorem e1a:Zo Tryz.prog 144 (fun x:List Int×FnV 145×Unit=>decide (x.1.length<=1048576)) (fun x:List Int×FnV 145×Unit=>x.1.any YB):=dq d9v (tq Tryz.func170 e7g Ze) Tryz.func144
theorem a2k:Zo Tryz.prog 120 (fun x:Tm×Unit=>tW x.1) (fun x:Tm×Unit=>XJ x.1.nd x.1.ks.length):=dq b7y (tq Tryz.func121 JM (tq Tryz.func118 Cr (tq Tryz.func144 e1a Ze))) Tryz.func120
theorem c7r:XU Tryz.prog 217 YA Hu:=Gd (T:=U6) (ic:=VM) (rs:=VI) Ze QM Tryz.func217 (by kernel_rfl) (by kernel_rfl) (by kernel_rfl) c3k
theorem a1w:XU Tryz.prog 190 YA U5:=Gd (T:=DN) (ic:=Hg) (rs:=J7) (tq Tryz.func217 c7r Ze) QM Tryz.func190 (by kernel_rfl) (by kernel_rfl) (by kernel_rfl) Ep
theorem e3s:XU Tryz.prog 154 KO Xa:=Gd (T:=WA) (ic:=Xt) (rs:=Xr) (tq Tryz.func190 a1w Ze) QM Tryz.func154 (by kernel_rfl) (by kernel_rfl) (by kernel_rfl) d3j
theorem c6n:Zo Tryz.prog 154 (fun _:List Int×Unit=>true) (fun x:List Int×Unit=>Y4 x.1):=Zo.ofPure e3s fun⟨l,_⟩ h=>⟨by show(Zq l).all PV.isNum=true;simp,by show Zf _ (.tup [.int .i64 (Y4 ((Zq l).map PV.asInt)).1,.int .i64 (Y4 ((Zq l).map PV.asInt)).2]);rw[Xl];exact Zh (x:=Y4 l) rfl⟩
theorem c3y:Zo Tryz.prog 156 (fun x:List Int×Unit=>decide (x.1.length<=2000000)) (fun x:List Int×Unit=>x.1):=b0w (α:=Int) (by decide) (b8p f7v (by decide))
theorem Oc:Zo Tryz.prog 192 (fun _:Str×Int×Unit=>true) (fun x:Str×Int×Unit=>X6 x.1 x.2.1):=dq e3y Ze Tryz.func192
theorem f3h:XG Tryz.prog 191 TK OJ:=GZ (T:=d2m) (ic:=a7a) (rs:=b0a) (tq Tryz.func192 Oc Ze) QM Tryz.func191 (by kernel_rfl) (by kernel_rfl) (by kernel_rfl) e5u
theorem f2k:XG Tryz.prog 170 VU Tg:=GZ (T:=RY) (ic:=Dl) (rs:=DC) (tq Tryz.func191 f3h Ze) QM Tryz.func170 (by kernel_rfl) (by kernel_rfl) (by kernel_rfl) e7b
theorem f3v:XG Tryz.prog 144 VU Ee:=GZ (T:=d2c) (ic:=b1c) (rs:=a9v) (tq Tryz.func170 f2k Ze) QM Tryz.func144 (by kernel_rfl) (by kernel_rfl) (by kernel_rfl) e5z
theorem a5q:Zo Tryz.prog 155 (fun x:Str×List Int×Unit=>decide (x.2.1.length<=2000000)) (fun x:Str×List Int×Unit=>x.2.1.all (X6 x.1)):=dq Eb (tq Tryz.func144 f3v Ze) Tryz.func155
theorem c2e:Zo Tryz.prog 131 (fun x:Str×List Int×List Int×Unit=>decide (x.2.1.length<=2000000)&&decide (x.2.2.1.length<=2000000)) (fun x:Str×List Int×List Int×Unit=>JG x.1 x.2.1 x.2.2.1):=dq c4j (tq Tryz.func154 c6n (tq Tryz.func155 a5q (tq Tryz.func156 c3y Ze))) Tryz.func131
theorem Ch:Zo Tryz.prog 94 (fun x:Arr×Unit=>VF x.1) (fun x:Arr×Unit=>WF x.1):=dq e2g (tq Tryz.func131 c2e Ze) Tryz.func94
theorem a3l:Zo Tryz.prog 82 (fun x:Tm×Unit=>tW x.1) (fun x:Tm×Unit=>Hq x.1):=dq b9e (tq Tryz.func30 Uz (tq Tryz.func118 Cr (tq Tryz.func119 TU (tq Tryz.func94 Ch (tq Tryz.func120 a2k (tq Tryz.func121 JM Ze)))))) Tryz.func82
theorem d7q:XG Tryz.prog 81 V7 (QS 116):=GZ (T:=b2b) (ic:=FK) (rs:=Og) Ze QM Tryz.func81 (by kernel_rfl) (by kernel_rfl) (by kernel_rfl) c8k
theorem c2i{cd:Code}(h:CS Tryz.prog P9 Tryz.f50 0=some cd):KZ Tryz.prog cd=some (.t 7,[8,9],R8,TQ):=by
 have:(CS Tryz.prog P9 Tryz.f50 0).bind (KZ Tryz.prog)=some (.t 7,[8,9],R8,TQ):=by kernel_rfl
 rw[h]at this
 exact this
theorem e7n(e:YU Tryz.prog GV): ∀ (B:Nat) (c:Ctx),c.w0.heap.size=B->(∀ i m,0<=i->c.μ0 i m=none)->e4d (BU B 4 e QM) (fun n cd=>CS Tryz.prog P9 Tryz.f50 n=some cd) tvE c:=by
 rintro B c h g n cd b st a w q hr ⟨rfl,j⟩
 exact NU e QM a1l (fun x=>by obtain⟨t,l⟩:=x;rfl) (c2i b) h g hr j
theorem b2s:YU Tryz.prog GV:=(tq Tryz.func81 d7q (tq Tryz.func82 a3l Ze))
theorem FT:Zo Tryz.prog 50 (fun x:Tm×Unit=>tW x.1) (fun x:Tm×Unit=>Y6 x.1):=Zo.ofM (T:=GV) (ic:=Aw) (rs:=Dq) (E:=tvE) (sel:=P9) b2s QM Tryz.func50 (by kernel_rfl) (by kernel_rfl) (by kernel_rfl) (e7n b2s) e2q
theorem f2y:XG Tryz.prog 84 Gj (CQ 124):=GZ (T:=c5s) (ic:=a6r) (rs:=a9l) Ze QM Tryz.func84 (by kernel_rfl) (by kernel_rfl) (by kernel_rfl) e6f
theorem b9u{cd:Code}(h:CS Tryz.prog P9 Tryz.f51 0=some cd):KZ Tryz.prog cd=some (.t 11,[12,13],Rf,Vt):=by
 have:(CS Tryz.prog P9 Tryz.f51 0).bind (KZ Tryz.prog)=some (.t 11,[12,13],Rf,Vt):=by kernel_rfl
 rw[h]at this
 exact this
theorem e7s(e:YU Tryz.prog Be): ∀ (B:Nat) (c:Ctx),c.w0.heap.size=B->(∀ i m,0<=i->c.μ0 i m=none)->e4d (BU B 4 e QM) (fun n cd=>CS Tryz.prog P9 Tryz.f51 n=some cd) tdE c:=by
 rintro B c h g n cd b st a w q hr ⟨rfl,j⟩
 exact NU e QM a1l (fun x=>by obtain⟨t,l⟩:=x;rfl) (b9u b) h g hr j
theorem b5x:YU Tryz.prog Be:=(tq Tryz.func81 d7q (tq Tryz.func84 f2y (tq Tryz.func83 g3p Ze)))
theorem a2g:Zo Tryz.prog 51 (fun x:Tm×Unit=>tW x.1) (fun x:Tm×Unit=>Ua x.1):=Zo.ofM (T:=Be) (ic:=Ri) (rs:=Am) (E:=tdE) (sel:=P9) b5x QM Tryz.func51 (by kernel_rfl) (by kernel_rfl) (by kernel_rfl) (e7s b5x) e7v
theorem b0z:Zo Tryz.prog 29 (fun x:Str×Unit=>decide (x.1.s.length<=1048576)) (fun x:Str×Unit=> !(nameI x.1.s)):=dq d8z (tq Tryz.func30 Uz Ze) Tryz.func29
theorem e5t:Zo Tryz.prog 60 (fun x:List Str×FnV 29×Unit=>Xg x.1) (fun x:List Str×FnV 29×Unit=>Yq (fun s:Str=> !(nameI s.s)) x.1):=dq e4y (tq Tryz.func29 b0z Ze) Tryz.func60
theorem e5v:Zo Tryz.prog 28 (fun x:List Str×FnV 29×Unit=>Xg x.1) (fun x:List Str×FnV 29×Unit=>x.1.any fun s:Str=> !(nameI s.s)):=dq e5y (tq Tryz.func60 e5t Ze) Tryz.func28
theorem WU:Zo Tryz.prog 14 (fun x:List Str×Unit=>Xg x.1) (fun x:List Str×Unit=>x.1.all fun s:Str=>nameI s.s):=dq b0y (tq Tryz.func28 e5v Ze) Tryz.func14
theorem Kt:Zo Tryz.prog 26 (fun x:Tm×Unit=>tW x.1) (fun x:Tm×Unit=>YK x.1):=dq b0g (tq Tryz.func50 FT (tq Tryz.func51 a2g (tq Tryz.func14 WU Ze))) Tryz.func26
theorem Hm:Zo Tryz.prog 18 (fun _:Str×Unit=>true) (fun x:Str×Unit=>Jg x.1):=dq c5t Ze Tryz.func18
theorem c6v:XU Tryz.prog 125 Ty TP:=Gd (T:=a8p) (ic:=Ew) (rs:=LZ) Ze QM Tryz.func125 (by kernel_rfl) (by kernel_rfl) (by kernel_rfl) fun ps h=>e0o (c6a ps h)
theorem e7h:Zo Tryz.prog 85 (fun _:Str×Unit=>true) (fun x:Str×Unit=>Jn x.1):=dq d9f (tq Tryz.func125 c6v Ze) Tryz.func85
theorem e1c:Zo Tryz.prog 86 (fun _:Str×Bool×Unit=>true) (fun x:Str×Bool×Unit=>Vb x.1 x.2.1):=dq c9d (tq Tryz.func125 c6v Ze) Tryz.func86
theorem MI:Zo Tryz.prog 52 (fun x:Tm×Unit=>tW x.1) (fun x:Tm×Unit=>JE x.1):=dq e4q (tq Tryz.func85 e7h Ze) Tryz.func52
theorem OT:Zo Tryz.prog 54 (fun x:Tm×Unit=>tW x.1) (fun x:Tm×Unit=>Wh x.1):=dq d5h (tq Tryz.func52 MI (tq Tryz.func86 e1c Ze)) Tryz.func54
theorem Wy:Zo Tryz.prog 15 (fun x:List Str×Unit=>YO x.1) (fun x:List Str×Unit=>Yh x.1):=dq c2k (tq Tryz.func19 EI Ze) Tryz.func15
theorem e3u:Zo Tryz.prog 89 (fun x:List Lin×FnV 58×Unit=>decide (x.1.length<=1048576)&&x.1.all Zg) (fun x:List Lin×FnV 58×Unit=>Yh (x.1.map Yr)):=dq d3n (tq Tryz.func58 Hf (tq Tryz.func15 Wy Ze)) Tryz.func89
theorem e0n:Zo Tryz.prog 90 (fun x:List Int×FnV 87×Unit=>decide (x.1.length<=1048576)&&X8 x.1) (fun x:List Int×FnV 87×Unit=>Yh (x.1.map Zp)):=dq c4n (tq Tryz.func87 KF (tq Tryz.func15 Wy Ze)) Tryz.func90
theorem a6j:Zo Tryz.prog 55 (fun x:Tm×Unit=>UB x.1.nd) (fun x:Tm×Unit=>a1c x.1.nd):=dq c7p (tq Tryz.func87 KF (tq Tryz.func88 f0m Ze)) Tryz.func55
theorem Nh:XG Tryz.prog 132 (UY 5) BQ:=GZ (T:=d0f) (ic:=a7p) (rs:=b0d) (tq Tryz.func157 TS Ze) QM Tryz.func132 (by kernel_rfl) (by kernel_rfl) (by kernel_rfl) e7d
theorem Fz:XG Tryz.prog 96 (UY 5) BQ:=GZ (T:=d0q) (ic:=a9t) (rs:=a7l) (tq Tryz.func132 Nh Ze) QM Tryz.func96 (by kernel_rfl) (by kernel_rfl) (by kernel_rfl) e0g
theorem f3z:XG Tryz.prog 95 (K8 5) Ej:=GZ (T:=c9g) (ic:=b0u) (rs:=a8g) (tq Tryz.func96 Fz Ze) QM Tryz.func95 (by kernel_rfl) (by kernel_rfl) (by kernel_rfl) e5n
theorem Eg:Zo Tryz.prog 59 (fun x:Arr×Unit=>VF x.1&&WF x.1) (fun x:Arr×Unit=>JO x.1):=dq b0h (tq Tryz.func94 Ch (tq Tryz.func95 f3z Ze)) Tryz.func59
theorem b8r{N:Nat}(a:Zo Tryz.prog 27 (fun x:Tm×Unit=>(tW x.1&&Z9 x.1)&&decide (Z4 x.1<N)) (fun x:Tm×Unit=>Zr x.1)):XG Tryz.prog 53 (Xq N) OL:=GZ (T:=a7b N) (ic:=Es) (rs:=LX) (tq Tryz.func27 a Ze) QM Tryz.func53 (by kernel_rfl) (by kernel_rfl) (by kernel_rfl) (d0u N)
theorem Lv{N:Nat}(a:Zo Tryz.prog 27 (fun x:Tm×Unit=>(tW x.1&&Z9 x.1)&&decide (Z4 x.1<N)) (fun x:Tm×Unit=>Zr x.1)):Zo Tryz.prog 57 (fun x:List Tm×FnV 27×Unit=>(tsW x.1&&Wo x.1)&&decide (Yc x.1<N)) (fun x:List Tm×FnV 27×Unit=>Yh (x.1.map Zr)):=dq (d8n N) (tq Tryz.func27 a (tq Tryz.func15 Wy Ze)) Tryz.func57
theorem a9i{N:Nat}(a:Zo Tryz.prog 27 (fun x:Tm×Unit=>(tW x.1&&Z9 x.1)&&decide (Z4 x.1<N)) (fun x:Tm×Unit=>Zr x.1)):Zo Tryz.prog 56 (fun x:Tm×Unit=>(tW x.1&&Z9 x.1&&decide (x.1.nd.kind=6))&&decide (Yc x.1.ks<N)) (fun x:Tm×Unit=>Q3 x.1):=dq (b9q N) (tq Tryz.func89 e3u (tq Tryz.func87 KF (tq Tryz.func90 e0n (tq Tryz.func57 (Lv a) Ze)))) Tryz.func56
theorem Sl:Zo Tryz.prog 27 (fun x:Tm×Unit=>tW x.1&&Z9 x.1) (fun x:Tm×Unit=>Zr x.1):=Zo.rec (fun a=>Z4 a.1) fun N b=>dq (b7s N) (tq Tryz.func52 MI (tq Tryz.func54 OT (tq Tryz.func53 (b8r b) (tq Tryz.func27 b (tq Tryz.func55 a6j (tq Tryz.func56 (a9i b) (tq Tryz.func57 (Lv b) (tq Tryz.func15 Wy (tq Tryz.func58 Hf (tq Tryz.func59 Eg Ze)))))))))) Tryz.func27
theorem a2p:Zo Tryz.prog 12 (fun x:Tm×Unit=>tW x.1) (fun x:Tm×Unit=>Ko x.1):=dq c0c (tq Tryz.func26 Kt (tq Tryz.func18 Hm (tq Tryz.func27 Sl Ze))) Tryz.func12
theorem En:Zo Tryz.prog 47 (fun x:Tm×Unit=>tW x.1) (fun x:Tm×Unit=>(Z4 x.1:Int)):=Zo.rec (fun a=>Z4 a.1) fun N b=>dq (c5m N) (tq Tryz.func47 b Ze) Tryz.func47
theorem EP:Zo Tryz.prog 48 (fun x:Tm×Unit=>tW x.1) (fun x:Tm×Unit=>(Yt x.1:Int)):=Zo.rec (fun a=>Z4 a.1) fun N b=>dq (c1v N) (tq Tryz.func48 b Ze) Tryz.func48
theorem S9:Zo Tryz.prog 49 (fun x:Tm×Unit=>tW x.1) (fun x:Tm×Unit=>XI x.1):=Zo.rec (fun a=>Z4 a.1) fun N b=>dq (d1b N) (tq Tryz.func49 b Ze) Tryz.func49
theorem a2r:Zo Tryz.prog 6 (fun _:Str×Unit=>true) (fun x:Str×Unit=>vT x.1):=dq f5m Ze Tryz.func6
theorem a0t:Zo Tryz.prog 13 (fun _:Str×List Tm×Unit=>true) (fun x:Str×List Tm×Unit=>cT x.1 x.2.1):=dq c3f Ze Tryz.func13
theorem O3:Zo Tryz.prog 5 (fun _:Unit=>true) (fun _:Unit=>true):=dq a7q (tq Tryz.func6 a2r (tq Tryz.func13 a0t (tq Tryz.func12 a2p Ze))) Tryz.func5
theorem OD:Zo Tryz.prog 165 (fun _:UInt8×Unit=>true) (fun x:UInt8×Unit=>digB x.1):=dq d0z Ze Tryz.func165
theorem Nr:Zo Tryz.prog 166 (fun _:UInt8×Unit=>true) (fun x:UInt8×Unit=>lowB x.1):=dq d6o Ze Tryz.func166
theorem Fe:Zo Tryz.prog 140 (fun _:Int×Unit=>true) (fun x:Int×Unit=>Yo x.1):=dq a6w Ze Tryz.func140
theorem SE:Zo Tryz.prog 141 (fun _:Str×Unit=>true) (fun x:Str×Unit=>nameB x.1):=dq b9w (tq Tryz.func165 OD (tq Tryz.func166 Nr Ze)) Tryz.func141
theorem JA:Zo Tryz.prog 112 (fun x:Lin×Unit=>XK x.1) (fun x:Lin×Unit=>Zg x.1):=dq a8b (tq Tryz.func140 Fe (tq Tryz.func141 SE Ze)) Tryz.func112
theorem a2y:Zo Tryz.prog 113 (fun x:Int×Unit=>decide (-1000000000<=x.1)&&decide (x.1<=1000000000)) (fun x:Int×Unit=>Zp x.1):=Zo.rec (fun a=>Aa a.1) fun N b=>dq (b9j N) (tq Tryz.func113 b Ze) Tryz.func113
theorem Je:Zo Tryz.prog 79 (fun x:Lin×Unit=>Wu x.1) (fun x:Lin×Unit=>(⟨ZC x.1⟩:Str)):=dq b1x (tq Tryz.func112 JA (tq Tryz.func113 a2y Ze)) Tryz.func79
theorem c5g:XU Tryz.prog 167 KO Xa:=Gd (T:=Y3) (ic:=YP) (rs:=YN) Ze QM Tryz.func167 (by kernel_rfl) (by kernel_rfl) (by kernel_rfl) c1b
theorem c2z:Zo Tryz.prog 167 (fun _:List Int×Unit=>true) (fun x:List Int×Unit=>Y4 x.1):=Zo.ofPure c5g fun⟨l,_⟩ h=>⟨by show(Zq l).all PV.isNum=true;simp,by show Zf _ (.tup [.int .i64 (Y4 ((Zq l).map PV.asInt)).1,.int .i64 (Y4 ((Zq l).map PV.asInt)).2]);rw[Xl];exact Zh (x:=Y4 l) rfl⟩
theorem c2h:Zo Tryz.prog 169 (fun x:List Int×Unit=>decide (x.1.length<=2000000)) (fun x:List Int×Unit=>x.1):=dq c1e Ze Tryz.func169
theorem P8:Zo Tryz.prog 168 (fun _:Str×Int×Unit=>true) (fun x:Str×Int×Unit=>X6 x.1 x.2.1):=dq d0e Ze Tryz.func168
theorem a9p:Zo Tryz.prog 142 (fun x:Str×List Int×List Int×Unit=>decide (x.2.1.length<=2000000)&&decide (x.2.2.1.length<=2000000)) (fun x:Str×List Int×List Int×Unit=>JG x.1 x.2.1 x.2.2.1):=dq b9g (tq Tryz.func167 c2z (tq Tryz.func168 P8 (tq Tryz.func169 c2h Ze))) Tryz.func142
theorem G8:Zo Tryz.prog 114 (fun x:Arr×Unit=>VF x.1) (fun x:Arr×Unit=>WF x.1):=dq d3w (tq Tryz.func142 a9p Ze) Tryz.func114
theorem a6q:Zo Tryz.prog 115 (fun x:Int×Unit=>decide (x.1.natAbs<9223372036854775808)) (fun x:Int×Unit=>Zp x.1):=Zo.rec (fun a=>Aa a.1) fun N b=>dq (d8p N) (tq Tryz.func115 b Ze) Tryz.func115
theorem Ot:Zo Tryz.prog 80 (fun x:Arr×Unit=>VF x.1&&WF x.1) (fun x:Arr×Unit=>JO x.1):=dq d6d (tq Tryz.func114 G8 (tq Tryz.func115 a6q Ze)) Tryz.func80
theorem Rl:Zo Tryz.prog 76 (fun x:Int×Unit=>decide (x.1.natAbs<9223372036854775808)) (fun x:Int×Unit=>Zp x.1):=Zo.rec (fun a=>Aa a.1) fun N b=>dq (d6p N) (tq Tryz.func76 b Ze) Tryz.func76
theorem F5:Zo Tryz.prog 40 (fun _:UInt8×Unit=>true) (fun x:UInt8×Unit=>lowB x.1):=dq a8d Ze Tryz.func40
theorem F6:Zo Tryz.prog 41 (fun _:UInt8×Unit=>true) (fun x:UInt8×Unit=>digB x.1):=dq b0c Ze Tryz.func41
theorem SV:Zo Tryz.prog 42 (fun _:Str×Unit=>true) (fun x:Str×Unit=>QL.contains x.1.s):=dq c6d Ze Tryz.func42
theorem Xh:Zo Tryz.prog 20 (fun x:Str×Unit=>decide (x.1.s.length<=1048576)) (fun x:Str×Unit=>nameI x.1.s):=dq b8v (tq Tryz.func40 F5 (tq Tryz.func41 F6 (tq Tryz.func42 SV Ze))) Tryz.func20
theorem Nk:Zo Tryz.prog 200 (fun x:Str×Unit=>decide (x.1.s.length<=1048576)) (fun x:Str×Unit=>fullI x.1.s):=dq c2q (tq Tryz.func20 Xh Ze) Tryz.func200
theorem SQ:Zo Tryz.prog 164 (fun x:Str×Unit=>decide (x.1.s.length<=1048576)) (fun x:Str×Unit=>Ci x.1.s):=dq d3l (tq Tryz.func20 Xh (tq Tryz.func200 Nk Ze)) Tryz.func164
theorem Em:Zo Tryz.prog 162 (fun x:Tm×Bool×Bool×Bool×Bool×Bool×Unit=>tW x.1) (fun x:Tm×Bool×Bool×Bool×Bool×Bool×Unit=>Yx x.1.nd x.2.1 x.2.2.1 x.2.2.2.1 x.2.2.2.2.1 x.2.2.2.2.2.1):=dq b2a Ze Tryz.func162
theorem Nc:Zo Tryz.prog 163 (fun x:List Lin×Unit=>decide (x.1.length<=1048576)&&x.1.all XK) (fun x:List Lin×Unit=>x.1.all Zg):=dq d0k (tq Tryz.func112 JA Ze) Tryz.func163
theorem a0i:Zo Tryz.prog 139 (fun x:Tm×Unit=>tW x.1) (fun x:Tm×Unit=>Hq x.1):=dq b8x (tq Tryz.func20 Xh (tq Tryz.func162 Em (tq Tryz.func164 SQ (tq Tryz.func163 Nc (tq Tryz.func114 G8 Ze))))) Tryz.func139
theorem a6g:Zo Tryz.prog 106 (fun x:Tm×Unit=>tW x.1) (fun x:Tm×Unit=>Z9 x.1):=Zo.rec (fun a=>Z4 a.1) fun N b=>dq (d9o N) (tq Tryz.func106 b (tq Tryz.func139 a0i Ze)) Tryz.func106
theorem OU:Zo Tryz.prog 70 (fun x:Tm×Unit=>tW x.1) (fun x:Tm×Unit=>Y6 x.1):=dq a8k (tq Tryz.func48 EP (tq Tryz.func47 En (tq Tryz.func106 a6g Ze))) Tryz.func70
theorem JK:Zo Tryz.prog 110 (fun _:Str×Bool×Unit=>true) (fun x:Str×Bool×Unit=>Vb x.1 x.2.1):=dq d8h Ze Tryz.func110
theorem Np:Zo Tryz.prog 109 (fun _:Str×Unit=>true) (fun x:Str×Unit=>Jn x.1):=dq d1y (tq Tryz.func110 JK Ze) Tryz.func109
theorem a6m:Zo Tryz.prog 107 (fun x:List Str×Str×Unit=>decide (x.1.length<=1048576)) (fun x:List Str×Str×Unit=>Ul x.1 x.2.1):=dq d5n Ze Tryz.func107
theorem EW:Zo Tryz.prog 71 (fun x:Tm×Unit=>tW x.1) (fun x:Tm×Unit=>JL x.1):=dq b8b (tq Tryz.func49 S9 (tq Tryz.func107 a6m Ze)) Tryz.func71
theorem Ll:Zo Tryz.prog 73 (fun x:Tm×Unit=>tW x.1) (fun x:Tm×Unit=>Cj x.1):=dq b9f (tq Tryz.func109 Np (tq Tryz.func110 JK Ze)) Tryz.func73
theorem a7z:Zo Tryz.prog 75 (fun x:Tm×Unit=>tW x.1) (fun x:Tm×Unit=>Wh x.1):=dq d3e (tq Tryz.func73 Ll Ze) Tryz.func75
theorem Oa:Zo Tryz.prog 111 (fun x:List Lin×Unit=>decide (x.1.length<=1048576)&&x.1.all Zg) (fun x:List Lin×Unit=>Yh (x.1.map Yr)):=dq a9j (tq Tryz.func79 Je Ze) Tryz.func111
theorem a9n{N:Nat}(a:Zo Tryz.prog 46 (fun x:Tm×Unit=>(tW x.1&&Z9 x.1)&&decide (Z4 x.1<N)) (fun x:Tm×Unit=>Zr x.1)):Zo Tryz.prog 74 (fun x:Tm×Bool×Unit=>(tW x.1&&Z9 x.1)&&decide (Z4 x.1<N)) (fun x:Tm×Bool×Unit=>Au x.2.1 x.1):=dq (c9z N) (tq Tryz.func46 a Ze) Tryz.func74
theorem Sa{N:Nat}(a:Zo Tryz.prog 46 (fun x:Tm×Unit=>(tW x.1&&Z9 x.1)&&decide (Z4 x.1<N)) (fun x:Tm×Unit=>Zr x.1)):Zo Tryz.prog 78 (fun x:List Tm×Unit=>(tsW x.1&&Wo x.1)&&decide (Yc x.1<N)) (fun x:List Tm×Unit=>Yh (x.1.map Zr)):=dq (b9p N) (tq Tryz.func46 a Ze) Tryz.func78
theorem EN{N:Nat}(a:Zo Tryz.prog 46 (fun x:Tm×Unit=>(tW x.1&&Z9 x.1)&&decide (Z4 x.1<N)) (fun x:Tm×Unit=>Zr x.1)):Zo Tryz.prog 77 (fun x:Tm×Unit=>(tW x.1&&Z9 x.1&&decide (x.1.nd.kind=6))&&decide (Yc x.1.ks<N)) (fun x:Tm×Unit=>Q3 x.1):=dq (b8h N) (tq Tryz.func111 Oa (tq Tryz.func76 Rl (tq Tryz.func78 (Sa a) Ze))) Tryz.func77
theorem a0d:Zo Tryz.prog 46 (fun x:Tm×Unit=>tW x.1&&Z9 x.1) (fun x:Tm×Unit=>Zr x.1):=Zo.rec (fun a=>Z4 a.1) fun N b=>dq (c0y N) (tq Tryz.func73 Ll (tq Tryz.func75 a7z (tq Tryz.func74 (a9n b) (tq Tryz.func46 b (tq Tryz.func76 Rl (tq Tryz.func77 (EN b) (tq Tryz.func78 (Sa b) (tq Tryz.func79 Je (tq Tryz.func80 Ot Ze))))))))) Tryz.func46
theorem BA:Zo Tryz.prog 44 (fun x:Tm×Unit=>tW x.1) (fun x:Tm×Unit=>YK x.1):=dq a6c (tq Tryz.func70 OU (tq Tryz.func71 EW (tq Tryz.func20 Xh Ze))) Tryz.func44
theorem b1y:Zo Tryz.prog 101 (fun x:Lin×Unit=>decide (x.1.t.length<=1000000)) (fun x:Lin×Unit=>Va x.1):=dq a9u Ze Tryz.func101
theorem c3z:Zo Tryz.prog 133 (fun x:Str×Unit=>decide (x.1.s.length<=1048576)) (fun x:Str×Unit=>evB x.1.s):=dq e2w (tq Tryz.func158 c2o Ze) Tryz.func133
theorem b8m:Zo Tryz.prog 159 (fun x:Lin×Unit=>Xx x.1) (fun x:Lin×Unit=> !(Zg x.1)):=dq e6e (tq Tryz.func91 D7 Ze) Tryz.func159
theorem e0r:Zo Tryz.prog 135 (fun x:List Lin×FnV 159×Unit=>decide (x.1.length<=1048576)&&x.1.all Xx) (fun x:List Lin×FnV 159×Unit=>Yq (fun l:Lin=> !(Zg l)) x.1):=dq e0a (tq Tryz.func159 b8m Ze) Tryz.func135
theorem e0u:Zo Tryz.prog 99 (fun x:List Lin×FnV 159×Unit=>decide (x.1.length<=1048576)&&x.1.all Xx) (fun x:List Lin×FnV 159×Unit=>x.1.any fun l:Lin=> !(Zg l)):=dq e1x (tq Tryz.func135 e0r Ze) Tryz.func99
theorem Cz:Zo Tryz.prog 134 (fun x:Sp×Unit=>P5 x.1) (fun x:Sp×Unit=>KV x.1.row x.1.dims):=dq a9q (tq Tryz.func128 SB (tq Tryz.func99 e0u Ze)) Tryz.func134
theorem a3t:Zo Tryz.prog 160 (fun x:Sp×Unit=>KV x.1.row x.1.dims) (fun x:Sp×Unit=>(⟨Qo x.1.row x.1.dims⟩:Str)):=dq c2y (tq Tryz.func58 Hf (tq Tryz.func19 EI Ze)) Tryz.func160
theorem Ow:Zo Tryz.prog 136 (fun x:Sp×Unit=>P5 x.1) (fun x:Sp×Unit=>PY x.1.row x.1.dims):=dq b1o (tq Tryz.func134 Cz (tq Tryz.func160 a3t Ze)) Tryz.func136
theorem Cq:Zo Tryz.prog 98 (fun x:TyS×Unit=>yW x.1) (fun x:TyS×Unit=>QZ x.1):=dq a8n (tq Tryz.func133 c3z (tq Tryz.func134 Cz Ze)) Tryz.func98
theorem a0z:Zo Tryz.prog 102 (fun x:TyS×Unit=>yW x.1&&QZ x.1) (fun x:TyS×Unit=>(⟨tyT x.1⟩:Str)):=dq b7z (tq Tryz.func136 Ow Ze) Tryz.func102
theorem Oq:Zo Tryz.prog 66 (fun x:TyS×Unit=>yW x.1) (fun x:TyS×Unit=>KX x.1):=dq a7n (tq Tryz.func98 Cq (tq Tryz.func102 a0z Ze)) Tryz.func66
theorem a6e:Zo Tryz.prog 100 (fun x:Lin×Unit=>Zg x.1) (fun x:Lin×Unit=> !(Q7 x.1)):=dq d2s (tq Tryz.func101 b1y (tq Tryz.func14 WU Ze)) Tryz.func100
theorem e7j:Zo Tryz.prog 135 (fun x:List Lin×FnV 100×Unit=>decide (x.1.length<=1048576)&&x.1.all Zg) (fun x:List Lin×FnV 100×Unit=>Yq (fun l:Lin=> !(Q7 l)) x.1):=dq e1f (tq Tryz.func100 a6e Ze) Tryz.func135
theorem e3i:Zo Tryz.prog 99 (fun x:List Lin×FnV 100×Unit=>decide (x.1.length<=1048576)&&x.1.all Zg) (fun x:List Lin×FnV 100×Unit=>x.1.any fun l:Lin=> !(Q7 l)):=dq e0m (tq Tryz.func135 e7j Ze) Tryz.func99
theorem OZ:Zo Tryz.prog 64 (fun x:TyS×Unit=>yW x.1) (fun x:TyS×Unit=>Y7 x.1):=dq b1p (tq Tryz.func98 Cq (tq Tryz.func14 WU (tq Tryz.func99 e3i Ze))) Tryz.func64
theorem CY:Zo Tryz.prog 31 (fun x:Bool×TyS×Unit=>yW x.2.1) (fun x:Bool×TyS×Unit=>Yy x.1 x.2.1):=dq a9g (tq Tryz.func64 OZ Ze) Tryz.func31
theorem a7r:Zo Tryz.prog 33 (fun x:Pm×Unit=>pW x.1) (fun x:Pm×Unit=> !(Bi x.1)):=dq d0d (tq Tryz.func14 WU (tq Tryz.func31 CY Ze)) Tryz.func33
theorem e6w:Zo Tryz.prog 65 (fun x:List Pm×FnV 33×Unit=>decide (x.1.length<=1048576)&&x.1.all pW) (fun x:List Pm×FnV 33×Unit=>Yq (fun p:Pm=> !(Bi p)) x.1):=dq e5f (tq Tryz.func33 a7r Ze) Tryz.func65
theorem e4n:Zo Tryz.prog 32 (fun x:List Pm×FnV 33×Unit=>decide (x.1.length<=1048576)&&x.1.all pW) (fun x:List Pm×FnV 33×Unit=>x.1.any fun p:Pm=> !(Bi p)):=dq e3f (tq Tryz.func65 e6w Ze) Tryz.func32
theorem Ol:Zo Tryz.prog 16 (fun x:Df×Unit=>dW x.1) (fun x:Df×Unit=>Z6 x.1):=dq a8h (tq Tryz.func14 WU (tq Tryz.func31 CY (tq Tryz.func26 Kt (tq Tryz.func32 e4n Ze)))) Tryz.func16
theorem Ba:Zo Tryz.prog 36 (fun x:Bool×TyS×Unit=>yW x.2.1) (fun x:Bool×TyS×Unit=>(⟨K5 x.1 x.2.1⟩:Str)):=dq a9k (tq Tryz.func66 Oq Ze) Tryz.func36
theorem a8v:Zo Tryz.prog 35 (fun x:Pm×Unit=>pW x.1) (fun x:Pm×Unit=>(⟨pmT x.1⟩:Str)):=dq c8x (tq Tryz.func36 Ba Ze) Tryz.func35
theorem e0c:Zo Tryz.prog 34 (fun x:List Pm×FnV 35×Unit=>decide (x.1.length<=8)&&x.1.all pW) (fun x:List Pm×FnV 35×Unit=>Yh (x.1.map PW)):=dq d5v (tq Tryz.func35 a8v (tq Tryz.func15 Wy Ze)) Tryz.func34
theorem ER:Zo Tryz.prog 17 (fun x:Df×Unit=>dW x.1&&Z6 x.1) (fun x:Df×Unit=>Hl x.1):=dq b8i (tq Tryz.func34 e0c (tq Tryz.func36 Ba (tq Tryz.func27 Sl Ze))) Tryz.func17
theorem Ei:Zo Tryz.prog 7 (fun x:Mdu×Unit=>mW x.1) (fun x:Mdu×Unit=>QO x.1):=dq c4y (tq Tryz.func14 WU (tq Tryz.func15 Wy (tq Tryz.func16 Ol (tq Tryz.func17 ER (tq Tryz.func19 b8n (tq Tryz.func18 Hm Ze)))))) Tryz.func7
theorem b0t:Zo Tryz.prog 161 (fun x:Str×Unit=>decide (x.1.s.length<=1048576)) (fun x:Str×Unit=>evB x.1.s):=dq c1f Ze Tryz.func161
theorem a6f:Zo Tryz.prog 137 (fun x:Str×Unit=>decide (x.1.s.length<=1048576)) (fun x:Str×Unit=>NS x.1.s):=dq c1j (tq Tryz.func161 b0t Ze) Tryz.func137
theorem GQ:Zo Tryz.prog 138 (fun x:Sp×Unit=>P5 x.1) (fun x:Sp×Unit=>KV x.1.row x.1.dims):=dq c1r (tq Tryz.func112 JA (tq Tryz.func141 SE Ze)) Tryz.func138
theorem Nj:Zo Tryz.prog 108 (fun x:Sp×Unit=>P5 x.1) (fun x:Sp×Unit=>PY x.1.row x.1.dims):=dq b8a (tq Tryz.func138 GQ (tq Tryz.func79 Je Ze)) Tryz.func108
theorem GU:Zo Tryz.prog 105 (fun x:TyS×Unit=>yW x.1) (fun x:TyS×Unit=>QZ x.1):=dq c0p (tq Tryz.func137 a6f (tq Tryz.func138 GQ Ze)) Tryz.func105
theorem Na:Zo Tryz.prog 72 (fun x:TyS×Unit=>yW x.1) (fun x:TyS×Unit=>KX x.1):=dq c0j (tq Tryz.func105 GU (tq Tryz.func108 Nj Ze)) Tryz.func72
theorem Nn:Zo Tryz.prog 69 (fun x:TyS×Unit=>yW x.1) (fun x:TyS×Unit=>Y7 x.1):=dq a9a (tq Tryz.func105 GU (tq Tryz.func20 Xh Ze)) Tryz.func69
theorem Nw:Zo Tryz.prog 43 (fun x:Bool×TyS×Unit=>yW x.2.1) (fun x:Bool×TyS×Unit=>Yy x.1 x.2.1):=dq a9z (tq Tryz.func69 Nn Ze) Tryz.func43
theorem SY:Zo Tryz.prog 23 (fun x:Df×Unit=>dW x.1) (fun x:Df×Unit=>Z6 x.1):=dq c3r (tq Tryz.func20 Xh (tq Tryz.func43 Nw (tq Tryz.func44 BA Ze))) Tryz.func23
theorem b1s:Zo Tryz.prog 45 (fun x:TyS×Unit=>yW x.1) (fun x:TyS×Unit=>(KX x.1).1):=dq e3e (tq Tryz.func72 Na Ze) Tryz.func45
theorem a0a:Zo Tryz.prog 24 (fun x:Df×Unit=>dW x.1&&Z6 x.1) (fun x:Df×Unit=>Hl x.1):=dq c4g (tq Tryz.func45 b1s (tq Tryz.func46 a0d Ze)) Tryz.func24
theorem Nv:Zo Tryz.prog 22 (fun x:Str×List Str×Unit=>decide (x.1.s.length<=30)&&decide (x.1.s≠[])&&decide (x.2.1.length<=60)&&x.2.1.all fun s:Str=>nameI s.s) (fun x:Str×List Str×Unit=>(⟨Qd (Q5 x.1.s x.2.1)⟩:Str)):=dq a6l Ze Tryz.func22
theorem Nf:Zo Tryz.prog 21 (fun x:List Str×Unit=>Xg x.1) (fun x:List Str×Unit=>x.1.all fun s:Str=>nameI s.s):=dq b1b (tq Tryz.func20 Xh Ze) Tryz.func21
theorem P7:Zo Tryz.prog 8 (fun x:Mdu×Unit=>mW x.1) (fun x:Mdu×Unit=>QO x.1):=dq d8x (tq Tryz.func20 Xh (tq Tryz.func21 Nf (tq Tryz.func22 Nv (tq Tryz.func23 SY (tq Tryz.func24 a0a Ze))))) Tryz.func8
theorem a0f:Zo Tryz.prog 3 (fun _:Str×UInt8×UInt8×Unit=>true) (fun _:Str×UInt8×UInt8×Unit=>true):=dq c2b (tq Tryz.func5 O3 (tq Tryz.func6 a2r (tq Tryz.func7 Ei (tq Tryz.func8 P7 Ze)))) Tryz.func3
end Go.Proofs.YtkpppjbhmmabeaaGreatDoor
