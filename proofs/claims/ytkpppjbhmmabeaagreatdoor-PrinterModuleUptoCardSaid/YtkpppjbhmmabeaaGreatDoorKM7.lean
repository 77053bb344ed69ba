/-
  Texts of mine that belong together (packed by pack.py), for every input: Post, LaidZ, PlGb, OpPr, OpQd, ShP, Sh, ShB, ShR, ShS, Sk, Cl, ShN, ShM, OkQd.
-/
import Derived.Test.YtkpppjbhmmabeaaGreatDoorChecked
import Derived.Test.YtkpppjbhmmabeaaGreatDoorRows
import Derived.Test.YtkpppjbhmmabeaaGreatDoorKM2
import Derived.Test.YtkpppjbhmmabeaaGreatDoorKM3
import Derived.Test.YtkpppjbhmmabeaaGreatDoorKM4
import Derived.Test.YtkpppjbhmmabeaaGreatDoorKM5
import Derived.Test.YtkpppjbhmmabeaaGreatDoorKM6
import Derived.Below
import Derived.ChangeSame
import Derived.Stop.LaidErr
import Derived.Lib.LaidTab
import Derived.Shelf.Vars
import Derived.KernelRfl
import Derived.Shelf.Strings.Cut
import Derived.Shelf.Strings.OnBuilder
import Derived.Shelf.Strings.Trim
import Derived.Shelf.Small.Wraps
import Derived.Shelf.LaysM
import Derived.Shelf.Strconv.Itoa3
import Derived.Shelf.Strconv.AtoiAll
import Derived.Shelf.Strings.Prefix
import Derived.Shelf.Sort.Plain
import Derived.Shelf.Small.Strs
import Derived.Shelf.Slices.In.SortNone
import Derived.Shelf.SlIter.Sorted
import Derived.Shelf.SlIter.Keys
import Derived.Ground.GgzProg
import Derived.WalkKit
import Derived.Deep.LoopGhost
import Derived.Lib.Walk
import Derived.Lib.SliceRun
import Derived.Shelf.Strings.SlTrimAscii
set_option linter.unusedVariables false
set_option linter.unusedSimpArgs false
namespace Go.Proofs.YtkpppjbhmmabeaaGreatDoor
open Go.RowKit Go.WideShapes Go.ChangeShapes
section
variable {H:Type} {enc:TypeId×Value->H} {P:Program}
theorem NL{f:Func}{s:ChangeSpec}{apart fresh e m:Bool}{W W':World}{args:Array Value}{v:Value}{ds u:List (DataW H)}{a pa pv:List MemPlace}
  (z:DataW.Whole enc P f.params.toList s.vars apart W args.toList ds u a)
  (l : ∀ (b:Nat) (sp:Nat->Bool) (hd:Bool),DataW.TrodAll enc P W' b sp hd f.resultTypes.toList (v.resultList f.resultTypes.size) (s.fn H (ds++u)).results [])
  (g : ∀ sp:Nat->Bool,(∀ p∈a,sp p.block=true)->DataW.TrodAll enc P W' 0 sp true f.params.toList args.toList (s.fn H (ds++u)).args pa)
  (i : ∀ sp:Nat->Bool,(∀ p∈a,sp p.block=true)->DataW.TrodVars enc P W' sp s.vars (s.fn H (ds++u)).vars pv)
  (hps:a=pa++pv) (hb:Below W.heap.size W W')
  (A : ∀ (j:Nat) (t:TypeId) (r:Value),f.resultTypes[j]? = some t->(v.resultList f.resultTypes.size)[j]? = some r->Value.okWide P W' .any 0 t r) :
  s.post enc P f apart fresh e m W args v W':=by
 have q : ∀ p∈a,p.block<W.heap.size:=fun p h=>z.lt p h
 have k : ∀ p∈a,(fun b=>decide (b<W.heap.size)) p.block=true:=fun p h=>by simpa using q p h
 refine⟨ds,u,a,[],pa,pv,z,l _ _ _,g _ k,i _ k,World.keptBut_mono (fun p h=>⟨h,?_⟩) (hb.frame (· ∈ a)),fun _=> ?_⟩
 ·rw[hps,List.mem_append]at h
  exact Or.inr h
 ·obtain⟨_,_,_,_,_,B,hn⟩:=z
  refine⟨A,_,_,([]++pa)++pv,⟨[]++pa,pv,trodAll_append (g _ (fun _ _=>rfl)) (l _ _ _),i _ (fun _ _=>rfl),rfl,?_,?_⟩,?_⟩
  ·intro b off h
   have y:MemPlace.cell b off∈a:=by rw[hps];simpa using h
   rw[hb.frozen (q _ y)]
   exact B b off y
  ·intro ha
   have:=hn ha
   rw[hps]at this
   simpa using this
  ·intro p h _
   rw[hps]
   simpa using h
end
end Go.Proofs.YtkpppjbhmmabeaaGreatDoor
namespace Go.Proofs.YtkpppjbhmmabeaaGreatDoor
open Go.Pl Go.RowKit Go.ChangeShapes
set_option maxRecDepth 100000
theorem b5r{P:Program}{W:World}{n:String}{g:Nat}{cs:Array Value}(a:P.globalNamed n=some g)(h:W.var? P n=some cs):TP W g=some cs:=by
 unfold World.var? at h
 rw[a]at h
 simp only[Option.bind_some]at h
 unfold TP
 exact h
theorem f2x:Tryz.prog.globalNamed "internal/strconv.uint64pow10" = some 1:=by kernel_rfl
theorem g2l:Tryz.prog.globalNamed "strconv.ErrRange" = some 3:=by kernel_rfl
theorem g4l:Tryz.prog.globalNamed "strconv.ErrSyntax" = some 2:=by kernel_rfl
theorem c3j:Tryz.prog.underlying 77=some (.interface ((match Tryz.prog.underlying 77 with|some (.interface ms)=>ms|_=>#[]))):=by kernel_rfl
theorem g0q{W:World}{r:List (String×DataW Unit)}(h:laidMet Tryz.prog (("internal/strconv.uint64pow10",Rows.laid_internal_strconv_uint64pow10)::r) W):TP W 1=some Np:=by
 have h1:Lib.TabIs Tryz.prog W "internal/strconv.uint64pow10" .u64 ((List.range 20).map fun i=>((10 ^ i:Nat):Int)):=Lib.tabIs_of_head (e:=159) (t:=200) f2x (by kernel_rfl) (n:=20) (by kernel_rfl) (by kernel_rfl) (by kernel_rfl) (by kernel_rfl) h
 exact(b5r f2x h1).trans rfl
theorem d6s{W:World}{n:String}{g:Nat}{text:List UInt8}{r:List (String×DataW Unit)}(hg:Tryz.prog.globalNamed n=some g)(ht:(Tryz.prog.globals[g]?).map (·.type)=some 77)(h:laidMet Tryz.prog ((n,.iface "*errors.errorString" (.ptr (.agg [.lit (.string text)])))::r) W): ∃ cs,TP W g=some cs∧RU cs:=by
 obtain⟨ps,⟨g0,t0,cs0,f0,p0,q0,hg0,ht0,hv0,hd0,_,e0⟩,_,hrows⟩:=h
 obtain rfl:=Option.some.inj (hg.symm.trans hg0)
 obtain rfl:=Option.some.inj (ht.symm.trans ht0)
 subst e0
 refine⟨cs0,b5r hg hv0,?_⟩
 obtain⟨f1,u,v,e,_⟩:=iface_of_trod c3j hd0
 obtain⟨l0⟩:=cs0
 have e:l0=[.iface u v]:=e
 subst e
 exact⟨_,rfl,.inr ⟨u,v,rfl⟩⟩
theorem g2k{W:World}(h:W.ShapedOpen Tryz.prog): ∃ cs m,TP W 0=some cs∧cs[0]? = some (Value.int .i64 m):=by
 obtain⟨m,hm⟩:=cell_of_shapedOpen_int (g:=0) (t:=3) (zero:=#[.int .i64 0]) (k:=.i64) h (of_decide_eq_true (by kernel_rfl)) (by kernel_rfl) rfl (by kernel_rfl) (by kernel_rfl) (by kernel_rfl)
 unfold World.cell? at hm
 unfold TP
 split at hm
 ·rename_i cs T fz a
  exact⟨cs,m,by simp only[a],by simpa using hm⟩
 ·cases hm
theorem e9r{W:World}{x y z:String×DataW Unit}{r:List (String×DataW Unit)}(h:laidMet Tryz.prog (x::y::("internal/strconv.uint64pow10",Rows.laid_internal_strconv_uint64pow10)::z::("strconv.ErrRange",Rows.laid_strconv_ErrRange)::("strconv.ErrSyntax",Rows.laid_strconv_ErrSyntax)::r) W)(hs:W.ShapedOpen Tryz.prog):GlobOK (TP W):=
 ⟨d6s g4l (by kernel_rfl) h.tail.tail.tail.tail.tail,d6s g2l (by kernel_rfl) h.tail.tail.tail.tail,g0q h.tail.tail,g2k hs⟩
noncomputable def g5k:DataW Unit->Value
 | .lit (.int k n)=>.int k n
 | _=>.int .i64 0
noncomputable def RJ:DataW Unit->Array Value
 | .agg ds=>(ds.flatMap fun | .agg es=>es.map g5k|d=>[g5k d]).toArray
 | _=>#[]
noncomputable def d5l:DataW Unit->ByteArray
 | .iface _ (.ptr (.agg [.lit (.string bs)]))=>⟨bs.toArray⟩
 | _=>⟨#[]⟩
noncomputable def low:Nat:=(World.holding Tryz.prog default ⟨#[],#[],[]⟩).heap.size
noncomputable def b0x(cs:Array Value):Obj->Obj
 | .cells _ t frozen=>.cells cs t frozen
 | o=>o
noncomputable def AJ(os:Os):World:=
 let w0:=World.holding Tryz.prog os ⟨#[.cells #[.string (d5l Rows.laid_strconv_ErrRange)] 229,.cells #[.string (d5l Rows.laid_strconv_ErrSyntax)] 229],#[],[]⟩
 {w0 with heap:=((((((w0.heap.modify 3 (b0x #[.iface 227 (.pointer (some ⟨low,0,none⟩))])).modify 2 (b0x #[.iface 227 (.pointer (some ⟨low+1,0,none⟩))])).modify 1 (b0x (RJ Rows.laid_internal_strconv_uint64pow10))).modify 4 (b0x (RJ Rows.laid_math_bits_deBruijn32tab))).modify 5 (b0x (RJ Rows.laid_math_bits_deBruijn64tab))).modify 7 (b0x (RJ Rows.laid_unicode_utf8_acceptRanges))).modify 6 (b0x (RJ Rows.laid_unicode_utf8_first))}
end Go.Proofs.YtkpppjbhmmabeaaGreatDoor
namespace Go.Pl
open Go.RowKit Go.WideShapes Go.ChangeShapes
abbrev uB{H:Type}(d:DataW H):Nat:=Go.Proofs.YtkpppjbhmmabeaaGreatDoor.Rows.uptoBulk d
abbrev uBs{H:Type}(l:List (DataW H)):Nat:=Go.Proofs.YtkpppjbhmmabeaaGreatDoor.Rows.uptoBulkAll l
theorem PQ{H:Type}(d:DataW H)(l:List (DataW H)):uBs (d::l)=uB d+uBs l:=by unfold uBs uB;rw[Go.Proofs.YtkpppjbhmmabeaaGreatDoor.Rows.uptoBulkAll]
theorem a8u{H:Type}(d:DataW H):1<=uB d:=by
 cases d with
 | lit l=>cases l <;> simp[uB,Go.Proofs.YtkpppjbhmmabeaaGreatDoor.Rows.uptoBulk]
 | _=>simp[uB,Go.Proofs.YtkpppjbhmmabeaaGreatDoor.Rows.uptoBulk]
mutual
def BJ:PV->Nat
 | .str s=>s.length+1
 | .sl _ _ xs=>Y7 xs+1
 | .agg xs=>Y7 xs
 | _=>1
def Y7:List PV->Nat
 | []=>0
 | p::ps=>BJ p+Y7 ps
end
theorem e1t(a b:List PV):Y7 (a++b)=Y7 a+Y7 b:=by
 induction a with
 | nil=>simp[Y7]
 | cons x a ih=>rw[List.cons_append,Y7,ih,Y7];omega
theorem g4j{P:Program}{e:TypeId}{q:List PV}(a:Xd P e=true∨P.cellsOf e=1)(b:q.length=P.cellsOf e):BJ (QS P e q)<=Y7 q:=by
 cases ha:Xd P e with
 | true=>simp only[QS,ha];rw[BJ];exact Nat.le_refl _
 | false=>
  have h1:P.cellsOf e=1:=by simpa [ha]using a
  rw[h1]at b
  match q,b with
  | [x],_=>simp only[QS,ha,List.headD_cons];rw[Y7,Y7];exact Nat.le_refl _
theorem b4q{H:Type}{f:List PV->PV}: ∀ {qs:List (List PV)} {xs:List (DataW H×List MemPlace)},qs.length=xs.length->(∀ (i:Nat) (q:List PV) (x:DataW H×List MemPlace),qs[i]? = some q->xs[i]? = some x->BJ (f q)<=uB x.1)->Y7 (qs.map f)<=uBs (xs.map (·.1))
 | [],[],_,_=>by simp[Y7]
 | q::qs,x::xs,hl,h=>by
  have h0:=h 0 q x rfl rfl
  have h1:=b4q (qs:=qs) (xs:=xs) (by simpa using hl) fun i q x b a=>h (i+1) q x (by simpa using b) (by simpa using a)
  rw[List.map_cons,Y7,List.map_cons,PQ]
  omega
 | [],_::_,hl,_=>by cases hl
 | _::_,[],hl,_=>by cases hl
def c8r(P:Program)(S:List TypeId):Bool:=S.all fun t=>match P.underlying t with|some (.array _ _)=>false|_=>true
section
variable {H:Type} {enc:TypeId×Value->H} {P:Program} {w:World} {base:Nat} {sp:Nat->Bool} {held:Bool} {S:List TypeId}
theorem OB{n:Nat}{cs:List Value}(s : ∀ (t:TypeId) (cs:List Value) (x:DataW H×List MemPlace),t∈S->DataW.trod enc P w base sp held n t cs=some x-> ∃ ps,Cl w cs ps∧Wy P n t ps∧Y7 ps<=uB x.1):
  ∀ (b:List Field) (o N:Nat) (xs:List (DataW H×List MemPlace)),Jj P o b N=true->(∀ f∈b,f.type∈S)->cs.length=N->o<=N ->
   b.mapM (fun f=>DataW.trod enc P w base sp held n f.type ((cs.drop f.offset).take (P.cellsOf f.type)))=some xs ->
   ∃ ps,Cl w (cs.drop o) ps∧Y7 ps<=uBs (xs.map (·.1))∧ ∀ qs:List PV,qs.length=o->(∀ f∈b,Wy P n f.type (((qs++ps).drop f.offset).take (P.cellsOf f.type))):=by
 intro b
 induction b with
 | nil=>
  intro o N xs hc _ u ho _
  simp[Jj]at hc
  refine⟨[],?_,by simp[Y7],fun qs _ f A=>by simp at A⟩
  rw[List.drop_of_length_le (by omega)]
  exact Cl.nil
 | cons f b ihf=>
  intro o N xs hc hm u ho h
  simp only[Jj,Bool.and_eq_true,beq_iff_eq]at hc
  obtain⟨i,hc⟩:=hc
  simp only[List.mapM_cons,Option.bind_eq_bind,Option.bind_eq_some_iff]at h
  obtain⟨x,D,m,l,e⟩:=h
  cases e
  obtain⟨r,y,B,w1⟩:=s _ _ x (hm f List.mem_cons_self) D
  have q:o+P.cellsOf f.type<=N:=by
   have : ∀ (b:List Field) (a:Nat),Jj P a b N=true->a<=N:=by
    intro b
    induction b with
    | nil=>intro a h;simp[Jj]at h;omega
    | cons g b s=>intro a h;simp only[Jj,Bool.and_eq_true]at h;have:=s _ h.2;omega
   exact this _ _ hc
  obtain⟨E,C,w2,F⟩:=ihf (o+P.cellsOf f.type) N m hc (fun g k=>hm g (List.mem_cons_of_mem _ k)) u q l
  have j:r.length=P.cellsOf f.type:=by
   rw[<- y.1.1,List.length_take,List.length_drop,i]
   omega
  refine⟨r++E,?_,by rw[e1t,List.map_cons,PQ];omega,fun qs z g k=> ?_⟩
  ·have:=y.append C
   rw[i]at this
   have e:cs.drop o=(cs.drop o).take (P.cellsOf f.type)++cs.drop (o+P.cellsOf f.type):=by rw[<- List.drop_drop,List.take_append_drop]
   rw[e]
   exact this
  ·rcases List.mem_cons.1 k with rfl|k
   ·rw[i,<- z,List.drop_left,<- j,List.take_left]
    exact B
   ·have:=F (qs++r) (by simp[z,j]) g k
    rwa [List.append_assoc]at this
theorem a3h{n:Nat}{e:TypeId}{a:Addr}{len cap:Nat}{xs:List (DataW H×List MemPlace)}(F:0<P.cellsOf e)(E:Xd P e=true∨P.cellsOf e=1)(B:len<=cap)(hmax:cap<=maxLen)
  (ih : ∀ (cs:List Value) (x:DataW H×List MemPlace),DataW.trod enc P w base sp held n e cs=some x-> ∃ ps,Cl w cs ps∧Wy P n e ps∧Y7 ps<=uB x.1)
  (h:(List.range len).mapM (fun i=>(w.cells? base (a.add (i*P.cellsOf e)) (P.cellsOf e)).bind (DataW.trod enc P w base sp held n e))=some xs) :
  ∃ qs:List (List PV),RP (TP w) (.slice (some a) len cap) (.sl (P.cellsOf e) false (qs.map (QS P e)))∧qs.length<=maxLen∧(∀ q∈qs,q.length=P.cellsOf e∧Wy P n e q)∧Y7 (qs.map (QS P e))<=uBs (xs.map (·.1)):=by
 obtain⟨Q,hg⟩:=a4j h
 rw[List.length_range]at Q
 have M : ∀ i,i<len-> ∃ q:List PV,(q.length=P.cellsOf e∧Wy P n e q∧ ∃ x,xs[i]? = some x∧Y7 q<=uB x.1)∧ ∀ (r:Nat) p,q[r]? = some p-> ∃ v,w.cell? (a.add (i*P.cellsOf e+r))=some v∧v.oneCell'=true∧RP (TP w) v p:=by
  intro i hi
  have A:=List.getElem?_eq_getElem (show i<xs.length by omega)
  have:=hg i i _ (by simp[hi]) A
  rw[Option.bind_eq_some_iff]at this
  obtain⟨cs,h1,h2⟩:=this
  obtain⟨q,J,Y,Z⟩:=ih cs _ h2
  obtain⟨X,W⟩:=c4f h1
  refine⟨q,⟨by rw[<- J.1.1,X],Y,_,A,Z⟩,fun r p l=> ?_⟩
  have hr:r<cs.length:=by rw[J.1.1];exact(List.getElem?_eq_some_iff.1 l).1
  have u:=List.getElem?_eq_getElem hr
  refine⟨_,?_,J.2 _ (List.getElem_mem hr),J.1.2 r _ p u l⟩
  rw[<- c2v]
  exact W r _ u
 obtain⟨qs,m,k⟩:=a4c len M
 have g : ∀ q∈qs,(QS P e q).cells=q:=by
  intro q s
  obtain⟨i,hi,rfl⟩:=List.getElem_of_mem s
  have:=(k i _ (List.getElem?_eq_getElem hi)).1
  exact c3u E this.1 fun ha=>d9u this.2.1 ha
 refine⟨qs,?_,by omega,fun q s=> ?_,?_⟩
 ·by_cases h0:len=0
  ·subst h0
   have:qs=[]:=List.length_eq_zero_iff.1 m
   subst this
   exact .sl0 _ _ _ _ fun e=>by cases e
  ·-- the first cell tells the block
   obtain⟨b,off,cs,rfl,hb,-⟩ : ∃ b off cs,a=⟨b,off,none⟩∧TP w b=some cs∧True:=by
    have N:=List.getElem?_eq_getElem (show 0<qs.length by omega)
    obtain⟨⟨f1,f2,-⟩,f3⟩:=k 0 _ N
    have l:=List.getElem?_eq_getElem (show 0<(qs[0]'(by omega)).length by omega)
    obtain⟨v,u,_⟩:=f3 0 _ l
    simp[Addr.add]at u
    obtain⟨b,off,cs,O,K,_⟩:=FB u
    exact⟨b,off,cs,O,K,trivial⟩
   have hs : ∀ x∈qs.map (QS P e),x.cells.length=P.cellsOf e:=by
    intro x A
    obtain⟨q,s,rfl⟩:=List.mem_map.1 A
    rw[g q s]
    obtain⟨i,hi,rfl⟩:=List.getElem_of_mem s
    exact(k i _ (List.getElem?_eq_getElem hi)).1.1
   have D : ∀ (j:Nat) p,(flat (qs.map (QS P e)))[j]? = some p-> ∃ v,cs[off+j]? = some v∧v.oneCell'=true∧RP (TP w) v p:=by
    intro j p l
    have V:j<len*P.cellsOf e:=by
     have:=(List.getElem?_eq_some_iff.1 l).1
     rw[WH hs]at this
     simpa [m]using this
    have hi:j / P.cellsOf e<qs.length:=by rw[m];exact(Nat.div_lt_iff_lt_mul F).2 V
    have hr:j % P.cellsOf e<P.cellsOf e:=Nat.mod_lt _ F
    have C:=List.getElem?_eq_getElem hi
    have U:j=j / P.cellsOf e*P.cellsOf e+j % P.cellsOf e:=by rw[Nat.mul_comm];exact(Nat.div_add_mod _ _).symm
    have L:(qs.map (QS P e))[j / P.cellsOf e]? = some (QS P e qs[j / P.cellsOf e]):=by rw[List.getElem?_map,C];rfl
    have I:=a2v hs L hr
    rw[<- U,g _ (List.getElem_mem hi)]at I
    rw[I]at l
    obtain⟨v,u,h1,h2⟩:=(k _ _ C).2 _ p l
    rw[<- U,X9]at u
    obtain⟨b',off',cs',O,K,e3⟩:=FB u
    cases O
    rw[hb]at K
    cases K
    exact⟨v,e3,h1,h2⟩
   have z:len=(qs.map (QS P e)).length:=by simp[m]
   rw[z]
   refine .sl b off cs cap _ false _ (fun j=>(cs[off+j]?).getD default) hb (by rw[<- z];exact B) (fun e=>by cases e) hs (fun j p l=> ?_) (fun j p l=> ?_)
   ·obtain⟨v,h1,h2,h3⟩:=D j p l
    rw[h1]
    exact⟨rfl,h2⟩
   ·obtain⟨v,h1,h2,h3⟩:=D j p l
    rw[h1]
    exact h3
 ·obtain⟨i,hi,rfl⟩:=List.getElem_of_mem s
  have:=(k i _ (List.getElem?_eq_getElem hi)).1
  exact⟨this.1,this.2.1⟩
 ·refine b4q (by rw[m,Q]) fun i q x s A=> ?_
  have:=(k i q s).1
  obtain⟨y,T,hw⟩:=this.2.2
  rw[A]at T
  cases T
  have hm:=g4j (P:=P) (e:=e) (q:=q) E this.1
  omega
theorem b0a(u:Eb P S=true)(s:c8r P S=true): ∀ (n:Nat) (t:TypeId) (cs:List Value) (x:DataW H×List MemPlace),t∈S->DataW.trod enc P w base sp held n t cs=some x-> ∃ ps,Cl w cs ps∧Wy P n t ps∧Y7 ps<=uB x.1:=by
  intro n
  induction n with
  | zero=>intro t cs x _ h;simp[DataW.trod]at h
  | succ n ih=>
    intro t cs x ht h
    have b:=MS u ht
    have i:=List.all_eq_true.1 s t ht
    unfold DataW.trod at h
    unfold Wy
    split at h <;> (try rename_i hu) <;> (try simp only[hu]at b i ⊢) <;> try (cases b;done)
    all_goals first
      | (exact⟨_,Cl.one (.bool _) rfl,⟨_,rfl⟩,a8u _⟩)
      | (split at h
         · rename_i hc
           obtain⟨rfl,r⟩:=hc
           exact⟨_,Cl.one (.int _ _) rfl,⟨_,rfl,r⟩,a8u _⟩
         · cases h)
      | (split at h
         · rename_i hc
           cases h
           refine⟨_,Cl.one (.str _) rfl,⟨_,rfl,hc⟩,?_⟩
           show Y7 [PV.str _]<=Go.Proofs.YtkpppjbhmmabeaaGreatDoor.Rows.uptoBulk (DataW.lit (.string _))
           rw[Go.Proofs.YtkpppjbhmmabeaaGreatDoor.Rows.uptoBulk,Y7,Y7,BJ]
           omega
         · cases h)
      | (cases h;done)
      | (cases i;done)
      | skip
    · exact⟨_,Cl.one (.sl0 _ _ _ false (fun e=>by cases e)) rfl,⟨[],rfl,by simp,fun q z=>by simp at z⟩,a8u _⟩
    · rename_i e a len cap
      simp only[Bool.and_eq_true,Bool.or_eq_true,beq_iff_eq,decide_eq_true_eq]at b
      simp only at h
      split at h
      · rename_i hc
        obtain⟨xs,h1,h3⟩:=Option.bind_eq_some_iff.1 h
        obtain⟨ys,h4,rfl⟩:=Option.map_eq_some_iff.1 h3
        obtain⟨qs,g,k,j,A⟩:=a3h b.1.2 b.2 hc.2.1 hc.2.2 (fun cs x y=>ih e cs x (by simpa using b.1.1.2) y) h1
        refine⟨_,Cl.one g rfl,⟨qs,rfl,k,j⟩,?_⟩
        show Y7 [PV.sl _ false (qs.map (QS P e))]<=Go.Proofs.YtkpppjbhmmabeaaGreatDoor.Rows.uptoBulk (DataW.slice (xs.map (·.1)) (ys.map (·.1)))
        rw[Go.Proofs.YtkpppjbhmmabeaaGreatDoor.Rows.uptoBulk,Y7,Y7,BJ]
        have:Y7 (qs.map (QS P e))<=Go.Proofs.YtkpppjbhmmabeaaGreatDoor.Rows.uptoBulkAll (xs.map (·.1)):=A
        omega
      · cases h
    · rename_i cs2 m
      simp only[Bool.and_eq_true]at b
      split at h
      · rename_i hc
        rw[Option.map_eq_some_iff]at h
        obtain⟨xs,h1,rfl⟩:=h
        obtain⟨ps,g,j,k⟩:=OB ih m.toList 0 (P.cellsOf t) xs b.1 (fun f l=>by simpa using List.all_eq_true.1 b.2 f l) hc (Nat.zero_le _) h1
        rw[List.drop_zero]at g
        refine⟨ps,g,⟨by rw[<- g.1.1,hc],fun f l=>by simpa using k [] rfl f l⟩,?_⟩
        show Y7 ps<=Go.Proofs.YtkpppjbhmmabeaaGreatDoor.Rows.uptoBulk (DataW.agg (xs.map (·.1)))
        rw[Go.Proofs.YtkpppjbhmmabeaaGreatDoor.Rows.uptoBulk]
        have:Y7 ps<=Go.Proofs.YtkpppjbhmmabeaaGreatDoor.Rows.uptoBulkAll (xs.map (·.1)):=j
        omega
      · cases h
theorem c2q(s:Eb P S=true)(A:c8r P S=true){t:TypeId}(ht:t∈S){r:Reach}{D:Nat}{v:Value}{d:DataW H}{p:List MemPlace}(e:Value.okWide P w r D t v)(h:DataW.Trod enc P w base sp held t v d p):
  ∃ n q,RP (TP w) v (QS P t q)∧Wy P n t q∧Y7 q<=uB d:=by
 obtain⟨n,h⟩:=h
 obtain⟨q,i,B,z⟩:=b0a s A n t _ _ ht h
 refine⟨n,q,?_,B,z⟩
 have m:=MS s ht
 have g:v.cells = #[v]->Xd P t=false->RP (TP w) v (QS P t q):=by
  intro hc ha
  rw[hc]at i
  have u:=i.1.1
  match q,u with
  | [x],_=>simp only[QS,ha,List.headD_cons];exact i.1.2 0 v x rfl rfl
 have agg : ∀ cs,v = .agg cs->Xd P t=true->RP (TP w) v (QS P t q):=by
  rintro cs rfl ha
  simp only[QS,ha]
  exact .agg cs q (by have:=i.1.1;simpa [Value.cells]using this) (fun x k=>i.2 x (by simpa [Value.cells]using k)) fun j x y k C=>i.1.2 j x y (by simpa [Value.cells]using k) C
 split at m
 ·rename_i hu
  obtain⟨b,rfl⟩:=okWide_bool hu e
  exact g rfl (by simp[Xd,hu])
 ·rename_i hu
  obtain⟨b,rfl⟩:=okWide_int hu e
  exact g rfl (by simp[Xd,hu])
 ·rename_i hu
  obtain⟨b,rfl⟩:=okWide_string hu e
  exact g rfl (by simp[Xd,hu])
 ·rename_i hu
  obtain⟨a,l,c,rfl⟩:=okWide_slice hu e
  exact g rfl (by simp[Xd,hu])
 ·rename_i hu
  simp only[Value.okWide,hu]at e
  obtain⟨cs,rfl,_⟩:=e
  exact agg cs rfl (by simp[Xd,hu])
 ·rename_i hu
  simp only[Value.okWide,hu]at e
  obtain⟨cs,rfl,_⟩:=e
  exact agg cs rfl (by simp[Xd,hu])
 ·cases m
end
end Go.Pl
namespace Go.Pl
open Enc (enc dec is)
open EncL (encL decL isL)
theorem b3j(l:List Int):Y7 (l.map enc)=l.length:=by
 induction l with
 | nil=>rfl
 | cons a l ih=>rw[List.map_cons,Y7,ih,List.length_cons];show 1+_=_;omega
theorem e2p(l:List Coef):Y7 (l.map enc)=(l.map E8).sum:=by
 induction l with
 | nil=>rfl
 | cons a l ih=>
  rw[List.map_cons,Y7,ih,List.map_cons,List.sum_cons]
  rfl
theorem b1i(l:List Lin):Y7 (l.map enc)=(l.map Nz).sum:=by
 induction l with
 | nil=>rfl
 | cons a l ih=>
  rw[List.map_cons,Y7,ih,List.map_cons,List.sum_cons]
  congr 1
  show BJ (.agg [.int .i64 a.k,.sl 2 false (a.t.map enc)])=_
  simp only[BJ,Y7,e2p]
  unfold Nz
  omega
mutual
theorem f1c: ∀ t:Tm,J8 t<=BJ (tmP t)
 | .mk n ks=>by
  have h:=e0s ks
  have h1:=b3j n.dims
  have h2:=b3j n.data
  have h3:=b3j n.ranks
  have a:=b1i n.sizes
  rw[tmP,J8]
  show wNd n+UI ks<=BJ (.agg [.int .i64 n.kind,.int .i64 n.line,.str n.name.s,.int .i64 n.num,.str n.elem.s,.sl 1 false (n.dims.map enc),.sl 1 false (n.data.map enc),.sl 2 false (n.sizes.map enc),.sl 1 false (n.ranks.map enc),.sl 10 false (DL ks)])
  simp only[BJ,Y7,h1,h2,h3,a]
  unfold wNd
  omega
theorem e0s: ∀ ks:List Tm,UI ks<=Y7 (DL ks)
 | []=>by simp[UI,DL,Y7]
 | k::ks=>by
  have h1:=f1c k
  have h2:=e0s ks
  rw[UI,DL,Y7];omega
end
end Go.Pl
namespace Go.Proofs.YtkpppjbhmmabeaaGreatDoor
open Go.Pl
set_option maxRecDepth 100000
open Enc (enc dec is)
open EncL (encL decL isL)
theorem Jr:Tryz.prog.underlying 3=some (.int .i64):=by kernel_rfl
theorem Qd:Tryz.prog.underlying 9=some .string:=by kernel_rfl
theorem d3i:Tryz.prog.underlying 24=some (.slice 3):=by kernel_rfl
theorem e1y:Tryz.prog.underlying 85=some (.slice 111):=by kernel_rfl
theorem a1g:Tryz.prog.underlying 27=some (.slice 87):=by kernel_rfl
theorem c7z:Tryz.prog.underlying 23=some (.slice 29):=by kernel_rfl
theorem Cr:Tryz.prog.cellsOf 3=1:=by kernel_rfl
theorem Qg:Tryz.prog.cellsOf 9=1:=by kernel_rfl
theorem a6r:Tryz.prog.cellsOf 24=1:=by kernel_rfl
theorem d0t:Tryz.prog.cellsOf 85=1:=by kernel_rfl
theorem a2z:Tryz.prog.cellsOf 27=1:=by kernel_rfl
theorem c8k:Tryz.prog.cellsOf 23=1:=by kernel_rfl
theorem a0n:Tryz.prog.cellsOf 111=2:=by kernel_rfl
theorem P5:Tryz.prog.cellsOf 87=2:=by kernel_rfl
theorem a0b:Tryz.prog.cellsOf 26=3:=by kernel_rfl
theorem RA:Tryz.prog.cellsOf 29=10:=by kernel_rfl
theorem f5v:Xd Tryz.prog 111=true:=by kernel_rfl
theorem f3x:Xd Tryz.prog 87=true:=by kernel_rfl
theorem d6q:Xd Tryz.prog 29=true:=by kernel_rfl
theorem e0a:V8 Tryz.prog 111=some [(0,9),(1,3)]:=by kernel_rfl
theorem c6a:V8 Tryz.prog 87=some [(0,3),(1,85)]:=by kernel_rfl
theorem d7o:V8 Tryz.prog 26=some [(0,9),(1,24),(2,24)]:=by kernel_rfl
theorem d6b:V8 Tryz.prog 29=some [(0,3),(1,3),(2,9),(3,3),(4,26),(7,27),(8,24),(9,23)]:=by kernel_rfl
theorem Kg{α:Type}[Enc α]{f:List PV->PV}: ∀ {qs:List (List PV)},(∀ q∈qs,∃ a:α,f q=enc a)-> ∃ l:List α,qs.map f=l.map enc
 | [],_=>⟨[],rfl⟩
 | q::qs,h=>by
  obtain⟨a,e⟩:=h q (by simp)
  obtain⟨l,b⟩:=Kg (qs:=qs) fun x g=>h x (by simp[g])
  exact⟨a::l,by rw[List.map_cons,List.map_cons,e,b]⟩
theorem e3e{n:Nat}{q:List PV}(h:Wy Tryz.prog n 111 q): ∃ t:Coef,QS Tryz.prog 111 q=enc t:=by
 obtain⟨m,_,j,i,h1,_⟩:=XL e0a a0n h
 match q,j with
 | [a,b],_=>
  rw[Qg]at i
  rw[Cr]at h1
  obtain⟨s,e,_⟩:=V4 Qd i
  obtain⟨k,g,_⟩:=QB Jr h1
  simp at e g
  subst e g
  exact⟨⟨⟨s⟩,k⟩,by rw[QS,f5v];rfl⟩
theorem Ow{n:Nat}{q:List PV}(h:Wy Tryz.prog n 24 q): ∃ l:List Int,q=[enc l]:=by
 obtain⟨a,e,_⟩:=c5s d3i Jr Cr h
 exact⟨a,e⟩
theorem b5t{n:Nat}{q:List PV}(h:Wy Tryz.prog n 87 q): ∃ l:Lin,QS Tryz.prog 87 q=enc l:=by
 obtain⟨m,_,j,g,h1,_⟩:=XL c6a P5 h
 match q,j with
 | [a,b],_=>
  rw[Cr]at g
  rw[d0t]at h1
  obtain⟨k,i,_⟩:=QB Jr g
  obtain⟨m',_,qs,e,_,u⟩:=WO e1y a0n h1
  obtain⟨l,r⟩:=Kg (α:=Coef) (f:=QS Tryz.prog 111) fun x s=>e3e (u x s).2
  simp at i e
  subst i e
  exact⟨⟨k,l⟩,by rw[QS,f3x,r];rfl⟩
theorem e5s: ∀ (n:Nat) {q:List PV},Wy Tryz.prog n 29 q-> ∃ t:Tm,QS Tryz.prog 29 q=enc t:=by
 intro n
 induction n using Nat.strongRecOn with
 | ind n ih=>
  intro q h
  obtain⟨m,hm,Q,C,h1,h2,h3,F,M,J,N,_⟩:=XL d6b RA h
  match q,Q with
  | [a,b,c,d,e,f,g,i,j,k],_=>
   rw[Cr]at C h1 h3
   rw[Qg]at h2
   rw[a0b]at F
   rw[a2z]at M
   rw[a6r]at J
   rw[c8k]at N
   obtain⟨V,O,_⟩:=QB Jr C
   obtain⟨Y,K,_⟩:=QB Jr h1
   obtain⟨U,E,_⟩:=V4 Qd h2
   obtain⟨v3,H,_⟩:=QB Jr h3
   obtain⟨m4,_,_,L,z,D,_⟩:=XL d7o a0b F
   rw[Qg]at L
   rw[a6r]at z D
   obtain⟨W,B,_⟩:=V4 Qd L
   obtain⟨v5,I⟩:=Ow z
   obtain⟨v6,y⟩:=Ow D
   obtain⟨m7,_,qs,P,_,Z⟩:=WO a1g P5 M
   obtain⟨T,l⟩:=Kg (α:=Lin) (f:=QS Tryz.prog 87) fun x s=>b5t (Z x s).2
   obtain⟨v8,A⟩:=Ow J
   obtain⟨X,hm9,ts,u,_,ht⟩:=WO c7z RA N
   obtain⟨S,r⟩:=Kg (α:=Tm) (f:=QS Tryz.prog 29) fun x s=>ih X (by omega) (ht x s).2
   simp at O K E H B I y P A u
   subst O K E H B I y P A u
   exact⟨.mk ⟨V,Y,⟨U⟩,v3,⟨W⟩,v5,v6,T,v8⟩ S,by rw[QS,d6q,Yl,l,r];rfl⟩
end Go.Proofs.YtkpppjbhmmabeaaGreatDoor
namespace Go.Pl
open Enc (enc dec is)
open EncL (encL decL isL)
theorem Ex{α:Type}[Enc α]{f:α->Nat}(h : ∀ a:α,f a<=BJ (enc a))(l:List α):(l.map f).sum<=Y7 (l.map enc):=by
 induction l with
 | nil=>exact Nat.zero_le _
 | cons a l ih=>
  have:=h a
  rw[List.map_cons,List.map_cons,Y7,List.sum_cons];omega
theorem g8h(p:Pm):wPm p<=BJ (enc p):=by
 have h:=b1i p.ty.dims
 show _<=BJ (.agg [.str p.name.s,.bool p.given,.str p.ty.elem.s,.str p.ty.row.s,.sl 2 false (p.ty.dims.map enc)])
 simp only[BJ,Y7,h]
 unfold wPm wTy
 omega
theorem g2s(s:Str):wSt s<=BJ (enc s):=Nat.le_refl _
theorem g7k(d:Df):wDf d<=BJ (enc d):=by
 have h:=b1i d.res.dims
 have h1:=Ex g8h d.ps
 have h2:=f1c d.body
 have e:BJ (tmP d.body)=BJ (.agg [enc d.n.kind,enc d.n.line,enc d.n.name,enc d.n.num,enc d.n.elem,enc d.n.dims,enc d.n.data,enc d.n.sizes,enc d.n.ranks,enc d.ks]):=congrArg BJ (Yl d.n d.ks)
 rw[e]at h2
 simp only[BJ,Y7]at h2
 show _<=BJ (.agg [.str d.name.s,.int .i64 d.line,.sl 5 false (d.ps.map enc),.bool d.given,.str d.res.elem.s,.str d.res.row.s,.sl 2 false (d.res.dims.map enc),enc d.n.kind,enc d.n.line,enc d.n.name,enc d.n.num,enc d.n.elem,enc d.n.dims,enc d.n.data,enc d.n.sizes,enc d.n.ranks,enc d.ks])
 simp only[BJ,Y7,h]
 unfold wDf wTy
 omega
theorem g8i(m:Mdu):wMd m<=BJ (enc m):=by
 have h1:=Ex g2s m.im
 have h2:=Ex g2s m.ex
 have h3:=Ex g7k m.ds
 show _<=BJ (.agg [.str m.name.s,.sl 1 false (m.im.map enc),.sl 1 false (m.ex.map enc),.sl 17 false (m.ds.map enc)])
 simp only[BJ,Y7]
 unfold wMd
 omega
end Go.Pl
namespace Go.Proofs.YtkpppjbhmmabeaaGreatDoor
open Go.Pl
set_option maxRecDepth 100000
open Enc (enc dec is)
open EncL (encL decL isL)
theorem b9b:Tryz.prog.underlying 4=some .bool:=by kernel_rfl
theorem d8e:Tryz.prog.underlying 31=some (.slice 9):=by kernel_rfl
theorem c7g:Tryz.prog.underlying 35=some (.slice 61):=by kernel_rfl
theorem d7m:Tryz.prog.underlying 32=some (.slice 41):=by kernel_rfl
theorem b6k:Tryz.prog.cellsOf 4=1:=by kernel_rfl
theorem d0w:Tryz.prog.cellsOf 31=1:=by kernel_rfl
theorem e0v:Tryz.prog.cellsOf 35=1:=by kernel_rfl
theorem d4i:Tryz.prog.cellsOf 32=1:=by kernel_rfl
theorem a3i:Tryz.prog.cellsOf 37=2:=by kernel_rfl
theorem PZ:Tryz.prog.cellsOf 39=3:=by kernel_rfl
theorem a0e:Tryz.prog.cellsOf 61=5:=by kernel_rfl
theorem a4h:Tryz.prog.cellsOf 41=17:=by kernel_rfl
theorem c9d:Tryz.prog.cellsOf 34=4:=by kernel_rfl
theorem f8d:Xd Tryz.prog 61=true:=by kernel_rfl
theorem f6c:Xd Tryz.prog 41=true:=by kernel_rfl
theorem c6o:Xd Tryz.prog 34=true:=by kernel_rfl
theorem g5y:Xd Tryz.prog 9=false:=by kernel_rfl
theorem d9j:V8 Tryz.prog 37=some [(0,9),(1,27)]:=by kernel_rfl
theorem c9z:V8 Tryz.prog 39=some [(0,9),(1,37)]:=by kernel_rfl
theorem c8u:V8 Tryz.prog 61=some [(0,9),(1,4),(2,39)]:=by kernel_rfl
theorem c8x:V8 Tryz.prog 41=some [(0,9),(1,3),(2,35),(3,4),(4,39),(7,29)]:=by kernel_rfl
theorem d3n:V8 Tryz.prog 34=some [(0,9),(1,31),(2,31),(3,32)]:=by kernel_rfl
theorem c5e{n:Nat}{q:List PV}(h:Wy Tryz.prog n 27 q): ∃ l:List Lin,q=[enc l]:=by
 obtain⟨m,_,qs,e,_,g⟩:=WO a1g P5 h
 obtain⟨l,a⟩:=Kg (α:=Lin) (f:=QS Tryz.prog 87) fun x b=>b5t (g x b).2
 exact⟨l,by rw[e,a];rfl⟩
theorem Mf{n:Nat}{q:List PV}(h:Wy Tryz.prog n 31 q): ∃ l:List Str,q=[enc l]:=by
 obtain⟨m,_,qs,e,_,g⟩:=WO d8e Qg h
 obtain⟨l,a⟩:=Kg (α:=Str) (f:=QS Tryz.prog 9) fun x b=>by
  obtain⟨s,e,_⟩:=V4 Qd (g x b).2
  exact⟨⟨s⟩,by rw[QS,g5y,e];rfl⟩
 exact⟨l,by rw[e,a];rfl⟩
theorem b6w{n:Nat}{a b c:PV}(h:Wy Tryz.prog n 39 [a,b,c]): ∃ t:TyS,a = .str t.elem.s∧b = .str t.row.s∧c=enc t.dims:=by
 obtain⟨m,_,_,j,h1,_⟩:=XL c9z PZ h
 rw[Qg]at j
 rw[a3i]at h1
 obtain⟨q,k,_⟩:=V4 Qd j
 obtain⟨m1,_,_,g,i,_⟩:=XL d9j a3i h1
 rw[Qg]at g
 rw[a2z]at i
 obtain⟨r,e,_⟩:=V4 Qd g
 obtain⟨u,l⟩:=c5e i
 simp at k e l
 exact⟨⟨⟨q⟩,⟨r⟩,u⟩,k,e,l⟩
theorem e5a{n:Nat}{q:List PV}(h:Wy Tryz.prog n 61 q): ∃ p:Pm,QS Tryz.prog 61 q=enc p:=by
 obtain⟨m,_,k,j,h1,h2,_⟩:=XL c8u a0e h
 match q,k with
 | [a,b,c,d,e],_=>
  rw[Qg]at j
  rw[b6k]at h1
  rw[PZ]at h2
  obtain⟨r,g,_⟩:=V4 Qd j
  obtain⟨y,i⟩:=Fq b9b h1
  obtain⟨t,l,s,u⟩:=b6w (a:=c) (b:=d) (c:=e) h2
  simp at g i
  subst g i l s u
  exact⟨⟨⟨r⟩,y,t⟩,by rw[QS,f8d];rfl⟩
theorem e2w{n:Nat}{q:List PV}(h:Wy Tryz.prog n 41 q): ∃ d:Df,QS Tryz.prog 41 q=enc d:=by
 obtain⟨m,_,z,j,h1,h2,h3,l,u,_⟩:=XL c8x a4h h
 match q,z with
 | [a,b,c,d,e,f,g,x0,x1,x2,x3,x4,x5,x6,x7,x8,x9],_=>
  rw[Qg]at j
  rw[Cr]at h1
  rw[e0v]at h2
  rw[b6k]at h3
  rw[PZ]at l
  rw[RA]at u
  obtain⟨E,y,_⟩:=V4 Qd j
  obtain⟨J,s,_⟩:=QB Jr h1
  obtain⟨m2,_,qs,k,_,N⟩:=WO c7g a0e h2
  obtain⟨C,i⟩:=Kg (α:=Pm) (f:=QS Tryz.prog 61) fun x M=>e5a (N x M).2
  obtain⟨T,r⟩:=Fq b9b h3
  obtain⟨t,H,L,B⟩:=b6w (a:=e) (b:=f) (c:=g) l
  obtain⟨⟨nd,ks⟩,e7⟩:=e5s _ (q:=[x0,x1,x2,x3,x4,x5,x6,x7,x8,x9]) u
  rw[QS,d6q,Yl]at e7
  simp only[if_true,PV.agg.injEq,List.cons.injEq,and_true]at e7
  obtain⟨S,D,P,U,Q,O,F,A,I,K⟩:=e7
  simp at y s k r
  subst y s k r H L B S D P U Q O F A I K
  exact⟨⟨⟨E⟩,J,C,T,t,nd,ks⟩,by rw[QS,f6c,i];rfl⟩
theorem a0w{n:Nat}{q:List PV}(h:Wy Tryz.prog n 34 q)(hw:Y7 q<=1048576):preT (fun x:Mdu×Unit=>mW x.1) [QS Tryz.prog 34 q]=true:=by
 have g : ∃ m:Mdu,QS Tryz.prog 34 q=enc m:=by
  obtain⟨m,_,u,l,h1,h2,h3,_⟩:=XL d3n c9d h
  match q,u with
  | [a,b,c,d],_=>
   rw[Qg]at l
   rw[d0w]at h1 h2
   rw[d4i]at h3
   obtain⟨C,r,_⟩:=V4 Qd l
   obtain⟨y,k⟩:=Mf h1
   obtain⟨B,s⟩:=Mf h2
   obtain⟨m3,_,qs,j,_,A⟩:=WO d7m a4h h3
   obtain⟨D,i⟩:=Kg (α:=Df) (f:=QS Tryz.prog 41) fun x z=>e2w (A x z).2
   simp at r k s j
   subst r k s j
   exact⟨⟨⟨C⟩,y,B,D⟩,by rw[QS,c6o,i];rfl⟩
 obtain⟨m,e⟩:=g
 rw[e]
 refine Zc (m,()) rfl (decide_eq_true ?_)
 have h1:=g8i m
 have h2:BJ (QS Tryz.prog 34 q)<=Y7 q:=by simp only[QS,c6o];rw[BJ];exact Nat.le_refl _
 rw[e]at h2
 show wMd m<=1048576
 omega
end Go.Proofs.YtkpppjbhmmabeaaGreatDoor
namespace Go.Proofs.YtkpppjbhmmabeaaGreatDoor
open Go.Shelf
def Tryz.lays145_ren:Go.Shelf.Ren:=⟨fun|145=>171|220=>201|219=>222|217=>232|225=>233|224=>234|267=>235|266=>240|314=>241|n=>n,fun|9=>9|4=>4|59=>166|3=>3|5=>5|46=>152|146=>235|51=>177|n=>n,fun|1=>0|n=>n⟩
theorem Tryz.lays145:Go.Proofs.Lays.n145 Tryz.prog Tryz.lays145_ren:={
 mixed:=by kernel_rfl
 f145:=Tryz.func171.trans (congrArg some (by kernel_rfl))
 f217:=Tryz.func232.trans (congrArg some (by kernel_rfl))
 f219:=Tryz.func222.trans (congrArg some (by kernel_rfl))
 f220:=Tryz.func201.trans (congrArg some (by kernel_rfl))
 f224:=Tryz.func234.trans (congrArg some (by kernel_rfl))
 f225:=Tryz.func233.trans (congrArg some (by kernel_rfl))
 f266:=Tryz.func240.trans (congrArg some (by kernel_rfl))
 f267:=Tryz.func235.trans (congrArg some (by kernel_rfl))
 f314:=Tryz.func241.trans (congrArg some (by kernel_rfl))
 t3:=Tryz.underlying3
 a3:=Tryz.isAgg3
 z3:=Tryz.sizeOf3
 v3:=Tryz.zeroValue3
 t4:=Tryz.underlying4
 a4:=Tryz.isAgg4
 z4:=Tryz.sizeOf4
 v4:=Tryz.zeroValue4
 t5:=Tryz.underlying5
 a5:=Tryz.isAgg5
 z5:=Tryz.sizeOf5
 v5:=Tryz.zeroValue5
 t9:=Tryz.underlying9
 a9:=Tryz.isAgg9
 z9:=Tryz.sizeOf9
 v9:=Tryz.zeroValue9
 t46:=Tryz.underlying152
 a46:=Tryz.isAgg152
 z46:=Tryz.sizeOf152
 v46:=Tryz.zeroValue152
 t51:=Tryz.underlying177
 a51:=Tryz.isAgg177
 z51:=Tryz.sizeOf177
 v51:=Tryz.zeroValue177
 t59:=Tryz.underlying166
 a59:=Tryz.isAgg166
 z59:=Tryz.sizeOf166
 v59:=Tryz.zeroValue166
 t146:=Tryz.underlying235
 a146:=Tryz.isAgg235
 z146:=Tryz.sizeOf235
 v146:=Tryz.zeroValue235
 g1:=by kernel_rfl}
def Tryz.lays156_ren:Go.Shelf.Ren:=⟨fun|156=>19|165=>37|166=>38|169=>39|240=>67|241=>68|276=>103|277=>104|n=>n,fun|31=>31|9=>9|3=>3|4=>4|0=>0|20=>20|72=>74|76=>78|70=>71|37=>72|75=>77|127=>100|164=>130|5=>5|80=>80|n=>n,fun|n=>n⟩
theorem Tryz.lays156:Go.Proofs.Lays.n156 Tryz.prog Tryz.lays156_ren:={
 mixed:=by kernel_rfl
 f156:=Tryz.func19.trans (congrArg some (by kernel_rfl))
 f165:=Tryz.func37.trans (congrArg some (by kernel_rfl))
 f166:=Tryz.func38.trans (congrArg some (by kernel_rfl))
 f169:=Tryz.func39.trans (congrArg some (by kernel_rfl))
 f240:=Tryz.func67.trans (congrArg some (by kernel_rfl))
 f241:=Tryz.func68.trans (congrArg some (by kernel_rfl))
 f276:=Tryz.func103.trans (congrArg some (by kernel_rfl))
 f277:=Tryz.func104.trans (congrArg some (by kernel_rfl))
 t0:=Tryz.underlying0
 a0:=Tryz.isAgg0
 z0:=Tryz.sizeOf0
 v0:=Tryz.zeroValue0
 t3:=Tryz.underlying3
 a3:=Tryz.isAgg3
 z3:=Tryz.sizeOf3
 v3:=Tryz.zeroValue3
 t4:=Tryz.underlying4
 a4:=Tryz.isAgg4
 z4:=Tryz.sizeOf4
 v4:=Tryz.zeroValue4
 t9:=Tryz.underlying9
 a9:=Tryz.isAgg9
 z9:=Tryz.sizeOf9
 v9:=Tryz.zeroValue9
 t20:=Tryz.underlying20
 a20:=Tryz.isAgg20
 z20:=Tryz.sizeOf20
 v20:=Tryz.zeroValue20
 t31:=Tryz.underlying31
 a31:=Tryz.isAgg31
 z31:=Tryz.sizeOf31
 v31:=Tryz.zeroValue31
 t37:=Tryz.underlying72
 a37:=Tryz.isAgg72
 z37:=Tryz.sizeOf72
 v37:=Tryz.zeroValue72
 t70:=Tryz.underlying71
 a70:=Tryz.isAgg71
 z70:=Tryz.sizeOf71
 v70:=Tryz.zeroValue71
 t72:=Tryz.underlying74
 a72:=Tryz.isAgg74
 z72:=Tryz.sizeOf74
 v72:=Tryz.zeroValue74
 t75:=Tryz.underlying77
 a75:=Tryz.isAgg77
 z75:=Tryz.sizeOf77
 v75:=Tryz.zeroValue77
 t76:=Tryz.underlying78
 a76:=Tryz.isAgg78
 z76:=Tryz.sizeOf78
 v76:=Tryz.zeroValue78
 t127:=Tryz.underlying100
 a127:=Tryz.isAgg100
 z127:=Tryz.sizeOf100
 v127:=Tryz.zeroValue100
 t164:=Tryz.underlying130
 a164:=Tryz.isAgg130
 z164:=Tryz.sizeOf130
 v164:=Tryz.zeroValue130}
def Tryz.lays121_ren:Go.Shelf.Ren:=⟨fun|121=>88|214=>127|n=>n,fun|4=>4|9=>9|n=>n,fun|n=>n⟩
theorem Tryz.lays121:Go.Proofs.Lays.n121 Tryz.prog Tryz.lays121_ren:={
 mixed:=by kernel_rfl
 f121:=Tryz.func88.trans (congrArg some (by kernel_rfl))
 f214:=Tryz.func127.trans (congrArg some (by kernel_rfl))
 t4:=Tryz.underlying4
 a4:=Tryz.isAgg4
 z4:=Tryz.sizeOf4
 v4:=Tryz.zeroValue4
 t9:=Tryz.underlying9
 a9:=Tryz.isAgg9
 z9:=Tryz.sizeOf9
 v9:=Tryz.zeroValue9}
def Tryz.lays102_ren:Go.Shelf.Ren:=⟨fun|102=>93|209=>130|207=>153|n=>n,fun|9=>9|4=>4|3=>3|n=>n,fun|n=>n⟩
theorem Tryz.lays102:Go.Proofs.Lays.n102 Tryz.prog Tryz.lays102_ren:={
 mixed:=by kernel_rfl
 f102:=Tryz.func93.trans (congrArg some (by kernel_rfl))
 f207:=Tryz.func153.trans (congrArg some (by kernel_rfl))
 f209:=Tryz.func130.trans (congrArg some (by kernel_rfl))
 t3:=Tryz.underlying3
 a3:=Tryz.isAgg3
 z3:=Tryz.sizeOf3
 v3:=Tryz.zeroValue3
 t4:=Tryz.underlying4
 a4:=Tryz.isAgg4
 z4:=Tryz.sizeOf4
 v4:=Tryz.zeroValue4
 t9:=Tryz.underlying9
 a9:=Tryz.isAgg9
 z9:=Tryz.sizeOf9
 v9:=Tryz.zeroValue9}
def Tryz.lays288_ren:Go.Shelf.Ren:=⟨fun|288=>157|283=>183|284=>184|285=>185|286=>186|129=>182|317=>208|318=>209|319=>210|320=>211|337=>224|338=>225|n=>n,fun|37=>72|53=>159|3=>3|4=>4|9=>9|171=>179|0=>0|173=>181|212=>200|51=>177|5=>5|20=>20|213=>201|46=>152|232=>224|233=>225|n=>n,fun|17=>1|18=>4|19=>5|n=>n⟩
theorem Tryz.lays288:Go.Proofs.LaysM.n288 Tryz.prog Tryz.lays288_ren:={
 mixed:=by kernel_rfl
 f129:=Tryz.func182.trans (congrArg some (by kernel_rfl))
 f283:=Tryz.func183.trans (congrArg some (by kernel_rfl))
 f284:=Tryz.func184.trans (congrArg some (by kernel_rfl))
 f285:=Tryz.func185.trans (congrArg some (by kernel_rfl))
 f286:=Tryz.func186.trans (congrArg some (by kernel_rfl))
 f288:=Tryz.func157.trans (congrArg some (by kernel_rfl))
 f317:=Tryz.func208.trans (congrArg some (by kernel_rfl))
 f318:=Tryz.func209.trans (congrArg some (by kernel_rfl))
 f319:=Tryz.func210.trans (congrArg some (by kernel_rfl))
 f320:=Tryz.func211.trans (congrArg some (by kernel_rfl))
 f337:=Tryz.func224.trans (congrArg some (by kernel_rfl))
 f338:=Tryz.func225.trans (congrArg some (by kernel_rfl))
 t0:=Tryz.underlying0
 a0:=Tryz.isAgg0
 z0:=Tryz.sizeOf0
 v0:=Tryz.zeroValue0
 t3:=Tryz.underlying3
 a3:=Tryz.isAgg3
 z3:=Tryz.sizeOf3
 v3:=Tryz.zeroValue3
 t4:=Tryz.underlying4
 a4:=Tryz.isAgg4
 z4:=Tryz.sizeOf4
 v4:=Tryz.zeroValue4
 t5:=Tryz.underlying5
 a5:=Tryz.isAgg5
 z5:=Tryz.sizeOf5
 v5:=Tryz.zeroValue5
 t9:=Tryz.underlying9
 a9:=Tryz.isAgg9
 z9:=Tryz.sizeOf9
 v9:=Tryz.zeroValue9
 t20:=Tryz.underlying20
 a20:=Tryz.isAgg20
 z20:=Tryz.sizeOf20
 v20:=Tryz.zeroValue20
 t37:=Tryz.underlying72
 a37:=Tryz.isAgg72
 z37:=Tryz.sizeOf72
 v37:=Tryz.zeroValue72
 t46:=Tryz.underlying152
 a46:=Tryz.isAgg152
 z46:=Tryz.sizeOf152
 v46:=Tryz.zeroValue152
 t51:=Tryz.underlying177
 a51:=Tryz.isAgg177
 z51:=Tryz.sizeOf177
 v51:=Tryz.zeroValue177
 t53:=Tryz.underlying159
 a53:=Tryz.isAgg159
 z53:=Tryz.sizeOf159
 v53:=Tryz.zeroValue159
 t171:=Tryz.underlying179
 a171:=Tryz.isAgg179
 z171:=Tryz.sizeOf179
 v171:=Tryz.zeroValue179
 t173:=Tryz.underlying181
 a173:=Tryz.isAgg181
 z173:=Tryz.sizeOf181
 v173:=Tryz.zeroValue181
 t212:=Tryz.underlying200
 a212:=Tryz.isAgg200
 z212:=Tryz.sizeOf200
 v212:=Tryz.zeroValue200
 t213:=Tryz.underlying201
 a213:=Tryz.isAgg201
 z213:=Tryz.sizeOf201
 t232:=Tryz.underlying224
 a232:=Tryz.isAgg224
 z232:=Tryz.sizeOf224
 v232:=Tryz.zeroValue224
 t233:=Tryz.underlying225
 a233:=Tryz.isAgg225
 z233:=Tryz.sizeOf225
 v233:=Tryz.zeroValue225
 g17:=by kernel_rfl
 g18:=by kernel_rfl
 g19:=by kernel_rfl
 i0:=by kernel_rfl
 i3:=by kernel_rfl
 i4:=by kernel_rfl
 i5:=by kernel_rfl
 i9:=by kernel_rfl
 i20:=by kernel_rfl
 i37:=by kernel_rfl
 i46:=by kernel_rfl
 i51:=by kernel_rfl
 i53:=by kernel_rfl
 i171:=by kernel_rfl
 i173:=by kernel_rfl
 i212:=by kernel_rfl
 i232:=by kernel_rfl
 i233:=by kernel_rfl
 m17:=by kernel_rfl
 m18:=by kernel_rfl
 m19:=by kernel_rfl}
def Tryz.lays172_ren:Go.Shelf.Ren:=⟨fun|172=>152|244=>188|245=>189|247=>212|279=>213|280=>214|281=>215|282=>216|287=>226|316=>227|171=>87|205=>228|321=>236|322=>237|243=>126|246=>150|283=>183|284=>184|285=>185|286=>186|129=>182|317=>208|318=>209|319=>210|320=>211|337=>224|338=>225|n=>n,fun|9=>9|3=>3|75=>77|76=>78|4=>4|5=>5|167=>202|37=>72|0=>0|85=>203|2=>2|168=>205|53=>159|175=>216|46=>152|210=>220|127=>100|145=>229|143=>227|21=>21|171=>179|173=>181|212=>200|51=>177|20=>20|213=>201|232=>224|233=>225|80=>80|n=>n,fun|15=>2|16=>3|17=>1|18=>4|19=>5|n=>n⟩
theorem Tryz.lays172:Go.Proofs.LaysC.n172 Tryz.prog Tryz.lays172_ren:={
 mixed:=by kernel_rfl
 f129:=Tryz.func182.trans (congrArg some (by kernel_rfl))
 f171:=Tryz.func87.trans (congrArg some (by kernel_rfl))
 f172:=Tryz.func152.trans (congrArg some (by kernel_rfl))
 f205:=Tryz.func228.trans (congrArg some (by kernel_rfl))
 f243:=Tryz.func126.trans (congrArg some (by kernel_rfl))
 f244:=Tryz.func188.trans (congrArg some (by kernel_rfl))
 f245:=Tryz.func189.trans (congrArg some (by kernel_rfl))
 f246:=Tryz.func150.trans (congrArg some (by kernel_rfl))
 f247:=Tryz.func212.trans (congrArg some (by kernel_rfl))
 f279:=Tryz.func213.trans (congrArg some (by kernel_rfl))
 f280:=Tryz.func214.trans (congrArg some (by kernel_rfl))
 f281:=Tryz.func215.trans (congrArg some (by kernel_rfl))
 f282:=Tryz.func216.trans (congrArg some (by kernel_rfl))
 f283:=Tryz.func183.trans (congrArg some (by kernel_rfl))
 f284:=Tryz.func184.trans (congrArg some (by kernel_rfl))
 f285:=Tryz.func185.trans (congrArg some (by kernel_rfl))
 f286:=Tryz.func186.trans (congrArg some (by kernel_rfl))
 f287:=Tryz.func226.trans (congrArg some (by kernel_rfl))
 f316:=Tryz.func227.trans (congrArg some (by kernel_rfl))
 f317:=Tryz.func208.trans (congrArg some (by kernel_rfl))
 f318:=Tryz.func209.trans (congrArg some (by kernel_rfl))
 f319:=Tryz.func210.trans (congrArg some (by kernel_rfl))
 f320:=Tryz.func211.trans (congrArg some (by kernel_rfl))
 f321:=Tryz.func236.trans (congrArg some (by kernel_rfl))
 f322:=Tryz.func237.trans (congrArg some (by kernel_rfl))
 f337:=Tryz.func224.trans (congrArg some (by kernel_rfl))
 f338:=Tryz.func225.trans (congrArg some (by kernel_rfl))
 t0:=Tryz.underlying0
 a0:=Tryz.isAgg0
 z0:=Tryz.sizeOf0
 v0:=Tryz.zeroValue0
 t2:=Tryz.underlying2
 a2:=Tryz.isAgg2
 z2:=Tryz.sizeOf2
 v2:=Tryz.zeroValue2
 t3:=Tryz.underlying3
 a3:=Tryz.isAgg3
 z3:=Tryz.sizeOf3
 v3:=Tryz.zeroValue3
 t4:=Tryz.underlying4
 a4:=Tryz.isAgg4
 z4:=Tryz.sizeOf4
 v4:=Tryz.zeroValue4
 t5:=Tryz.underlying5
 a5:=Tryz.isAgg5
 z5:=Tryz.sizeOf5
 v5:=Tryz.zeroValue5
 t9:=Tryz.underlying9
 a9:=Tryz.isAgg9
 z9:=Tryz.sizeOf9
 v9:=Tryz.zeroValue9
 t20:=Tryz.underlying20
 a20:=Tryz.isAgg20
 z20:=Tryz.sizeOf20
 v20:=Tryz.zeroValue20
 t21:=Tryz.underlying21
 a21:=Tryz.isAgg21
 z21:=Tryz.sizeOf21
 v21:=Tryz.zeroValue21
 t37:=Tryz.underlying72
 a37:=Tryz.isAgg72
 z37:=Tryz.sizeOf72
 v37:=Tryz.zeroValue72
 t46:=Tryz.underlying152
 a46:=Tryz.isAgg152
 z46:=Tryz.sizeOf152
 v46:=Tryz.zeroValue152
 t51:=Tryz.underlying177
 a51:=Tryz.isAgg177
 z51:=Tryz.sizeOf177
 v51:=Tryz.zeroValue177
 t53:=Tryz.underlying159
 a53:=Tryz.isAgg159
 z53:=Tryz.sizeOf159
 v53:=Tryz.zeroValue159
 t75:=Tryz.underlying77
 a75:=Tryz.isAgg77
 z75:=Tryz.sizeOf77
 v75:=Tryz.zeroValue77
 t76:=Tryz.underlying78
 a76:=Tryz.isAgg78
 z76:=Tryz.sizeOf78
 v76:=Tryz.zeroValue78
 t85:=Tryz.underlying203
 a85:=Tryz.isAgg203
 z85:=Tryz.sizeOf203
 v85:=Tryz.zeroValue203
 t127:=Tryz.underlying100
 a127:=Tryz.isAgg100
 z127:=Tryz.sizeOf100
 v127:=Tryz.zeroValue100
 t143:=Tryz.underlying227
 a143:=Tryz.isAgg227
 z143:=Tryz.sizeOf227
 v143:=Tryz.zeroValue227
 t145:=Tryz.underlying229
 a145:=Tryz.isAgg229
 z145:=Tryz.sizeOf229
 v145:=Tryz.zeroValue229
 t167:=Tryz.underlying202
 a167:=Tryz.isAgg202
 z167:=Tryz.sizeOf202
 v167:=Tryz.zeroValue202
 t168:=Tryz.underlying205
 a168:=Tryz.isAgg205
 z168:=Tryz.sizeOf205
 v168:=Tryz.zeroValue205
 t171:=Tryz.underlying179
 a171:=Tryz.isAgg179
 z171:=Tryz.sizeOf179
 v171:=Tryz.zeroValue179
 t173:=Tryz.underlying181
 a173:=Tryz.isAgg181
 z173:=Tryz.sizeOf181
 v173:=Tryz.zeroValue181
 t175:=Tryz.underlying216
 a175:=Tryz.isAgg216
 z175:=Tryz.sizeOf216
 v175:=Tryz.zeroValue216
 t210:=Tryz.underlying220
 a210:=Tryz.isAgg220
 z210:=Tryz.sizeOf220
 v210:=Tryz.zeroValue220
 t212:=Tryz.underlying200
 a212:=Tryz.isAgg200
 z212:=Tryz.sizeOf200
 v212:=Tryz.zeroValue200
 t213:=Tryz.underlying201
 a213:=Tryz.isAgg201
 z213:=Tryz.sizeOf201
 t232:=Tryz.underlying224
 a232:=Tryz.isAgg224
 z232:=Tryz.sizeOf224
 v232:=Tryz.zeroValue224
 t233:=Tryz.underlying225
 a233:=Tryz.isAgg225
 z233:=Tryz.sizeOf225
 v233:=Tryz.zeroValue225
 g15:=by kernel_rfl
 g16:=by kernel_rfl
 g17:=by kernel_rfl
 g18:=by kernel_rfl
 g19:=by kernel_rfl
 t80:=Tryz.underlying80
 a80:=Tryz.isAgg80
 z80:=Tryz.sizeOf80
 v80:=Tryz.zeroValue80
 i0:=by kernel_rfl
 i2:=by kernel_rfl
 i3:=by kernel_rfl
 i4:=by kernel_rfl
 i5:=by kernel_rfl
 i9:=by kernel_rfl
 i20:=by kernel_rfl
 i21:=by kernel_rfl
 i37:=by kernel_rfl
 i46:=by kernel_rfl
 i51:=by kernel_rfl
 i53:=by kernel_rfl
 i75:=by kernel_rfl
 i76:=by kernel_rfl
 i80:=by kernel_rfl
 i85:=by kernel_rfl
 i127:=by kernel_rfl
 i143:=by kernel_rfl
 i145:=by kernel_rfl
 i167:=by kernel_rfl
 i168:=by kernel_rfl
 i171:=by kernel_rfl
 i173:=by kernel_rfl
 i175:=by kernel_rfl
 i210:=by kernel_rfl
 i212:=by kernel_rfl
 i232:=by kernel_rfl
 i233:=by kernel_rfl
 m15:=by kernel_rfl
 m16:=by kernel_rfl
 m17:=by kernel_rfl
 m18:=by kernel_rfl
 m19:=by kernel_rfl
 c0:=by kernel_rfl
 c2:=by kernel_rfl
 c3:=by kernel_rfl
 c4:=by kernel_rfl
 c5:=by kernel_rfl
 c9:=by kernel_rfl
 c20:=by kernel_rfl
 c21:=by kernel_rfl
 c37:=by kernel_rfl
 c46:=by kernel_rfl
 c51:=by kernel_rfl
 c53:=by kernel_rfl
 c75:=by kernel_rfl
 c76:=by kernel_rfl
 c80:=by kernel_rfl
 c85:=by kernel_rfl
 c127:=by kernel_rfl
 c143:=by kernel_rfl
 c145:=by kernel_rfl
 c167:=by kernel_rfl
 c168:=by kernel_rfl
 c171:=by kernel_rfl
 c173:=by kernel_rfl
 c175:=by kernel_rfl
 c210:=by kernel_rfl
 c212:=by kernel_rfl
 c213:=by kernel_rfl
 c232:=by kernel_rfl
 c233:=by kernel_rfl}
def Tryz.lays171_ren:Go.Shelf.Ren:=⟨fun|171=>87|243=>126|246=>150|283=>183|284=>184|285=>185|286=>186|129=>182|317=>208|318=>209|319=>210|320=>211|337=>224|338=>225|n=>n,fun|3=>3|9=>9|2=>2|4=>4|171=>179|0=>0|53=>159|37=>72|5=>5|173=>181|212=>200|51=>177|20=>20|213=>201|46=>152|232=>224|233=>225|n=>n,fun|17=>1|18=>4|19=>5|n=>n⟩
theorem Tryz.lays171:Go.Proofs.LaysM.n171 Tryz.prog Tryz.lays171_ren:={
 mixed:=by kernel_rfl
 f129:=Tryz.func182.trans (congrArg some (by kernel_rfl))
 f171:=Tryz.func87.trans (congrArg some (by kernel_rfl))
 f243:=Tryz.func126.trans (congrArg some (by kernel_rfl))
 f246:=Tryz.func150.trans (congrArg some (by kernel_rfl))
 f283:=Tryz.func183.trans (congrArg some (by kernel_rfl))
 f284:=Tryz.func184.trans (congrArg some (by kernel_rfl))
 f285:=Tryz.func185.trans (congrArg some (by kernel_rfl))
 f286:=Tryz.func186.trans (congrArg some (by kernel_rfl))
 f317:=Tryz.func208.trans (congrArg some (by kernel_rfl))
 f318:=Tryz.func209.trans (congrArg some (by kernel_rfl))
 f319:=Tryz.func210.trans (congrArg some (by kernel_rfl))
 f320:=Tryz.func211.trans (congrArg some (by kernel_rfl))
 f337:=Tryz.func224.trans (congrArg some (by kernel_rfl))
 f338:=Tryz.func225.trans (congrArg some (by kernel_rfl))
 t0:=Tryz.underlying0
 a0:=Tryz.isAgg0
 z0:=Tryz.sizeOf0
 v0:=Tryz.zeroValue0
 t2:=Tryz.underlying2
 a2:=Tryz.isAgg2
 z2:=Tryz.sizeOf2
 v2:=Tryz.zeroValue2
 t3:=Tryz.underlying3
 a3:=Tryz.isAgg3
 z3:=Tryz.sizeOf3
 v3:=Tryz.zeroValue3
 t4:=Tryz.underlying4
 a4:=Tryz.isAgg4
 z4:=Tryz.sizeOf4
 v4:=Tryz.zeroValue4
 t5:=Tryz.underlying5
 a5:=Tryz.isAgg5
 z5:=Tryz.sizeOf5
 v5:=Tryz.zeroValue5
 t9:=Tryz.underlying9
 a9:=Tryz.isAgg9
 z9:=Tryz.sizeOf9
 v9:=Tryz.zeroValue9
 t20:=Tryz.underlying20
 a20:=Tryz.isAgg20
 z20:=Tryz.sizeOf20
 v20:=Tryz.zeroValue20
 t37:=Tryz.underlying72
 a37:=Tryz.isAgg72
 z37:=Tryz.sizeOf72
 v37:=Tryz.zeroValue72
 t46:=Tryz.underlying152
 a46:=Tryz.isAgg152
 z46:=Tryz.sizeOf152
 v46:=Tryz.zeroValue152
 t51:=Tryz.underlying177
 a51:=Tryz.isAgg177
 z51:=Tryz.sizeOf177
 v51:=Tryz.zeroValue177
 t53:=Tryz.underlying159
 a53:=Tryz.isAgg159
 z53:=Tryz.sizeOf159
 v53:=Tryz.zeroValue159
 t171:=Tryz.underlying179
 a171:=Tryz.isAgg179
 z171:=Tryz.sizeOf179
 v171:=Tryz.zeroValue179
 t173:=Tryz.underlying181
 a173:=Tryz.isAgg181
 z173:=Tryz.sizeOf181
 v173:=Tryz.zeroValue181
 t212:=Tryz.underlying200
 a212:=Tryz.isAgg200
 z212:=Tryz.sizeOf200
 v212:=Tryz.zeroValue200
 t213:=Tryz.underlying201
 a213:=Tryz.isAgg201
 z213:=Tryz.sizeOf201
 t232:=Tryz.underlying224
 a232:=Tryz.isAgg224
 z232:=Tryz.sizeOf224
 v232:=Tryz.zeroValue224
 t233:=Tryz.underlying225
 a233:=Tryz.isAgg225
 z233:=Tryz.sizeOf225
 v233:=Tryz.zeroValue225
 g17:=by kernel_rfl
 g18:=by kernel_rfl
 g19:=by kernel_rfl
 i0:=by kernel_rfl
 i2:=by kernel_rfl
 i3:=by kernel_rfl
 i4:=by kernel_rfl
 i5:=by kernel_rfl
 i9:=by kernel_rfl
 i20:=by kernel_rfl
 i37:=by kernel_rfl
 i46:=by kernel_rfl
 i51:=by kernel_rfl
 i53:=by kernel_rfl
 i171:=by kernel_rfl
 i173:=by kernel_rfl
 i212:=by kernel_rfl
 i232:=by kernel_rfl
 i233:=by kernel_rfl
 m17:=by kernel_rfl
 m18:=by kernel_rfl
 m19:=by kernel_rfl}
def Tryz.lays99_ren:Go.Shelf.Ren:=⟨fun|99=>151|206=>187|n=>n,fun|9=>9|4=>4|3=>3|n=>n,fun|n=>n⟩
theorem Tryz.lays99:Go.Proofs.Lays.n99 Tryz.prog Tryz.lays99_ren:={
 mixed:=by kernel_rfl
 f99:=Tryz.func151.trans (congrArg some (by kernel_rfl))
 f206:=Tryz.func187.trans (congrArg some (by kernel_rfl))
 t3:=Tryz.underlying3
 a3:=Tryz.isAgg3
 z3:=Tryz.sizeOf3
 v3:=Tryz.zeroValue3
 t4:=Tryz.underlying4
 a4:=Tryz.isAgg4
 z4:=Tryz.sizeOf4
 v4:=Tryz.zeroValue4
 t9:=Tryz.underlying9
 a9:=Tryz.isAgg9
 z9:=Tryz.sizeOf9
 v9:=Tryz.zeroValue9}
def Tryz.lays190_ren:Go.Shelf.Ren:=⟨fun|190=>123|125=>149|258=>148|128=>181|129=>182|302=>172|303=>173|304=>174|305=>175|306=>176|307=>177|308=>178|309=>179|310=>180|333=>202|329=>203|330=>204|334=>205|335=>206|336=>207|344=>223|n=>n,fun|31=>31|9=>9|3=>3|46=>152|0=>0|51=>177|53=>159|4=>4|183=>170|182=>169|131=>174|5=>5|218=>192|222=>196|228=>213|229=>214|n=>n,fun|n=>n⟩
theorem Tryz.lays190:Go.Proofs.Lays.n190 Tryz.prog Tryz.lays190_ren:={
 mixed:=by kernel_rfl
 f125:=Tryz.func149.trans (congrArg some (by kernel_rfl))
 f128:=Tryz.func181.trans (congrArg some (by kernel_rfl))
 f129:=Tryz.func182.trans (congrArg some (by kernel_rfl))
 f190:=Tryz.func123.trans (congrArg some (by kernel_rfl))
 f258:=Tryz.func148.trans (congrArg some (by kernel_rfl))
 f302:=Tryz.func172.trans (congrArg some (by kernel_rfl))
 f303:=Tryz.func173.trans (congrArg some (by kernel_rfl))
 f304:=Tryz.func174.trans (congrArg some (by kernel_rfl))
 f305:=Tryz.func175.trans (congrArg some (by kernel_rfl))
 f306:=Tryz.func176.trans (congrArg some (by kernel_rfl))
 f307:=Tryz.func177.trans (congrArg some (by kernel_rfl))
 f308:=Tryz.func178.trans (congrArg some (by kernel_rfl))
 f309:=Tryz.func179.trans (congrArg some (by kernel_rfl))
 f310:=Tryz.func180.trans (congrArg some (by kernel_rfl))
 f329:=Tryz.func203.trans (congrArg some (by kernel_rfl))
 f330:=Tryz.func204.trans (congrArg some (by kernel_rfl))
 f333:=Tryz.func202.trans (congrArg some (by kernel_rfl))
 f334:=Tryz.func205.trans (congrArg some (by kernel_rfl))
 f335:=Tryz.func206.trans (congrArg some (by kernel_rfl))
 f336:=Tryz.func207.trans (congrArg some (by kernel_rfl))
 f344:=Tryz.func223.trans (congrArg some (by kernel_rfl))
 t0:=Tryz.underlying0
 a0:=Tryz.isAgg0
 z0:=Tryz.sizeOf0
 v0:=Tryz.zeroValue0
 t3:=Tryz.underlying3
 a3:=Tryz.isAgg3
 z3:=Tryz.sizeOf3
 v3:=Tryz.zeroValue3
 t4:=Tryz.underlying4
 a4:=Tryz.isAgg4
 z4:=Tryz.sizeOf4
 v4:=Tryz.zeroValue4
 t5:=Tryz.underlying5
 a5:=Tryz.isAgg5
 z5:=Tryz.sizeOf5
 v5:=Tryz.zeroValue5
 t9:=Tryz.underlying9
 a9:=Tryz.isAgg9
 z9:=Tryz.sizeOf9
 v9:=Tryz.zeroValue9
 t31:=Tryz.underlying31
 a31:=Tryz.isAgg31
 z31:=Tryz.sizeOf31
 v31:=Tryz.zeroValue31
 t46:=Tryz.underlying152
 a46:=Tryz.isAgg152
 z46:=Tryz.sizeOf152
 v46:=Tryz.zeroValue152
 t51:=Tryz.underlying177
 a51:=Tryz.isAgg177
 z51:=Tryz.sizeOf177
 v51:=Tryz.zeroValue177
 t53:=Tryz.underlying159
 a53:=Tryz.isAgg159
 z53:=Tryz.sizeOf159
 v53:=Tryz.zeroValue159
 t131:=Tryz.underlying174
 a131:=Tryz.isAgg174
 z131:=Tryz.sizeOf174
 v131:=Tryz.zeroValue174
 t182:=Tryz.underlying169
 a182:=Tryz.isAgg169
 z182:=Tryz.sizeOf169
 v182:=Tryz.zeroValue169
 t183:=Tryz.underlying170
 a183:=Tryz.isAgg170
 z183:=Tryz.sizeOf170
 v183:=Tryz.zeroValue170
 t218:=Tryz.underlying192
 a218:=Tryz.isAgg192
 z218:=Tryz.sizeOf192
 v218:=Tryz.zeroValue192
 t222:=Tryz.underlying196
 a222:=Tryz.isAgg196
 z222:=Tryz.sizeOf196
 v222:=Tryz.zeroValue196
 t228:=Tryz.underlying213
 a228:=Tryz.isAgg213
 z228:=Tryz.sizeOf213
 v228:=Tryz.zeroValue213
 t229:=Tryz.underlying214
 a229:=Tryz.isAgg214
 z229:=Tryz.sizeOf214
 v229:=Tryz.zeroValue214}
end Go.Proofs.YtkpppjbhmmabeaaGreatDoor
namespace Go.Proofs.YtkpppjbhmmabeaaGreatDoor
open Go.Pl Go.RowKit
open Enc (enc dec is)
open EncL (encL decL isL)
set_option maxRecDepth 100000
theorem Dp:Zo Tryz.prog 151 (fun _:Str×Str×Unit=>true) (fun x:Str×Str×Unit=>x.2.1.s.isPrefixOf x.1.s):=YR (by
  rintro⟨⟨s⟩,⟨p⟩,⟨⟩⟩ hps Φ w vs hL hΦ hv
  obtain⟨u,v,rfl,h1,h2⟩:=c5c hv
  rw[V5 h1,V5 h2]
  refine(Any.strings_HasPrefix Tryz.lays99 ⟨s.toArray⟩ ⟨p.toArray⟩ w).mono ?_
  rintro e w' ⟨rfl,rfl⟩
  exact⟨_,rfl,.bool _,.refl _ _⟩)
theorem d0s:Zo Tryz.prog 152 (fun x:Str×Unit=>decide (x.1.s.length<=1000000)) (fun x:Str×Unit=>YO x.1):=YR (by
  rintro⟨⟨s⟩,⟨⟩⟩ hps Φ w vs hL hΦ a
  have hs:s.length<=1000000:=by simpa using hps
  obtain⟨v,rfl,h1⟩:=e5w a
  rw[V5 h1]
  have i:(⟨s.toArray⟩:ByteArray).size=s.length:=rfl
  cases h:Lib.atoiAll s
  ·rename_i n
   have k:YO ⟨s⟩=(n,⟨false⟩):=by simp only[YO,h]
   rw[k]
   refine(Any.strconv_Atoi_ok Tryz.lays172 ⟨s.toArray⟩ (by rw[i];omega) n h w).mono ?_
   rintro e w' ⟨rfl,m⟩
   refine⟨_,rfl,.tup _ _ rfl ?_,?_⟩
   ·intro j v x a b
    match j with
    | 0=>cases a;cases b;exact .int _ _
    | 1=>cases a;cases b;exact .nili
    | j+2=>simp at a
   ·rcases m with rfl|⟨t,rfl⟩
    ·exact .refl _ _
    ·exact Tg _ _ 0 _
  ·skip
   have k:YO ⟨s⟩=(0,⟨true⟩):=by simp only[YO,h]
   rw[k]
   obtain⟨cs,hc,ev,l,g⟩:=hL.syn
   refine(Any.strconv_Atoi_syntax Tryz.lays172 ⟨s.toArray⟩ (by rw[i];omega) h ev w (Jb hΦ hc l) g).mono ?_
   rintro e w' ⟨N,rfl,_,_,hb⟩
   refine⟨_,rfl,.tup _ _ rfl ?_,hb⟩
   intro j v x a b
   match j with
   | 0=>cases a;cases b;exact .int _ _
   | 1=>cases a;cases b;exact .ifc _ _
   | j+2=>simp at a
  ·skip
   have k:YO ⟨s⟩=(Lib.atoiSat s,⟨true⟩):=by simp only[YO,h]
   rw[k]
   obtain⟨cs,hc,ev,l,g⟩:=hL.rng
   refine(Any.strconv_Atoi_range Tryz.lays172 ⟨s.toArray⟩ (by rw[i];omega) h ev w (Jb hΦ hc l) g).mono ?_
   rintro e w' ⟨N,rfl,_,_,hb⟩
   refine⟨_,rfl,.tup _ _ rfl ?_,hb⟩
   intro j v x a b
   match j with
   | 0=>cases a;cases b;exact .int _ _
   | 1=>cases a;cases b;exact .ifc _ _
   | j+2=>simp at a)
theorem K9:Zo Tryz.prog 87 (fun x:Int×Unit=>decide (-9223372036854775808<=x.1)&&decide (x.1<=9223372036854775807)) (fun x:Int×Unit=>Zq x.1):=YR (by
  rintro⟨n,⟨⟩⟩ hps Φ w vs hL hΦ hv
  obtain⟨v,rfl,h1⟩:=e5w hv
  have h1:RP Φ v (.int .i64 n):=h1
  rw[g0z h1]
  have hn : -9223372036854775808<=n∧n<=9223372036854775807:=by simpa using hps
  have hg:=hL.pow
  obtain⟨T,fz,hh⟩:=hΦ _ _ hg
  refine(Any.strconv_Itoa Tryz.lays171 n hn.1 hn.2 w ?_).mono ?_
  ·unfold Lib.TabIs World.var?
   rw[show Program.globalNamed Tryz.prog "internal/strconv.uint64pow10" = some 1 by kernel_rfl]
   simp only[Option.bind_some,hh]
   rfl
  ·rintro e w' ⟨rfl,k,os,rfl⟩
   refine⟨_,rfl,.str _,?_⟩
   exact⟨rfl,rfl,rfl,by show w.heap.size<=(w.heap++os).size;simp,fun j hj=>by show(w.heap++os)[j]? = _;rw[Array.getElem?_append_left hj]⟩)
end Go.Proofs.YtkpppjbhmmabeaaGreatDoor
namespace Go.Proofs.YtkpppjbhmmabeaaGreatDoor
open Go.Pl Go.RowKit
open Enc (enc dec is)
open EncL (encL decL isL)
set_option maxRecDepth 100000
theorem f0y: ∀ s:List UInt8,((s.dropWhile fun c=>c != 46)=[]->Lib.index s [46] = -1) ∧
  ∀ (c:UInt8) (r:List UInt8),(s.dropWhile fun c=>c != 46)=c::r->Lib.index s [46]=((s.takeWhile fun c=>c != 46).length:Nat)∧s.drop ((s.takeWhile fun c=>c != 46).length+1)=r∧s.take (s.takeWhile fun c=>c != 46).length=s.takeWhile fun c=>c != 46
 | []=>⟨fun _=>rfl,fun _ _ h=>by cases h⟩
 | b::l=>by
  obtain⟨h1,h2⟩:=f0y l
  by_cases hb:b=46
  ·subst hb
   refine⟨fun h=>by simp at h,fun c r h=> ?_⟩
   have h:(46:UInt8)::l=c::r:=by simpa using h
   cases h
   exact⟨rfl,rfl,rfl⟩
  ·have a:(b != 46)=true:=by simpa using hb
   have m:([46]:List UInt8).isPrefixOf (b::l)=false:=by simp[List.isPrefixOf];exact fun e=>hb e.symm
   have g:Lib.index (b::l) [46]=if Lib.index l [46] == -1 then -1 else Lib.index l [46]+1:=by rw[Lib.index,m];rfl
   rw[List.dropWhile_cons,if_pos a,List.takeWhile_cons,if_pos a]
   refine⟨fun h=>by rw[g,h1 h];rfl,fun c r h=> ?_⟩
   obtain⟨j,i,k⟩:=h2 c r h
   rw[g,j]
   refine⟨?_,?_,?_⟩
   ·rw[if_neg (by simp),List.length_cons];rfl
   ·rw[List.length_cons,List.drop_succ_cons];exact i
   ·rw[List.length_cons,List.take_succ_cons,k]
theorem e6a(s:List UInt8):Lib.cut s [46]=((U9 ⟨s⟩).a.s,(U9 ⟨s⟩).b.s,(U9 ⟨s⟩).c):=by
 obtain⟨h1,h2⟩:=f0y s
 unfold Lib.cut U9
 cases hd:s.dropWhile fun c=>c != 46 with
 | nil=>
  rw[h1 hd]
  rfl
 | cons c r=>
  obtain⟨g,e,h⟩:=h2 c r hd
  rw[g,if_pos (by omega),Int.toNat_natCast,h]
  show(_,s.drop ((s.takeWhile fun c=>c != 46).length+1),true)=_
  rw[e]
theorem e1h:Zo Tryz.prog 171 (fun x:Str×Str×Unit=>decide (x.1.s.length<=1048576)&&decide (x.2.1.s=[46])) (fun x:Str×Str×Unit=>U9 x.1):=YR (by
  rintro⟨⟨s⟩,⟨p⟩,⟨⟩⟩ hps Φ w vs hL hΦ a
  simp only[Bool.and_eq_true,decide_eq_true_eq]at hps
  obtain⟨hs,g⟩:=hps
  have g:p=[46]:=g
  subst g
  obtain⟨u,v,rfl,h1,h2⟩:=c5c a
  rw[V5 h1,V5 h2]
  obtain⟨cs,m,hc,hm⟩:=hL.mx
  have h:(⟨s.toArray⟩:ByteArray).size=s.length:=rfl
  refine(Any.strings_Cut Tryz.lays145 ⟨s.toArray⟩ ⟨#[46]⟩ m w (by rw[h];have hs:s.length<=1048576:=hs;omega) (Jb hΦ hc hm)).mono ?_
  rintro e w' ⟨rfl,k,rfl⟩
  refine⟨_,rfl,.tup _ _ rfl ?_,?_⟩
  ·rw[show(⟨s.toArray⟩:ByteArray).data.toList=s from rfl,show(⟨#[46]⟩:ByteArray).data.toList=[46]from rfl,e6a]
   intro j v x a b
   match j with
   | 0=>cases a;cases b;exact .str _
   | 1=>cases a;cases b;exact .str _
   | 2=>cases a;cases b;exact .bool _
   | j+3=>simp at a
  ·exact⟨rfl,rfl,rfl,Nat.le_refl _,fun _ _=>rfl⟩)
theorem c4x:Lib.formatBool true=[116,114,117,101]:=by decide
theorem b0n:Lib.formatBool false=[102,97,108,115,101]:=by decide
theorem f6f:Zo Tryz.prog 88 (fun _:Bool×Unit=>true) (fun x:Bool×Unit=>e7m x.1):=YR (by
  rintro⟨b,⟨⟩⟩ _ Φ w vs hL hΦ hv
  obtain⟨v,rfl,h1⟩:=e5w hv
  have h1:RP Φ v (.bool b):=h1
  cases h1
  refine(Any.strconv_FormatBool Tryz.lays121 b w).mono ?_
  rintro e w' ⟨rfl,rfl⟩
  refine⟨_,rfl,?_,.refl _ _⟩
  cases b
  ·rw[b0n];exact .str _
  ·rw[c4x];exact .str _)
theorem R5:Zo Tryz.prog 93 (fun x:Str×Str×Unit=>decide (x.1.s.length<=1000000)) (fun x:Str×Str×Unit=>(⟨Lib.trimSuffix x.1.s x.2.1.s⟩:Str)):=YR (by
  rintro⟨⟨s⟩,⟨p⟩,⟨⟩⟩ hps Φ w vs hL hΦ hv
  have hs:s.length<=1000000:=by simpa using hps
  obtain⟨u,v,rfl,h1,h2⟩:=c5c hv
  rw[V5 h1,V5 h2]
  have a:(⟨s.toArray⟩:ByteArray).size=s.length:=rfl
  refine(Any.strings_TrimSuffix Tryz.lays102 ⟨s.toArray⟩ ⟨p.toArray⟩ w (by rw[a];omega)).mono ?_
  rintro e w' ⟨rfl,rfl⟩
  exact⟨_,rfl,.str _,.refl _ _⟩)
theorem b5o:Builder.Extra Tryz.prog Tryz.lays156_ren where
 sizeBuilder:=by kernel_rfl
 liesBuilder:=by kernel_rfl
 t5:=Tryz.lays288.t5
 a5:=Tryz.lays288.a5
 z5:=Tryz.lays288.z5
 v5:=Tryz.lays288.v5
 infoByte:=by kernel_rfl
 cellsByte:=by kernel_rfl
 sizeByte:=by kernel_rfl
 neB5:=by decide
theorem Ck: ∀ l:List (List UInt8),Lib.join l [44,32]=Zu l
 | []=>rfl
 | [s]=>by simp[Lib.join,List.intercalate,Zu]
 | s::t::r=>by
  have h:=Ck (t::r)
  rw[Zu]
  ·rw[<- h]
   simp[Lib.join,List.intercalate]
  ·simp
theorem Mi(l:List Str):flat (l.map (enc:Str->PV))=l.map fun s:Str=>PV.str s.s:=by
 induction l with
 | nil=>rfl
 | cons a l ih=>rw[List.map_cons,List.map_cons,<- ih];rfl
theorem a3p:Zo Tryz.prog 19 (fun x:List Str×Str×Unit=>YP x.1&&decide (x.2.1.s=[44,32])) (fun x:List Str×Str×Unit=>Yi x.1):=YR (by
  rintro⟨l,⟨p⟩,⟨⟩⟩ hps Φ w vs hL hΦ hv
  simp only[Bool.and_eq_true,decide_eq_true_eq]at hps
  obtain⟨m,z⟩:=hps
  have z:p=[44,32]:=z
  subst z
  have m:YP l=true:=m
  unfold YP at m
  simp only[Bool.and_eq_true,decide_eq_true_eq]at m
  obtain⟨u,v,rfl,h1,h2⟩:=c5c hv
  have h1:RP Φ u (.sl 1 false (l.map enc)):=h1
  rw[V5 h2]
  have B:(l.map fun s:Str=>(⟨s.s.toArray⟩:ByteArray)).map (·.data.toList)=l.map (·.s):=by rw[List.map_map];rfl
  by_cases hl:l=[]
  ·subst hl
   have : ∃ a c,u = .slice a 0 c:=by
    cases h1 with
    | sl0 a c _ _ h=>exact⟨a,c,rfl⟩
    | sl b off cs c _ _ _ uu hb hc htt hs hu hr=>exact⟨_,_,rfl⟩
   obtain⟨a,c,rfl⟩:=this
   refine(Any.strings_Join_none Tryz.lays156 b5o a c ⟨#[44,32]⟩ w).mono ?_
   rintro e w' ⟨rfl,rfl⟩
   exact⟨_,rfl,.str _,.refl _ _⟩
  ·obtain⟨b,off,c,cs,F,rfl,hb,hc,_,h3,C,y,h6⟩:=h1.sl_cells hΦ (by simpa using hl)
   obtain⟨T,fz,E⟩:=hΦ b cs hb
   have i:b<w.heap.size:=(Array.getElem?_eq_some_iff.1 E).1
   have D:=Mi l
   rw[D]at y
   have g : ∀ (j:Nat) x,(l.map fun s:Str=>(⟨s.s.toArray⟩:ByteArray))[j]? = some x->w.cell? ⟨b,off+j,none⟩=some (.string x):=fun j x A=>by
    rw[List.getElem?_map,Option.map_eq_some_iff]at A
    obtain⟨s,hs,rfl⟩:=A
    have q:j<F.length:=by rw[y.1,List.length_map];exact(List.getElem?_eq_some_iff.1 hs).1
    have hu:=List.getElem?_eq_getElem q
    have hr:=y.2 j _ _ hu (by rw[List.getElem?_map,hs];rfl)
    rw[C j _ hu,V5 hr]
   have k:(l.map (enc:Str->PV)).length=(l.map fun s:Str=>(⟨s.s.toArray⟩:ByteArray)).length:=by rw[List.length_map,List.length_map]
   rw[k]at hc ⊢
   refine(Any.strings_Join Tryz.lays156 b5o b off c (l.map fun s:Str=>(⟨s.s.toArray⟩:ByteArray)) ⟨#[44,32]⟩ w g i (by rw[List.length_map];omega) hc (by
    rw[B]
    show(Lib.join (l.map (·.s)) [44,32]).length<=_
    rw[Ck];omega)).mono ?_
   rintro e w' ⟨rfl,r⟩
   refine⟨_,rfl,?_,r⟩
   rw[B]
   show RP Φ (.string ⟨(Lib.join (l.map (·.s)) [44,32]).toArray⟩) _
   rw[Ck]
   exact .str _)
theorem RG:XJ Tryz.prog 157 (DV 5) EX:=f6n (ρ:=Tryz.lays288_ren) Tryz.lays288 fun Φ w hL hΦ=>by
 have hg:=hL.pow
 obtain⟨T,fz,hh⟩:=hΦ _ _ hg
 unfold Lib.TabIs World.var?
 rw[show Program.globalNamed Tryz.prog "internal/strconv.uint64pow10" = some 1 by kernel_rfl]
 simp only[Option.bind_some,hh]
 rfl
end Go.Proofs.YtkpppjbhmmabeaaGreatDoor
namespace Go.Proofs.YtkpppjbhmmabeaaGreatDoor
open Go.Shelf
def Tryz.keysA_ren:Go.Shelf.Ren:=⟨fun|7=>84|10=>124|n=>n,fun|23=>109|26=>9|3=>4|28=>114|0=>0|27=>113|33=>56|4=>4|n=>n,fun|n=>n⟩
theorem Tryz.keysA:Go.Proofs.SlLaysZ.n7 Tryz.prog Tryz.keysA_ren:={
 mixed:=by kernel_rfl
 f7:=⟨Tryz.f84.name,by decide,Tryz.func84.trans (congrArg some (by kernel_rfl))⟩
 f10:=⟨Tryz.f124.name,by decide,Tryz.func124.trans (congrArg some (by kernel_rfl))⟩
 t0:=Tryz.underlying0
 a0:=Tryz.isAgg0
 z0:=Tryz.sizeOf0
 v0:=Tryz.zeroValue0
 t4:=Tryz.underlying4
 a4:=Tryz.isAgg4
 z4:=Tryz.sizeOf4
 v4:=Tryz.zeroValue4
 t23:=Tryz.underlying109
 a23:=Tryz.isAgg109
 z23:=Tryz.sizeOf109
 v23:=Tryz.zeroValue109
 t26:=Tryz.underlying9
 a26:=Tryz.isAgg9
 z26:=Tryz.sizeOf9
 v26:=Tryz.zeroValue9
 t27:=Tryz.underlying113
 a27:=Tryz.isAgg113
 z27:=Tryz.sizeOf113
 v27:=Tryz.zeroValue113
 t28:=Tryz.underlying114
 a28:=Tryz.isAgg114
 z28:=Tryz.sizeOf114
 v28:=Tryz.zeroValue114
 t33:=Tryz.underlying56
 a33:=Tryz.isAgg56
 z33:=Tryz.sizeOf56
 v33:=Tryz.zeroValue56}
def Tryz.sortedA_ren:Go.Shelf.Ren:=⟨fun|6=>83|8=>122|9=>123|11=>147|13=>149|12=>148|23=>181|24=>182|14=>172|15=>173|16=>174|17=>175|18=>176|19=>177|20=>178|21=>179|22=>180|25=>202|26=>203|27=>204|28=>205|29=>206|30=>207|31=>223|n=>n,fun|26=>9|28=>114|24=>31|0=>0|3=>3|37=>152|48=>177|50=>159|4=>4|40=>170|39=>169|45=>174|5=>5|9=>9|51=>192|55=>196|57=>213|58=>214|33=>56|n=>n,fun|n=>n⟩
theorem Tryz.sortedA:Go.Proofs.SlLaysZ.n6 Tryz.prog Tryz.sortedA_ren:={
 mixed:=by kernel_rfl
 f6:=⟨Tryz.f83.name,by decide,Tryz.func83.trans (congrArg some (by kernel_rfl))⟩
 f8:=⟨Tryz.f122.name,by decide,Tryz.func122.trans (congrArg some (by kernel_rfl))⟩
 f11:=⟨Tryz.f147.name,by decide,Tryz.func147.trans (congrArg some (by kernel_rfl))⟩
 t0:=Tryz.underlying0
 a0:=Tryz.isAgg0
 z0:=Tryz.sizeOf0
 v0:=Tryz.zeroValue0
 t24:=Tryz.underlying31
 a24:=Tryz.isAgg31
 z24:=Tryz.sizeOf31
 v24:=Tryz.zeroValue31
 t26:=Tryz.underlying9
 a26:=Tryz.isAgg9
 z26:=Tryz.sizeOf9
 v26:=Tryz.zeroValue9
 t28:=Tryz.underlying114
 a28:=Tryz.isAgg114
 z28:=Tryz.sizeOf114
 v28:=Tryz.zeroValue114
 i26:=by kernel_rfl}
end Go.Proofs.YtkpppjbhmmabeaaGreatDoor
namespace Go.Proofs.YtkpppjbhmmabeaaGreatDoor
open Go.RowKit Go.Shelf Go.Pl Go.Proofs
theorem e6d(m:Nat):AnyZ.SortsIn Tryz.prog Tryz.sortedA_ren Fence.wide m:=
  ⟨fun blk off cap ss W e a b=>callsIn_wide.2 (Any.slices_Sort_string Tryz.lays190 blk off cap ss W e a b),
   fun p cap W=>callsIn_wide.2 (Any.slices_Sort_string_none Tryz.lays190 p cap W)⟩
theorem e7t:SortedC Tryz.prog 83 124 9 where
 str:=by kernel_rfl
 run:=by
  intro Bm b nn D0 w i hm g e a
  have h:SeqGives Fence.wide 2 Tryz.prog 124 #[.pointer (some ⟨Bm,0,none⟩)] encStr (fun ss=>ss.Perm (strKeys D0)) (Maps.size D0) w:=
   AnyZ.keys_gives (ρ:=Tryz.keysA_ren) {Tryz.keysA with} Fence.wide _ trivial rfl (by omega) Bm b nn D0 _ i hm g
  exact callsIn_wide.1 (AnyZ.sorted_in Tryz.sortedA Fence.wide 5 trivial trivial trivial trivial rfl (by omega) (e6d _) (enters_of Tryz.func123 (by kernel_rfl) rfl) 124 #[.pointer (some ⟨Bm,0,none⟩)] trivial (enters_of Tryz.func124 (by kernel_rfl) rfl) _ _ e a _ h)
theorem g3t:XJ Tryz.prog 83 (Km 124) Js:=b1n (b0l e7t)
end Go.Proofs.YtkpppjbhmmabeaaGreatDoor
namespace Go.Proofs.YtkpppjbhmmabeaaGreatDoor
open Go.RowKit Go.Lib Go.Pl
theorem c9m:(Tryz.prog.info? 3).map (fun i=>(i.zero,i.size,i.bytes))=some (some (.int .i64 0),1,8):=by kernel_rfl
theorem CV:Tryz.prog.underlying 24=some (.slice 3):=by kernel_rfl
theorem b1p(n c:Nat)(w:World):Calls Tryz.prog 156 #[.slice none n c] w fun e w'=>e = .returned (.slice none 0 0)∧w'=w:=by
 have q22 : ∀ (w:World) (a:Option Addr) (n c g b:Nat),(binOp .eql 24 (.slice a n c) (.slice none g b)).run Tryz.prog w = .ok (.bool a.isNone) w:=fun w a n c g b=>Lib.run_eql_slice_nil w _ _ a n c g b CV
 go_enter Tryz.func156,Tryz.ntmps156
 go_wp2
 go_ret
 exact⟨rfl,rfl⟩
theorem a4y(a:Addr)(c:Nat)(w:World):Calls Tryz.prog 156 #[.slice (some a) 0 c] w fun e w'=>(∃ g,e = .returned (.slice (some g) 0 0))∧Below w.heap.size w w':=by
 have q22 : ∀ (w:World) (a:Option Addr) (n c h b:Nat),(binOp .eql 24 (.slice a n c) (.slice none h b)).run Tryz.prog w = .ok (.bool a.isNone) w:=fun w a n c h b=>Lib.run_eql_slice_nil w _ _ a n c h b CV
 obtain⟨i0,hi,hz0,hz1,hz2⟩:=info_parts c9m
 go_enter Tryz.func156,Tryz.ntmps156
 go_wp2_with (at_builtin;refine Lib.wpList_append_run _ rfl _ _ _ _ rfl _ _ rfl rfl _ _ (Vo CV hi (Nat.le_refl _)) ?_)
 go_ret
 exact⟨⟨_,rfl⟩,(Below.refl _ w).alloc (Nat.le_refl _) _⟩
theorem a0y(a:Addr)(n c:Nat)(news:List Value)(w:World)(h0:0<n)(hn:n<=2000000)(r:news.length=n*1)(hc : ∀ j u,news[j]? = some u->w.cell? (a.add j)=some u)(h1 : ∀ u∈news,u.oneCell'=true):
  Calls Tryz.prog 156 #[.slice (some a) n c] w fun e w'=> ∃ v',e = .returned v'∧w'.ownsRow w.heap.size 3 1 v' n news∧Below w.heap.size w w':=by
 have q22 : ∀ (w:World) (a:Option Addr) (n c l m:Nat),(binOp .eql 24 (.slice a n c) (.slice none l m)).run Tryz.prog w = .ok (.bool a.isNone) w:=fun w a n c l m=>Lib.run_eql_slice_nil w _ _ a n c l m CV
 obtain⟨z,hi,q,i,h⟩:=info_parts c9m
 have A:Aside (∀ j u,news[j]? = some u->w.cell? (a.add j)=some u):=hc
 clear hc
 go_enter Tryz.func156,Tryz.ntmps156
 go_wp2_with (at_builtin;refine wpList_append_own _ rfl _ _ 24 rfl w.heap.size 3 z (.int .i64 0) 1 8 CV hi q i h rfl (by decide) _ _ _ rfl (World.ownsRow_made w #[] 0 (Nat.le_refl _) (Nat.zero_le _) rfl) a n c news rfl ?qc1 ?qc2 ?qc3 ?qc4 ?qc5 ?qc6 ?_)
 case qc1=>exact r
 case qc2=>intro j u y;exact Lib.cell?_alloc_some _ (A.out j u y)
 case qc3=>exact h1
 case qc4=>unfold maxLen;omega
 case qc5=>omega
 case qc6=>simp
 intro v' w1 g b hnil
 go_wp2
 go_ret
 refine⟨v',rfl,by simpa using g,?_⟩
 exact((Below.refl _ w).alloc (Nat.le_refl _) _).grown b (by simp) (by intro k s;simp[Value.ownBlock]at s;omega)
theorem f5e:CloneC Tryz.prog 156 3 1:=⟨b1p,a4y,a0y⟩
end Go.Proofs.YtkpppjbhmmabeaaGreatDoor
namespace Go.Proofs.YtkpppjbhmmabeaaGreatDoor
open Go.Shelf
def Tryz.lays160_ren:Go.Shelf.Ren:=⟨fun|160=>158|232=>194|231=>193|227=>195|234=>197|233=>196|236=>199|235=>198|228=>218|271=>221|151=>220|197=>219|120=>231|152=>230|260=>229|137=>238|119=>239|224=>234|225=>233|217=>232|266=>240|n=>n,fun|9=>9|4=>4|3=>3|5=>5|117=>188|116=>187|0=>0|124=>191|21=>21|105=>209|46=>152|119=>230|139=>233|138=>232|n=>n,fun|3=>6|4=>7|n=>n⟩
theorem Tryz.lays160:Go.Proofs.Lays.n160 Tryz.prog Tryz.lays160_ren:={
 mixed:=by kernel_rfl
 f119:=Tryz.func239.trans (congrArg some (by kernel_rfl))
 f120:=Tryz.func231.trans (congrArg some (by kernel_rfl))
 f137:=Tryz.func238.trans (congrArg some (by kernel_rfl))
 f151:=Tryz.func220.trans (congrArg some (by kernel_rfl))
 f152:=Tryz.func230.trans (congrArg some (by kernel_rfl))
 f160:=Tryz.func158.trans (congrArg some (by kernel_rfl))
 f197:=Tryz.func219.trans (congrArg some (by kernel_rfl))
 f217:=Tryz.func232.trans (congrArg some (by kernel_rfl))
 f224:=Tryz.func234.trans (congrArg some (by kernel_rfl))
 f225:=Tryz.func233.trans (congrArg some (by kernel_rfl))
 f227:=Tryz.func195.trans (congrArg some (by kernel_rfl))
 f228:=Tryz.func218.trans (congrArg some (by kernel_rfl))
 f231:=Tryz.func193.trans (congrArg some (by kernel_rfl))
 f232:=Tryz.func194.trans (congrArg some (by kernel_rfl))
 f233:=Tryz.func196.trans (congrArg some (by kernel_rfl))
 f234:=Tryz.func197.trans (congrArg some (by kernel_rfl))
 f235:=Tryz.func198.trans (congrArg some (by kernel_rfl))
 f236:=Tryz.func199.trans (congrArg some (by kernel_rfl))
 f260:=Tryz.func229.trans (congrArg some (by kernel_rfl))
 f266:=Tryz.func240.trans (congrArg some (by kernel_rfl))
 f271:=Tryz.func221.trans (congrArg some (by kernel_rfl))
 t0:=Tryz.underlying0
 a0:=Tryz.isAgg0
 z0:=Tryz.sizeOf0
 v0:=Tryz.zeroValue0
 t3:=Tryz.underlying3
 a3:=Tryz.isAgg3
 z3:=Tryz.sizeOf3
 v3:=Tryz.zeroValue3
 t4:=Tryz.underlying4
 a4:=Tryz.isAgg4
 z4:=Tryz.sizeOf4
 v4:=Tryz.zeroValue4
 t5:=Tryz.underlying5
 a5:=Tryz.isAgg5
 z5:=Tryz.sizeOf5
 v5:=Tryz.zeroValue5
 t9:=Tryz.underlying9
 a9:=Tryz.isAgg9
 z9:=Tryz.sizeOf9
 v9:=Tryz.zeroValue9
 t21:=Tryz.underlying21
 a21:=Tryz.isAgg21
 z21:=Tryz.sizeOf21
 v21:=Tryz.zeroValue21
 t46:=Tryz.underlying152
 a46:=Tryz.isAgg152
 z46:=Tryz.sizeOf152
 v46:=Tryz.zeroValue152
 t105:=Tryz.underlying209
 a105:=Tryz.isAgg209
 z105:=Tryz.sizeOf209
 v105:=Tryz.zeroValue209
 t116:=Tryz.underlying187
 a116:=Tryz.isAgg187
 z116:=Tryz.sizeOf187
 t117:=Tryz.underlying188
 a117:=Tryz.isAgg188
 z117:=Tryz.sizeOf188
 v117:=Tryz.zeroValue188
 t119:=Tryz.underlying230
 a119:=Tryz.isAgg230
 z119:=Tryz.sizeOf230
 t124:=Tryz.underlying191
 a124:=Tryz.isAgg191
 z124:=Tryz.sizeOf191
 v124:=Tryz.zeroValue191
 t138:=Tryz.underlying232
 a138:=Tryz.isAgg232
 z138:=Tryz.sizeOf232
 v138:=Tryz.zeroValue232
 t139:=Tryz.underlying233
 a139:=Tryz.isAgg233
 z139:=Tryz.sizeOf233
 v139:=Tryz.zeroValue233
 g3:=by kernel_rfl
 g4:=by kernel_rfl}
end Go.Proofs.YtkpppjbhmmabeaaGreatDoor
namespace Go.Proofs.YtkpppjbhmmabeaaGreatDoor
open Go.Pl Go.RowKit
open Enc (enc dec is)
open EncL (encL decL isL)
set_option maxRecDepth 100000
theorem EY: ∀ l:List (List UInt8),Lib.join l [10]=Ec l
 | []=>rfl
 | [s]=>by simp[Lib.join,List.intercalate,Ec]
 | s::t::r=>by
  have h:=EY (t::r)
  rw[Ec]
  ·rw[<- h]
   simp[Lib.join,List.intercalate]
  ·simp
theorem c2u:Zo Tryz.prog 19 (fun x:List Str×Str×Unit=>Pq x.1&&decide (x.2.1.s=[10])) (fun x:List Str×Str×Unit=>nlS x.1):=YR (by
  rintro⟨l,⟨p⟩,⟨⟩⟩ hps Φ w vs hL hΦ hv
  simp only[Bool.and_eq_true,decide_eq_true_eq]at hps
  obtain⟨m,z⟩:=hps
  have z:p=[10]:=z
  subst z
  have m:Pq l=true:=m
  unfold Pq at m
  simp only[Bool.and_eq_true,decide_eq_true_eq]at m
  obtain⟨u,v,rfl,h1,h2⟩:=c5c hv
  have h1:RP Φ u (.sl 1 false (l.map enc)):=h1
  rw[V5 h2]
  have B:(l.map fun s:Str=>(⟨s.s.toArray⟩:ByteArray)).map (·.data.toList)=l.map (·.s):=by rw[List.map_map];rfl
  by_cases hl:l=[]
  ·subst hl
   have : ∃ a c,u = .slice a 0 c:=by
    cases h1 with
    | sl0 a c _ _ h=>exact⟨a,c,rfl⟩
    | sl b off cs c _ _ _ uu hb hc htt hs hu hr=>exact⟨_,_,rfl⟩
   obtain⟨a,c,rfl⟩:=this
   refine(Any.strings_Join_none Tryz.lays156 b5o a c ⟨#[10]⟩ w).mono ?_
   rintro e w' ⟨rfl,rfl⟩
   exact⟨_,rfl,.str _,.refl _ _⟩
  ·obtain⟨b,off,c,cs,F,rfl,hb,hc,_,h3,C,y,h6⟩:=h1.sl_cells hΦ (by simpa using hl)
   obtain⟨T,fz,E⟩:=hΦ b cs hb
   have i:b<w.heap.size:=(Array.getElem?_eq_some_iff.1 E).1
   have D:=Mi l
   rw[D]at y
   have g : ∀ (j:Nat) x,(l.map fun s:Str=>(⟨s.s.toArray⟩:ByteArray))[j]? = some x->w.cell? ⟨b,off+j,none⟩=some (.string x):=fun j x A=>by
    rw[List.getElem?_map,Option.map_eq_some_iff]at A
    obtain⟨s,hs,rfl⟩:=A
    have q:j<F.length:=by rw[y.1,List.length_map];exact(List.getElem?_eq_some_iff.1 hs).1
    have hu:=List.getElem?_eq_getElem q
    have hr:=y.2 j _ _ hu (by rw[List.getElem?_map,hs];rfl)
    rw[C j _ hu,V5 hr]
   have k:(l.map (enc:Str->PV)).length=(l.map fun s:Str=>(⟨s.s.toArray⟩:ByteArray)).length:=by rw[List.length_map,List.length_map]
   rw[k]at hc ⊢
   refine(Any.strings_Join Tryz.lays156 b5o b off c (l.map fun s:Str=>(⟨s.s.toArray⟩:ByteArray)) ⟨#[10]⟩ w g i (by rw[List.length_map];omega) hc (by
    rw[B]
    show(Lib.join (l.map (·.s)) [10]).length<=_
    rw[EY];omega)).mono ?_
   rintro e w' ⟨rfl,r⟩
   refine⟨_,rfl,?_,r⟩
   rw[B]
   show RP Φ (.string ⟨(Lib.join (l.map (·.s)) [10]).toArray⟩) _
   rw[EY]
   exact .str _)
theorem c4h:Zo Tryz.prog 158 (fun x:Str×Str×Unit=>decide (x.1.s.length<=1048576)&&decide (x.2.1.s=J5)) (fun x:Str×Str×Unit=>(⟨PR x.1.s⟩:Str)):=YR (by
  rintro⟨⟨s⟩,⟨p⟩,⟨⟩⟩ hps Φ w vs hL hΦ hv
  simp only[Bool.and_eq_true,decide_eq_true_eq]at hps
  obtain⟨hs,b⟩:=hps
  have b:p=J5:=b
  subst b
  obtain⟨u,v,rfl,h1,h2⟩:=c5c hv
  rw[V5 h1,V5 h2]
  have a:(⟨s.toArray⟩:ByteArray).size=s.length:=rfl
  refine(Any.strings_Trim_laid Tryz.lays160 (by kernel_rfl) ⟨s.toArray⟩ ⟨J5.toArray⟩ w (by rw[a];have hs:s.length<=1048576:=hs;omega) (by decide) (ascii_of_all (l:=J5) (by decide))).mono ?_
  rintro e w' ⟨rfl,hb⟩
  exact⟨_,rfl,.str _,hb⟩)
end Go.Proofs.YtkpppjbhmmabeaaGreatDoor
namespace Go.Proofs.YtkpppjbhmmabeaaGreatDoor
open Go.Pl
open Enc (enc dec is)
open EncL (encL decL isL)
set_option maxRecDepth 100000
theorem QY:Tryz.prog.follows .mixedOrders=true:=by kernel_rfl
theorem tq{f:Nat}{D:Den}{l:List (Nat×Den)}{fn:Func}(hf:Tryz.prog.funcs[f]? = some fn)(h:b7p Tryz.prog f D)(k:YT Tryz.prog (Yh l))(hb:(fn.body.isSome&& !(fn.name == "runtime.NumGoroutine"))=true:=by kernel_rfl):YT Tryz.prog (Yh ((f,D)::l)):=e0e (ent hf hb h) k
theorem dq{f nt:Nat}{α β:Type}[EncL α][Enc β]{fn:Func}{T:ZC}{ic:IC}{rs:List IRes}{pre:α->Bool}{F:α->β}(h : ∀ a,pre a=true->Zd T 0 (Za rs (Zf (F a))) ic [] (Zx nt (encL a)))(j:YT Tryz.prog T)(i:Tryz.prog.funcs[f]? = some fn)(g:a0v Tryz.prog fn=some ic:=by kernel_rfl)(e:Wo (WW Tryz.prog) fn.results.toList=some rs:=by kernel_rfl)(b:fn.ntmps=nt:=by kernel_rfl):Zo Tryz.prog f pre F:=Zo.of j QY i g e b h
theorem c1e:Zo Tryz.prog 152 (fun x:Str×Unit=>decide (x.1.s.length<=281474976710656)) (fun x:Str×Unit=>YO x.1):=YR (by
  rintro⟨⟨s⟩,⟨⟩⟩ hps Φ w vs hL hΦ a
  have hs:s.length<=281474976710656:=by simpa using hps
  obtain⟨v,rfl,h1⟩:=e5w a
  rw[V5 h1]
  have i:(⟨s.toArray⟩:ByteArray).size=s.length:=rfl
  cases h:Lib.atoiAll s
  ·rename_i n
   have k:YO ⟨s⟩=(n,⟨false⟩):=by simp only[YO,h]
   rw[k]
   refine(Any.strconv_Atoi_ok Tryz.lays172 ⟨s.toArray⟩ (by rw[i];omega) n h w).mono ?_
   rintro e w' ⟨rfl,m⟩
   refine⟨_,rfl,.tup _ _ rfl ?_,?_⟩
   ·intro j v x a b
    match j with
    | 0=>cases a;cases b;exact .int _ _
    | 1=>cases a;cases b;exact .nili
    | j+2=>simp at a
   ·rcases m with rfl|⟨t,rfl⟩
    ·exact .refl _ _
    ·exact Tg _ _ 0 _
  ·skip
   have k:YO ⟨s⟩=(0,⟨true⟩):=by simp only[YO,h]
   rw[k]
   obtain⟨cs,hc,ev,l,g⟩:=hL.syn
   refine(Any.strconv_Atoi_syntax Tryz.lays172 ⟨s.toArray⟩ (by rw[i];omega) h ev w (Jb hΦ hc l) g).mono ?_
   rintro e w' ⟨N,rfl,_,_,hb⟩
   refine⟨_,rfl,.tup _ _ rfl ?_,hb⟩
   intro j v x a b
   match j with
   | 0=>cases a;cases b;exact .int _ _
   | 1=>cases a;cases b;exact .ifc _ _
   | j+2=>simp at a
  ·skip
   have k:YO ⟨s⟩=(Lib.atoiSat s,⟨true⟩):=by simp only[YO,h]
   rw[k]
   obtain⟨cs,hc,ev,l,g⟩:=hL.rng
   refine(Any.strconv_Atoi_range Tryz.lays172 ⟨s.toArray⟩ (by rw[i];omega) h ev w (Jb hΦ hc l) g).mono ?_
   rintro e w' ⟨N,rfl,_,_,hb⟩
   refine⟨_,rfl,.tup _ _ rfl ?_,hb⟩
   intro j v x a b
   match j with
   | 0=>cases a;cases b;exact .int _ _
   | 1=>cases a;cases b;exact .ifc _ _
   | j+2=>simp at a)
theorem Me:Zo Tryz.prog 129 (fun _:Int×Unit=>true) (fun x:Int×Unit=>Yp x.1):=dq e6k Ze Tryz.func129
theorem a6z:Zo Tryz.prog 128 (fun x:Str×Unit=>decide (x.1.s.length<=1000000)) (fun x:Str×Unit=>nameB x.1):=dq c4k (tq Tryz.func151 Dp (tq Tryz.func152 d0s (tq Tryz.func87 K9 Ze))) Tryz.func128
theorem Tf:Zo Tryz.prog 128 (fun x:Str×Unit=>decide (x.1.s.length<=281474976710656)) (fun x:Str×Unit=>nameB x.1):=dq a8v (tq Tryz.func151 Dp (tq Tryz.func152 c1e (tq Tryz.func87 K9 Ze))) Tryz.func128
theorem EG:Zo Tryz.prog 91 (fun x:Lin×Unit=>Wn x.1) (fun x:Lin×Unit=>Zh x.1):=dq b0k (tq Tryz.func129 Me (tq Tryz.func128 a6z Ze)) Tryz.func91
theorem CE:Zo Tryz.prog 91 (fun x:Lin×Unit=>Xy x.1) (fun x:Lin×Unit=>Zh x.1):=dq b9y (tq Tryz.func129 Me (tq Tryz.func128 Tf Ze)) Tryz.func91
theorem e3d:XJ Tryz.prog 92 WJ Cv:=Dj (T:=a9a) (ic:=Et) (rs:=FT) (tq Tryz.func87 K9 (tq Tryz.func93 R5 Ze)) QY Tryz.func92 (by kernel_rfl) (by kernel_rfl) (by kernel_rfl) c8m
theorem Hy:Zo Tryz.prog 58 (fun x:Lin×Unit=>Wn x.1) (fun x:Lin×Unit=>(⟨ZE x.1⟩:Str)):=dq a8d (tq Tryz.func91 EG (tq Tryz.func92 e3d Ze)) Tryz.func58
theorem Bc:Zo Tryz.prog 61 (fun _:UInt8×Unit=>true) (fun x:UInt8×Unit=>lowB x.1):=dq b1w Ze Tryz.func61
theorem Om:Zo Tryz.prog 97 (fun _:UInt8×Unit=>true) (fun x:UInt8×Unit=>digB x.1):=dq a7l Ze Tryz.func97
theorem b0d:Zo Tryz.prog 62 (fun x:Str×Bool×Unit=>decide (x.1.s.length<=1048576)) (fun x:Str×Bool×Unit=>R8 x.1 x.2.1):=dq d8c (tq Tryz.func97 Om (tq Tryz.func61 Bc Ze)) Tryz.func62
theorem TA:Zo Tryz.prog 63 (fun _:Str×Unit=>true) (fun x:Str×Unit=>Q0.contains x.1.s):=dq c7p Ze Tryz.func63
theorem Uz:Zo Tryz.prog 30 (fun x:Str×Unit=>decide (x.1.s.length<=1048576)) (fun x:Str×Unit=>nameI x.1.s):=dq c0z (tq Tryz.func61 Bc (tq Tryz.func62 b0d (tq Tryz.func63 TA Ze))) Tryz.func30
theorem NP:Zo Tryz.prog 146 (fun x:Str×Unit=>decide (x.1.s.length<=1048576)) (fun x:Str×Unit=>fullI x.1.s):=dq c1h (tq Tryz.func171 e1h (tq Tryz.func30 Uz Ze)) Tryz.func146
theorem J2:Zo Tryz.prog 121 (fun x:Str×Unit=>decide (x.1.s.length<=1048576)) (fun x:Str×Unit=>Bq x.1.s):=dq d3v (tq Tryz.func30 Uz (tq Tryz.func146 NP Ze)) Tryz.func121
theorem Rs:Zo Tryz.prog 119 (fun x:Tm×Unit=>tW x.1) (fun x:Tm×Unit=>UK x.1.nd):=dq c8q Ze Tryz.func119
theorem NM:Zo Tryz.prog 143 (fun x:Lin×Unit=>Xy x.1) (fun x:Lin×Unit=> !(Zh x.1)):=dq d2a (tq Tryz.func91 CE Ze) Tryz.func143
theorem e7u:Zo Tryz.prog 135 (fun x:List Lin×FnV 143×Unit=>decide (x.1.length<=1048576)&&x.1.all Xy) (fun x:List Lin×FnV 143×Unit=>Yt (fun l:Lin=> !(Zh l)) x.1):=dq e8m (tq Tryz.func143 NM Ze) Tryz.func135
theorem f0g:Zo Tryz.prog 99 (fun x:List Lin×FnV 143×Unit=>decide (x.1.length<=1048576)&&x.1.all Xy) (fun x:List Lin×FnV 143×Unit=>x.1.any fun l:Lin=> !(Zh l)):=dq e4a (tq Tryz.func135 e7u Ze) Tryz.func99
theorem Bg:Zo Tryz.prog 118 (fun x:Tm×Int×Int×Unit=>tW x.1) (fun x:Tm×Int×Int×Unit=>Xk x.1.nd x.2.1 x.2.2.1):=dq b2g (tq Tryz.func99 f0g Ze) Tryz.func118
theorem EA:Zo Tryz.prog 145 (fun _:Int×Unit=>true) (fun x:Int×Unit=>YC x.1):=dq d4k Ze Tryz.func145
theorem e7z:Zo Tryz.prog 170 (fun x:List Int×FnV 145×Unit=>decide (x.1.length<=1048576)) (fun x:List Int×FnV 145×Unit=>Yt YC x.1):=dq f0c (tq Tryz.func145 EA Ze) Tryz.func170
theorem e6z:Zo Tryz.prog 144 (fun x:List Int×FnV 145×Unit=>decide (x.1.length<=1048576)) (fun x:List Int×FnV 145×Unit=>x.1.any YC):=dq f0r (tq Tryz.func170 e7z Ze) Tryz.func144
theorem a5t:Zo Tryz.prog 120 (fun x:Tm×Unit=>tW x.1) (fun x:Tm×Unit=>XI x.1.nd x.1.ks.length):=dq c3q (tq Tryz.func121 J2 (tq Tryz.func118 Bg (tq Tryz.func144 e6z Ze))) Tryz.func120
theorem d6l:X0 Tryz.prog 217 YB GX:=Gy (T:=Qk) (ic:=VT) (rs:=VI) Ze QY Tryz.func217 (by kernel_rfl) (by kernel_rfl) (by kernel_rfl) c2r
theorem a5v:X0 Tryz.prog 190 YB Qn:=Gy (T:=Cb) (ic:=Hf) (rs:=H6) (tq Tryz.func217 d6l Ze) QY Tryz.func190 (by kernel_rfl) (by kernel_rfl) (by kernel_rfl) Og
theorem e9l:X0 Tryz.prog 154 KM Xc:=Gy (T:=Wz) (ic:=Xr) (rs:=Xu) (tq Tryz.func190 a5v Ze) QY Tryz.func154 (by kernel_rfl) (by kernel_rfl) (by kernel_rfl) d9f
theorem d1c:Zo Tryz.prog 154 (fun _:List Int×Unit=>true) (fun x:List Int×Unit=>Y2 x.1):=Zo.ofPure e9l fun⟨l,_⟩ h=>⟨by show(Zr l).all PV.isNum=true;simp,by show Zf _ (.tup [.int .i64 (Y2 ((Zr l).map PV.asInt)).1,.int .i64 (Y2 ((Zr l).map PV.asInt)).2]);rw[Xl];exact Zg (x:=Y2 l) rfl⟩
theorem c3z:Zo Tryz.prog 156 (fun x:List Int×Unit=>decide (x.1.length<=2000000)) (fun x:List Int×Unit=>x.1):=a9k (α:=Int) (by decide) (b9q f5e (by decide))
theorem Ed:Zo Tryz.prog 192 (fun _:Str×Int×Unit=>true) (fun x:Str×Int×Unit=>X5 x.1 x.2.1):=dq e3p Ze Tryz.func192
theorem g1a:XJ Tryz.prog 191 TN OO:=Dj (T:=c6g) (ic:=b1b) (rs:=b3g) (tq Tryz.func192 Ed Ze) QY Tryz.func191 (by kernel_rfl) (by kernel_rfl) (by kernel_rfl) e8v
theorem f9e:XJ Tryz.prog 170 VX TL:=Dj (T:=RN) (ic:=DW) (rs:=DF) (tq Tryz.func191 g1a Ze) QY Tryz.func170 (by kernel_rfl) (by kernel_rfl) (by kernel_rfl) e3r
theorem f5p:XJ Tryz.prog 144 VX F6:=Dj (T:=d7p) (ic:=b0q) (rs:=b2r) (tq Tryz.func170 f9e Ze) QY Tryz.func144 (by kernel_rfl) (by kernel_rfl) (by kernel_rfl) e8l
theorem a4t:Zo Tryz.prog 155 (fun x:Str×List Int×Unit=>decide (x.2.1.length<=2000000)) (fun x:Str×List Int×Unit=>x.2.1.all (X5 x.1)):=dq Ou (tq Tryz.func144 f5p Ze) Tryz.func155
theorem c2p:Zo Tryz.prog 131 (fun x:Str×List Int×List Int×Unit=>decide (x.2.1.length<=2000000)&&decide (x.2.2.1.length<=2000000)) (fun x:Str×List Int×List Int×Unit=>JA x.1 x.2.1 x.2.2.1):=dq d8d (tq Tryz.func154 d1c (tq Tryz.func155 a4t (tq Tryz.func156 c3z Ze))) Tryz.func131
theorem Bi:Zo Tryz.prog 94 (fun x:Arr×Unit=>VH x.1) (fun x:Arr×Unit=>WE x.1):=dq e8x (tq Tryz.func131 c2p Ze) Tryz.func94
theorem a6s:Zo Tryz.prog 82 (fun x:Tm×Unit=>tW x.1) (fun x:Tm×Unit=>H5 x.1):=dq b9r (tq Tryz.func30 Uz (tq Tryz.func118 Bg (tq Tryz.func119 Rs (tq Tryz.func94 Bi (tq Tryz.func120 a5t (tq Tryz.func121 J2 Ze)))))) Tryz.func82
theorem d5x:XJ Tryz.prog 81 VN (Q7 116):=Dj (T:=b2v) (ic:=O1) (rs:=ED) Ze QY Tryz.func81 (by kernel_rfl) (by kernel_rfl) (by kernel_rfl) c6x
theorem c1v{cd:Code}(h:Ba Tryz.prog NR Tryz.f50 0=some cd):Jg Tryz.prog cd=some (.t 7,[8,9],Rz,PW):=by
 have:(Ba Tryz.prog NR Tryz.f50 0).bind (Jg Tryz.prog)=some (.t 7,[8,9],Rz,PW):=by kernel_rfl
 rw[h]at this
 exact this
theorem e4q(e:YT Tryz.prog Dl): ∀ (B:Nat) (c:Ctx),c.w0.heap.size=B->(∀ i m,0<=i->c.μ0 i m=none)->f0i (Sj B 4 e QY) (fun n cd=>Ba Tryz.prog NR Tryz.f50 n=some cd) tvE c:=by
 rintro B c h g n cd b st a w q hr ⟨rfl,j⟩
 exact Fv e QY a1z (fun x=>by obtain⟨t,l⟩:=x;rfl) (c1v b) h g hr j
theorem b4v:YT Tryz.prog Dl:=(tq Tryz.func81 d5x (tq Tryz.func82 a6s Ze))
theorem Ob:Zo Tryz.prog 50 (fun x:Tm×Unit=>tW x.1) (fun x:Tm×Unit=>Y6 x.1):=Zo.ofM (T:=Dl) (ic:=Sn) (rs:=Dy) (E:=tvE) (sel:=NR) b4v QY Tryz.func50 (by kernel_rfl) (by kernel_rfl) (by kernel_rfl) (e4q b4v) e3t
theorem f9s:XJ Tryz.prog 84 GA (CJ 124):=Dj (T:=c7m) (ic:=b2j) (rs:=a8t) Ze QY Tryz.func84 (by kernel_rfl) (by kernel_rfl) (by kernel_rfl) e4f
theorem c2k{cd:Code}(h:Ba Tryz.prog NR Tryz.f51 0=some cd):Jg Tryz.prog cd=some (.t 11,[12,13],RY,Vs):=by
 have:(Ba Tryz.prog NR Tryz.f51 0).bind (Jg Tryz.prog)=some (.t 11,[12,13],RY,Vs):=by kernel_rfl
 rw[h]at this
 exact this
theorem e9z(e:YT Tryz.prog Bd): ∀ (B:Nat) (c:Ctx),c.w0.heap.size=B->(∀ i m,0<=i->c.μ0 i m=none)->f0i (Sj B 4 e QY) (fun n cd=>Ba Tryz.prog NR Tryz.f51 n=some cd) tdE c:=by
 rintro B c h g n cd b st a w q hr ⟨rfl,j⟩
 exact Fv e QY a1z (fun x=>by obtain⟨t,l⟩:=x;rfl) (c2k b) h g hr j
theorem b7f:YT Tryz.prog Bd:=(tq Tryz.func81 d5x (tq Tryz.func84 f9s (tq Tryz.func83 g3t Ze)))
theorem a1h:Zo Tryz.prog 51 (fun x:Tm×Unit=>tW x.1) (fun x:Tm×Unit=>Uh x.1):=Zo.ofM (T:=Bd) (ic:=RZ) (rs:=SA) (E:=tdE) (sel:=NR) b7f QY Tryz.func51 (by kernel_rfl) (by kernel_rfl) (by kernel_rfl) (e9z b7f) e8i
theorem b1a:Zo Tryz.prog 29 (fun x:Str×Unit=>decide (x.1.s.length<=1048576)) (fun x:Str×Unit=> !(nameI x.1.s)):=dq d8w (tq Tryz.func30 Uz Ze) Tryz.func29
theorem e8h:Zo Tryz.prog 60 (fun x:List Str×FnV 29×Unit=>Xi x.1) (fun x:List Str×FnV 29×Unit=>Yt (fun s:Str=> !(nameI s.s)) x.1):=dq e8k (tq Tryz.func29 b1a Ze) Tryz.func60
theorem e6v:Zo Tryz.prog 28 (fun x:List Str×FnV 29×Unit=>Xi x.1) (fun x:List Str×FnV 29×Unit=>x.1.any fun s:Str=> !(nameI s.s)):=dq e9h (tq Tryz.func60 e8h Ze) Tryz.func28
theorem WU:Zo Tryz.prog 14 (fun x:List Str×Unit=>Xi x.1) (fun x:List Str×Unit=>x.1.all fun s:Str=>nameI s.s):=dq b0m (tq Tryz.func28 e6v Ze) Tryz.func14
theorem KY:Zo Tryz.prog 26 (fun x:Tm×Unit=>tW x.1) (fun x:Tm×Unit=>YK x.1):=dq b0w (tq Tryz.func50 Ob (tq Tryz.func51 a1h (tq Tryz.func14 WU Ze))) Tryz.func26
theorem QG:Zo Tryz.prog 18 (fun _:Str×Unit=>true) (fun x:Str×Unit=>Qi x.1):=dq c7q Ze Tryz.func18
theorem d4p:X0 Tryz.prog 125 TS TY:=Gy (T:=b2l) (ic:=O6) (rs:=FZ) Ze QY Tryz.func125 (by kernel_rfl) (by kernel_rfl) (by kernel_rfl) fun ps h=>e6h (c6t ps h)
theorem f0f:Zo Tryz.prog 85 (fun _:Str×Unit=>true) (fun x:Str×Unit=>JU x.1):=dq c6f (tq Tryz.func125 d4p Ze) Tryz.func85
theorem e7l:Zo Tryz.prog 86 (fun _:Str×Bool×Unit=>true) (fun x:Str×Bool×Unit=>Va x.1 x.2.1):=dq d0n (tq Tryz.func125 d4p Ze) Tryz.func86
theorem MU:Zo Tryz.prog 52 (fun x:Tm×Unit=>tW x.1) (fun x:Tm×Unit=>Jl x.1):=dq e9m (tq Tryz.func85 f0f Ze) Tryz.func52
theorem EH:Zo Tryz.prog 54 (fun x:Tm×Unit=>tW x.1) (fun x:Tm×Unit=>X8 x.1):=dq d0d (tq Tryz.func52 MU (tq Tryz.func86 e7l Ze)) Tryz.func54
theorem Wu:Zo Tryz.prog 15 (fun x:List Str×Unit=>YP x.1) (fun x:List Str×Unit=>Yi x.1):=dq c0i (tq Tryz.func19 a3p Ze) Tryz.func15
theorem f0d:Zo Tryz.prog 89 (fun x:List Lin×FnV 58×Unit=>decide (x.1.length<=1048576)&&x.1.all Zh) (fun x:List Lin×FnV 58×Unit=>Yi (x.1.map Yu)):=dq c8a (tq Tryz.func58 Hy (tq Tryz.func15 Wu Ze)) Tryz.func89
theorem e5d:Zo Tryz.prog 90 (fun x:List Int×FnV 87×Unit=>decide (x.1.length<=1048576)&&Wd x.1) (fun x:List Int×FnV 87×Unit=>Yi (x.1.map Zq)):=dq c7h (tq Tryz.func87 K9 (tq Tryz.func15 Wu Ze)) Tryz.func90
theorem a7y:Zo Tryz.prog 55 (fun x:Tm×Unit=>UK x.1.nd) (fun x:Tm×Unit=>a3j x.1.nd):=dq d8v (tq Tryz.func87 K9 (tq Tryz.func88 f6f Ze)) Tryz.func55
theorem ND:XJ Tryz.prog 132 (U2 5) Ad:=Dj (T:=d4a) (ic:=a7j) (rs:=b2z) (tq Tryz.func157 RG Ze) QY Tryz.func132 (by kernel_rfl) (by kernel_rfl) (by kernel_rfl) e9x
theorem FI:XJ Tryz.prog 96 (U2 5) Ad:=Dj (T:=c6y) (ic:=b1r) (rs:=b3i) (tq Tryz.func132 ND Ze) QY Tryz.func96 (by kernel_rfl) (by kernel_rfl) (by kernel_rfl) f0j
theorem f5k:XJ Tryz.prog 95 (JH 5) OE:=Dj (T:=d5p) (ic:=a8x) (rs:=b1d) (tq Tryz.func96 FI Ze) QY Tryz.func95 (by kernel_rfl) (by kernel_rfl) (by kernel_rfl) e5n
theorem EQ:Zo Tryz.prog 59 (fun x:Arr×Unit=>VH x.1&&WE x.1) (fun x:Arr×Unit=>J7 x.1):=dq b1f (tq Tryz.func94 Bi (tq Tryz.func95 f5k Ze)) Tryz.func59
theorem c3e{N:Nat}(a:Zo Tryz.prog 27 (fun x:Tm×Unit=>(tW x.1&&Ya x.1)&&decide (Z4 x.1<N)) (fun x:Tm×Unit=>Zt x.1)):XJ Tryz.prog 53 (Xt N) O5:=Dj (T:=a7k N) (ic:=Ej) (rs:=Oy) (tq Tryz.func27 a Ze) QY Tryz.func53 (by kernel_rfl) (by kernel_rfl) (by kernel_rfl) (c6u N)
theorem Fb{N:Nat}(a:Zo Tryz.prog 27 (fun x:Tm×Unit=>(tW x.1&&Ya x.1)&&decide (Z4 x.1<N)) (fun x:Tm×Unit=>Zt x.1)):Zo Tryz.prog 57 (fun x:List Tm×FnV 27×Unit=>(tsW x.1&&Ws x.1)&&decide (Yc x.1<N)) (fun x:List Tm×FnV 27×Unit=>Yi (x.1.map Zt)):=dq (d0x N) (tq Tryz.func27 a (tq Tryz.func15 Wu Ze)) Tryz.func57
theorem b0u{N:Nat}(a:Zo Tryz.prog 27 (fun x:Tm×Unit=>(tW x.1&&Ya x.1)&&decide (Z4 x.1<N)) (fun x:Tm×Unit=>Zt x.1)):Zo Tryz.prog 56 (fun x:Tm×Unit=>(tW x.1&&Ya x.1&&decide (x.1.nd.kind=6))&&decide (Yc x.1.ks<N)) (fun x:Tm×Unit=>Q6 x.1):=dq (c0m N) (tq Tryz.func89 f0d (tq Tryz.func87 K9 (tq Tryz.func90 e5d (tq Tryz.func57 (Fb a) Ze)))) Tryz.func56
theorem SC:Zo Tryz.prog 27 (fun x:Tm×Unit=>tW x.1&&Ya x.1) (fun x:Tm×Unit=>Zt x.1):=Zo.rec (fun a=>Z4 a.1) fun N b=>dq (c2b N) (tq Tryz.func52 MU (tq Tryz.func54 EH (tq Tryz.func53 (c3e b) (tq Tryz.func27 b (tq Tryz.func55 a7y (tq Tryz.func56 (b0u b) (tq Tryz.func57 (Fb b) (tq Tryz.func15 Wu (tq Tryz.func58 Hy (tq Tryz.func59 EQ Ze)))))))))) Tryz.func27
theorem a0z:Zo Tryz.prog 12 (fun x:Tm×Unit=>tW x.1) (fun x:Tm×Unit=>K7 x.1):=dq c3w (tq Tryz.func26 KY (tq Tryz.func18 QG (tq Tryz.func27 SC Ze))) Tryz.func12
theorem CW:Zo Tryz.prog 47 (fun x:Tm×Unit=>tW x.1) (fun x:Tm×Unit=>(Z4 x.1:Int)):=Zo.rec (fun a=>Z4 a.1) fun N b=>dq (d0m N) (tq Tryz.func47 b Ze) Tryz.func47
theorem Tp:Zo Tryz.prog 48 (fun x:Tm×Unit=>tW x.1) (fun x:Tm×Unit=>(Yb x.1:Int)):=Zo.rec (fun a=>Z4 a.1) fun N b=>dq (c2w N) (tq Tryz.func48 b Ze) Tryz.func48
theorem JY:Zo Tryz.prog 49 (fun x:Tm×Unit=>tW x.1) (fun x:Tm×Unit=>Xb x.1):=Zo.rec (fun a=>Z4 a.1) fun N b=>dq (c5w N) (tq Tryz.func49 b Ze) Tryz.func49
theorem a9u:Zo Tryz.prog 25 (fun x:Tm×Int×Unit=>tW x.1) (fun x:Tm×Int×Unit=>K5 x.1 x.2.1):=dq c8f (tq Tryz.func47 CW (tq Tryz.func48 Tp (tq Tryz.func49 JY Ze))) Tryz.func25
theorem e0d:Zo Tryz.prog 6 (fun _:Str×Unit=>true) (fun x:Str×Unit=>vT x.1):=dq f8u Ze Tryz.func6
theorem a1k:Zo Tryz.prog 13 (fun _:Str×List Tm×Unit=>true) (fun x:Str×List Tm×Unit=>cT x.1 x.2.1):=dq c3t Ze Tryz.func13
theorem OV:Zo Tryz.prog 5 (fun _:Unit=>true) (fun _:Unit=>true):=dq a8w (tq Tryz.func6 e0d (tq Tryz.func13 a1k (tq Tryz.func12 a0z Ze))) Tryz.func5
theorem EC:Zo Tryz.prog 165 (fun _:UInt8×Unit=>true) (fun x:UInt8×Unit=>digB x.1):=dq d4g Ze Tryz.func165
theorem NQ:Zo Tryz.prog 166 (fun _:UInt8×Unit=>true) (fun x:UInt8×Unit=>lowB x.1):=dq c8i Ze Tryz.func166
theorem Ov:Zo Tryz.prog 140 (fun _:Int×Unit=>true) (fun x:Int×Unit=>Yp x.1):=dq a7n Ze Tryz.func140
theorem SY:Zo Tryz.prog 141 (fun _:Str×Unit=>true) (fun x:Str×Unit=>nameB x.1):=dq c1x (tq Tryz.func165 EC (tq Tryz.func166 NQ Ze)) Tryz.func141
theorem JE:Zo Tryz.prog 112 (fun x:Lin×Unit=>XK x.1) (fun x:Lin×Unit=>Zh x.1):=dq a8y (tq Tryz.func140 Ov (tq Tryz.func141 SY Ze)) Tryz.func112
theorem a0h:Zo Tryz.prog 113 (fun x:Int×Unit=>decide (-1000000000<=x.1)&&decide (x.1<=1000000000)) (fun x:Int×Unit=>Zq x.1):=Zo.rec (fun a=>Ao a.1) fun N b=>dq (c2d N) (tq Tryz.func113 b Ze) Tryz.func113
theorem Jd:Zo Tryz.prog 79 (fun x:Lin×Unit=>Wn x.1) (fun x:Lin×Unit=>(⟨ZE x.1⟩:Str)):=dq b0t (tq Tryz.func112 JE (tq Tryz.func113 a0h Ze)) Tryz.func79
theorem c7b:X0 Tryz.prog 167 KM Xc:=Gy (T:=Y3) (ic:=YM) (rs:=YL) Ze QY Tryz.func167 (by kernel_rfl) (by kernel_rfl) (by kernel_rfl) c0c
theorem c4p:Zo Tryz.prog 167 (fun _:List Int×Unit=>true) (fun x:List Int×Unit=>Y2 x.1):=Zo.ofPure c7b fun⟨l,_⟩ h=>⟨by show(Zr l).all PV.isNum=true;simp,by show Zf _ (.tup [.int .i64 (Y2 ((Zr l).map PV.asInt)).1,.int .i64 (Y2 ((Zr l).map PV.asInt)).2]);rw[Xl];exact Zg (x:=Y2 l) rfl⟩
theorem c2y:Zo Tryz.prog 169 (fun x:List Int×Unit=>decide (x.1.length<=2000000)) (fun x:List Int×Unit=>x.1):=dq b9o Ze Tryz.func169
theorem NF:Zo Tryz.prog 168 (fun _:Str×Int×Unit=>true) (fun x:Str×Int×Unit=>X5 x.1 x.2.1):=dq d5e Ze Tryz.func168
theorem a7d:Zo Tryz.prog 142 (fun x:Str×List Int×List Int×Unit=>decide (x.2.1.length<=2000000)&&decide (x.2.2.1.length<=2000000)) (fun x:Str×List Int×List Int×Unit=>JA x.1 x.2.1 x.2.2.1):=dq c0f (tq Tryz.func167 c4p (tq Tryz.func168 NF (tq Tryz.func169 c2y Ze))) Tryz.func142
theorem Dt:Zo Tryz.prog 114 (fun x:Arr×Unit=>VH x.1) (fun x:Arr×Unit=>WE x.1):=dq d7d (tq Tryz.func142 a7d Ze) Tryz.func114
theorem a8g:Zo Tryz.prog 115 (fun x:Int×Unit=>decide (x.1.natAbs<9223372036854775808)) (fun x:Int×Unit=>Zq x.1):=Zo.rec (fun a=>Ao a.1) fun N b=>dq (d1j N) (tq Tryz.func115 b Ze) Tryz.func115
theorem O0:Zo Tryz.prog 80 (fun x:Arr×Unit=>VH x.1&&WE x.1) (fun x:Arr×Unit=>J7 x.1):=dq d8a (tq Tryz.func114 Dt (tq Tryz.func115 a8g Ze)) Tryz.func80
theorem PD:Zo Tryz.prog 76 (fun x:Int×Unit=>decide (x.1.natAbs<9223372036854775808)) (fun x:Int×Unit=>Zq x.1):=Zo.rec (fun a=>Ao a.1) fun N b=>dq (d4z N) (tq Tryz.func76 b Ze) Tryz.func76
theorem ET:Zo Tryz.prog 40 (fun _:UInt8×Unit=>true) (fun x:UInt8×Unit=>lowB x.1):=dq a7e Ze Tryz.func40
theorem Od:Zo Tryz.prog 41 (fun _:UInt8×Unit=>true) (fun x:UInt8×Unit=>digB x.1):=dq a7z Ze Tryz.func41
theorem TB:Zo Tryz.prog 42 (fun _:Str×Unit=>true) (fun x:Str×Unit=>Q0.contains x.1.s):=dq d9m Ze Tryz.func42
theorem Xg:Zo Tryz.prog 20 (fun x:Str×Unit=>decide (x.1.s.length<=1048576)) (fun x:Str×Unit=>nameI x.1.s):=dq b9n (tq Tryz.func40 ET (tq Tryz.func41 Od (tq Tryz.func42 TB Ze))) Tryz.func20
theorem NI:Zo Tryz.prog 200 (fun x:Str×Unit=>decide (x.1.s.length<=1048576)) (fun x:Str×Unit=>fullI x.1.s):=dq b9w (tq Tryz.func20 Xg Ze) Tryz.func200
theorem Tw:Zo Tryz.prog 164 (fun x:Str×Unit=>decide (x.1.s.length<=1048576)) (fun x:Str×Unit=>Bq x.1.s):=dq c5u (tq Tryz.func20 Xg (tq Tryz.func200 NI Ze)) Tryz.func164
theorem Ef:Zo Tryz.prog 162 (fun x:Tm×Bool×Bool×Bool×Bool×Bool×Unit=>tW x.1) (fun x:Tm×Bool×Bool×Bool×Bool×Bool×Unit=>Yx x.1.nd x.2.1 x.2.2.1 x.2.2.2.1 x.2.2.2.2.1 x.2.2.2.2.2.1):=dq b3k Ze Tryz.func162
theorem N7:Zo Tryz.prog 163 (fun x:List Lin×Unit=>decide (x.1.length<=1048576)&&x.1.all XK) (fun x:List Lin×Unit=>x.1.all Zh):=dq d3m (tq Tryz.func112 JE Ze) Tryz.func163
theorem a4e:Zo Tryz.prog 139 (fun x:Tm×Unit=>tW x.1) (fun x:Tm×Unit=>H5 x.1):=dq c4t (tq Tryz.func20 Xg (tq Tryz.func162 Ef (tq Tryz.func164 Tw (tq Tryz.func163 N7 (tq Tryz.func114 Dt Ze))))) Tryz.func139
theorem b1q:Zo Tryz.prog 106 (fun x:Tm×Unit=>tW x.1) (fun x:Tm×Unit=>Ya x.1):=Zo.rec (fun a=>Z4 a.1) fun N b=>dq (d4h N) (tq Tryz.func106 b (tq Tryz.func139 a4e Ze)) Tryz.func106
theorem F8:Zo Tryz.prog 70 (fun x:Tm×Unit=>tW x.1) (fun x:Tm×Unit=>Y6 x.1):=dq a9l (tq Tryz.func48 Tp (tq Tryz.func47 CW (tq Tryz.func106 b1q Ze))) Tryz.func70
theorem JZ:Zo Tryz.prog 110 (fun _:Str×Bool×Unit=>true) (fun x:Str×Bool×Unit=>Va x.1 x.2.1):=dq d3l Ze Tryz.func110
theorem NW:Zo Tryz.prog 109 (fun _:Str×Unit=>true) (fun x:Str×Unit=>JU x.1):=dq c9i (tq Tryz.func110 JZ Ze) Tryz.func109
theorem a8e:Zo Tryz.prog 107 (fun x:List Str×Str×Unit=>decide (x.1.length<=1048576)) (fun x:List Str×Str×Unit=>Ul x.1 x.2.1):=dq d9z Ze Tryz.func107
theorem a5e:Zo Tryz.prog 71 (fun x:Tm×Unit=>tW x.1) (fun x:Tm×Unit=>J4 x.1):=dq c5t (tq Tryz.func49 JY (tq Tryz.func107 a8e Ze)) Tryz.func71
theorem LW:Zo Tryz.prog 73 (fun x:Tm×Unit=>tW x.1) (fun x:Tm×Unit=>CK x.1):=dq b9s (tq Tryz.func109 NW (tq Tryz.func110 JZ Ze)) Tryz.func73
theorem a8r:Zo Tryz.prog 75 (fun x:Tm×Unit=>tW x.1) (fun x:Tm×Unit=>X8 x.1):=dq d0y (tq Tryz.func73 LW Ze) Tryz.func75
theorem OY:Zo Tryz.prog 111 (fun x:List Lin×Unit=>decide (x.1.length<=1048576)&&x.1.all Zh) (fun x:List Lin×Unit=>Yi (x.1.map Yu)):=dq b0j (tq Tryz.func79 Jd Ze) Tryz.func111
theorem a8h{N:Nat}(a:Zo Tryz.prog 46 (fun x:Tm×Unit=>(tW x.1&&Ya x.1)&&decide (Z4 x.1<N)) (fun x:Tm×Unit=>Zt x.1)):Zo Tryz.prog 74 (fun x:Tm×Bool×Unit=>(tW x.1&&Ya x.1)&&decide (Z4 x.1<N)) (fun x:Tm×Bool×Unit=>Ay x.2.1 x.1):=dq (e1o N) (tq Tryz.func46 a Ze) Tryz.func74
theorem Tn{N:Nat}(a:Zo Tryz.prog 46 (fun x:Tm×Unit=>(tW x.1&&Ya x.1)&&decide (Z4 x.1<N)) (fun x:Tm×Unit=>Zt x.1)):Zo Tryz.prog 78 (fun x:List Tm×Unit=>(tsW x.1&&Ws x.1)&&decide (Yc x.1<N)) (fun x:List Tm×Unit=>Yi (x.1.map Zt)):=dq (c4s N) (tq Tryz.func46 a Ze) Tryz.func78
theorem a1i{N:Nat}(a:Zo Tryz.prog 46 (fun x:Tm×Unit=>(tW x.1&&Ya x.1)&&decide (Z4 x.1<N)) (fun x:Tm×Unit=>Zt x.1)):Zo Tryz.prog 77 (fun x:Tm×Unit=>(tW x.1&&Ya x.1&&decide (x.1.nd.kind=6))&&decide (Yc x.1.ks<N)) (fun x:Tm×Unit=>Q6 x.1):=dq (c0y N) (tq Tryz.func111 OY (tq Tryz.func76 PD (tq Tryz.func78 (Tn a) Ze))) Tryz.func77
theorem a2o:Zo Tryz.prog 46 (fun x:Tm×Unit=>tW x.1&&Ya x.1) (fun x:Tm×Unit=>Zt x.1):=Zo.rec (fun a=>Z4 a.1) fun N b=>dq (c0u N) (tq Tryz.func73 LW (tq Tryz.func75 a8r (tq Tryz.func74 (a8h b) (tq Tryz.func46 b (tq Tryz.func76 PD (tq Tryz.func77 (a1i b) (tq Tryz.func78 (Tn b) (tq Tryz.func79 Jd (tq Tryz.func80 O0 Ze))))))))) Tryz.func46
theorem Sg:Zo Tryz.prog 44 (fun x:Tm×Unit=>tW x.1) (fun x:Tm×Unit=>YK x.1):=dq b1g (tq Tryz.func70 F8 (tq Tryz.func71 a5e (tq Tryz.func20 Xg Ze))) Tryz.func44
theorem a9n:Zo Tryz.prog 101 (fun x:Lin×Unit=>decide (x.1.t.length<=1000000)) (fun x:Lin×Unit=>Vb x.1):=dq a8s Ze Tryz.func101
theorem c4g:Zo Tryz.prog 133 (fun x:Str×Unit=>decide (x.1.s.length<=1048576)) (fun x:Str×Unit=>evB x.1.s):=dq e9u (tq Tryz.func158 c4h Ze) Tryz.func133
theorem c3b:Zo Tryz.prog 159 (fun x:Lin×Unit=>Xy x.1) (fun x:Lin×Unit=> !(Zh x.1)):=dq e3s (tq Tryz.func91 CE Ze) Tryz.func159
theorem e6f:Zo Tryz.prog 135 (fun x:List Lin×FnV 159×Unit=>decide (x.1.length<=1048576)&&x.1.all Xy) (fun x:List Lin×FnV 159×Unit=>Yt (fun l:Lin=> !(Zh l)) x.1):=dq e9k (tq Tryz.func159 c3b Ze) Tryz.func135
theorem e4m:Zo Tryz.prog 99 (fun x:List Lin×FnV 159×Unit=>decide (x.1.length<=1048576)&&x.1.all Xy) (fun x:List Lin×FnV 159×Unit=>x.1.any fun l:Lin=> !(Zh l)):=dq e9i (tq Tryz.func135 e6f Ze) Tryz.func99
theorem CL:Zo Tryz.prog 134 (fun x:Sp×Unit=>Nw x.1) (fun x:Sp×Unit=>KI x.1.row x.1.dims):=dq a7x (tq Tryz.func128 Tf (tq Tryz.func99 e4m Ze)) Tryz.func134
theorem a5m:Zo Tryz.prog 160 (fun x:Sp×Unit=>KI x.1.row x.1.dims) (fun x:Sp×Unit=>(⟨QQ x.1.row x.1.dims⟩:Str)):=dq b9z (tq Tryz.func58 Hy (tq Tryz.func19 a3p Ze)) Tryz.func160
theorem EZ:Zo Tryz.prog 136 (fun x:Sp×Unit=>Nw x.1) (fun x:Sp×Unit=>Nv x.1.row x.1.dims):=dq b2w (tq Tryz.func134 CL (tq Tryz.func160 a5m Ze)) Tryz.func136
theorem Cx:Zo Tryz.prog 98 (fun x:TyS×Unit=>yW x.1) (fun x:TyS×Unit=>Q5 x.1):=dq b1j (tq Tryz.func133 c4g (tq Tryz.func134 CL Ze)) Tryz.func98
theorem a4z:Zo Tryz.prog 102 (fun x:TyS×Unit=>yW x.1&&Q5 x.1) (fun x:TyS×Unit=>(⟨tyT x.1⟩:Str)):=dq c0l (tq Tryz.func136 EZ Ze) Tryz.func102
theorem Ep:Zo Tryz.prog 66 (fun x:TyS×Unit=>yW x.1) (fun x:TyS×Unit=>Jc x.1):=dq a7v (tq Tryz.func98 Cx (tq Tryz.func102 a4z Ze)) Tryz.func66
theorem b1h:Zo Tryz.prog 100 (fun x:Lin×Unit=>Zh x.1) (fun x:Lin×Unit=> !(Kn x.1)):=dq c6k (tq Tryz.func101 a9n (tq Tryz.func14 WU Ze)) Tryz.func100
theorem e8j:Zo Tryz.prog 135 (fun x:List Lin×FnV 100×Unit=>decide (x.1.length<=1048576)&&x.1.all Zh) (fun x:List Lin×FnV 100×Unit=>Yt (fun l:Lin=> !(Kn l)) x.1):=dq e3c (tq Tryz.func100 b1h Ze) Tryz.func135
theorem e5m:Zo Tryz.prog 99 (fun x:List Lin×FnV 100×Unit=>decide (x.1.length<=1048576)&&x.1.all Zh) (fun x:List Lin×FnV 100×Unit=>x.1.any fun l:Lin=> !(Kn l)):=dq e6u (tq Tryz.func135 e8j Ze) Tryz.func99
theorem Ot:Zo Tryz.prog 64 (fun x:TyS×Unit=>yW x.1) (fun x:TyS×Unit=>Y5 x.1):=dq a9r (tq Tryz.func98 Cx (tq Tryz.func14 WU (tq Tryz.func99 e5m Ze))) Tryz.func64
theorem BF:Zo Tryz.prog 31 (fun x:Bool×TyS×Unit=>yW x.2.1) (fun x:Bool×TyS×Unit=>Yz x.1 x.2.1):=dq b3h (tq Tryz.func64 Ot Ze) Tryz.func31
theorem b0b:Zo Tryz.prog 33 (fun x:Pm×Unit=>pW x.1) (fun x:Pm×Unit=> !(BL x.1)):=dq c6z (tq Tryz.func14 WU (tq Tryz.func31 BF Ze)) Tryz.func33
theorem e6n:Zo Tryz.prog 65 (fun x:List Pm×FnV 33×Unit=>decide (x.1.length<=1048576)&&x.1.all pW) (fun x:List Pm×FnV 33×Unit=>Yt (fun p:Pm=> !(BL p)) x.1):=dq e6g (tq Tryz.func33 b0b Ze) Tryz.func65
theorem e2t:Zo Tryz.prog 32 (fun x:List Pm×FnV 33×Unit=>decide (x.1.length<=1048576)&&x.1.all pW) (fun x:List Pm×FnV 33×Unit=>x.1.any fun p:Pm=> !(BL p)):=dq e7w (tq Tryz.func65 e6n Ze) Tryz.func32
theorem CB:Zo Tryz.prog 16 (fun x:Df×Unit=>dW x.1) (fun x:Df×Unit=>ZK x.1):=dq a8c (tq Tryz.func14 WU (tq Tryz.func31 BF (tq Tryz.func26 KY (tq Tryz.func32 e2t Ze)))) Tryz.func16
theorem CQ:Zo Tryz.prog 36 (fun x:Bool×TyS×Unit=>yW x.2.1) (fun x:Bool×TyS×Unit=>(⟨Jw x.1 x.2.1⟩:Str)):=dq a9y (tq Tryz.func66 Ep Ze) Tryz.func36
theorem b3a:Zo Tryz.prog 35 (fun x:Pm×Unit=>pW x.1) (fun x:Pm×Unit=>(⟨pmT x.1⟩:Str)):=dq d3d (tq Tryz.func36 CQ Ze) Tryz.func35
theorem e5k:Zo Tryz.prog 34 (fun x:List Pm×FnV 35×Unit=>decide (x.1.length<=8)&&x.1.all pW) (fun x:List Pm×FnV 35×Unit=>Yi (x.1.map Nt)):=dq c9j (tq Tryz.func35 b3a (tq Tryz.func15 Wu Ze)) Tryz.func34
theorem SH:Zo Tryz.prog 17 (fun x:Df×Unit=>dW x.1&&ZK x.1) (fun x:Df×Unit=>UO x.1):=dq c3g (tq Tryz.func34 e5k (tq Tryz.func36 CQ (tq Tryz.func27 SC Ze))) Tryz.func17
theorem b0o:Zo Tryz.prog 10 (fun x:Df×Unit=>dW x.1) (fun x:Df×Unit=>Cf x.1):=dq d0p (tq Tryz.func16 CB (tq Tryz.func17 SH (tq Tryz.func18 QG Ze))) Tryz.func10
theorem FO:Zo Tryz.prog 7 (fun x:Mdu×Unit=>mW x.1) (fun x:Mdu×Unit=>Jo x.1):=dq d2u (tq Tryz.func14 WU (tq Tryz.func15 Wu (tq Tryz.func16 CB (tq Tryz.func17 SH (tq Tryz.func19 c2u (tq Tryz.func18 QG Ze)))))) Tryz.func7
theorem a9j:Zo Tryz.prog 161 (fun x:Str×Unit=>decide (x.1.s.length<=1048576)) (fun x:Str×Unit=>evB x.1.s):=dq c0d Ze Tryz.func161
theorem b3b:Zo Tryz.prog 137 (fun x:Str×Unit=>decide (x.1.s.length<=1048576)) (fun x:Str×Unit=>MW x.1.s):=dq c0q (tq Tryz.func161 a9j Ze) Tryz.func137
theorem Dk:Zo Tryz.prog 138 (fun x:Sp×Unit=>Nw x.1) (fun x:Sp×Unit=>KI x.1.row x.1.dims):=dq c1z (tq Tryz.func112 JE (tq Tryz.func141 SY Ze)) Tryz.func138
theorem NJ:Zo Tryz.prog 108 (fun x:Sp×Unit=>Nw x.1) (fun x:Sp×Unit=>Nv x.1.row x.1.dims):=dq b9m (tq Tryz.func138 Dk (tq Tryz.func79 Jd Ze)) Tryz.func108
theorem Dm:Zo Tryz.prog 105 (fun x:TyS×Unit=>yW x.1) (fun x:TyS×Unit=>Q5 x.1):=dq c0p (tq Tryz.func137 b3b (tq Tryz.func138 Dk Ze)) Tryz.func105
theorem NH:Zo Tryz.prog 72 (fun x:TyS×Unit=>yW x.1) (fun x:TyS×Unit=>Jc x.1):=dq c5h (tq Tryz.func105 Dm (tq Tryz.func108 NJ Ze)) Tryz.func72
theorem NE:Zo Tryz.prog 69 (fun x:TyS×Unit=>yW x.1) (fun x:TyS×Unit=>Y5 x.1):=dq a7m (tq Tryz.func105 Dm (tq Tryz.func20 Xg Ze)) Tryz.func69
theorem NY:Zo Tryz.prog 43 (fun x:Bool×TyS×Unit=>yW x.2.1) (fun x:Bool×TyS×Unit=>Yz x.1 x.2.1):=dq b2d (tq Tryz.func69 NE Ze) Tryz.func43
theorem J3:Zo Tryz.prog 23 (fun x:Df×Unit=>dW x.1) (fun x:Df×Unit=>ZK x.1):=dq c0r (tq Tryz.func20 Xg (tq Tryz.func43 NY (tq Tryz.func44 Sg Ze))) Tryz.func23
theorem b2y:Zo Tryz.prog 45 (fun x:TyS×Unit=>yW x.1) (fun x:TyS×Unit=>(Jc x.1).1):=dq e5e (tq Tryz.func72 NH Ze) Tryz.func45
theorem SG:Zo Tryz.prog 24 (fun x:Df×Unit=>dW x.1&&ZK x.1) (fun x:Df×Unit=>UO x.1):=dq d7e (tq Tryz.func45 b2y (tq Tryz.func46 a2o Ze)) Tryz.func24
theorem a2h:Zo Tryz.prog 11 (fun x:Df×Unit=>dW x.1) (fun x:Df×Unit=>Cf x.1):=dq e0t (tq Tryz.func23 J3 (tq Tryz.func24 SG Ze)) Tryz.func11
theorem NU:Zo Tryz.prog 22 (fun x:Str×List Str×Unit=>decide (x.1.s.length<=30)&&decide (x.1.s≠[])&&decide (x.2.1.length<=60)&&x.2.1.all fun s:Str=>nameI s.s) (fun x:Str×List Str×Unit=>(⟨Qh (Kv x.1.s x.2.1)⟩:Str)):=dq a8l Ze Tryz.func22
theorem NA:Zo Tryz.prog 21 (fun x:List Str×Unit=>Xi x.1) (fun x:List Str×Unit=>x.1.all fun s:Str=>nameI s.s):=dq a9c (tq Tryz.func20 Xg Ze) Tryz.func21
theorem NZ:Zo Tryz.prog 8 (fun x:Mdu×Unit=>mW x.1) (fun x:Mdu×Unit=>Jo x.1):=dq d2h (tq Tryz.func20 Xg (tq Tryz.func21 NA (tq Tryz.func22 NU (tq Tryz.func23 J3 (tq Tryz.func24 SG Ze))))) Tryz.func8
theorem b2t:Zo Tryz.prog 9 (fun x:Mdu×Unit=>mW x.1) (fun x:Mdu×Unit=>MG x.1):=dq c4j (tq Tryz.func25 a9u Ze) Tryz.func9
theorem NG:Zo Tryz.prog 4 (fun x:Mdu×Unit=>mW x.1) (fun _:Mdu×Unit=>true):=dq e2h (tq Tryz.func5 OV (tq Tryz.func9 b2t (tq Tryz.func7 FO (tq Tryz.func8 NZ (tq Tryz.func10 b0o (tq Tryz.func11 a2h Ze)))))) Tryz.func4
end Go.Proofs.YtkpppjbhmmabeaaGreatDoor
