/-
  Texts of mine that belong together (packed by pack.py), for every input: Post, LaidZ, PlGb, OpPr, OpQd, ShP, Sh, ShB, ShR, ShS, Sk, Cl, ShN, ShM, OkQd.
-/
import Derived.Test.YtkpppjbhmmabeaaGreatDoorChecked
import Derived.Test.YtkpppjbhmmabeaaGreatDoorRows
import Derived.Test.YtkpppjbhmmabeaaGreatDoorKM2
import Derived.Test.YtkpppjbhmmabeaaGreatDoorKM3
import Derived.Test.YtkpppjbhmmabeaaGreatDoorKM4
import Derived.Test.YtkpppjbhmmabeaaGreatDoorKM5
import Derived.Test.YtkpppjbhmmabeaaGreatDoorKM6
import Derived.Below
import Derived.ChangeSame
import Derived.Stop.LaidErr
import Derived.Lib.LaidTab
import Derived.Shelf.Vars
import Derived.KernelRfl
import Derived.Shelf.Strings.Cut
import Derived.Shelf.Strings.OnBuilder
import Derived.Shelf.Strings.Trim
import Derived.Shelf.Small.Wraps
import Derived.Shelf.LaysM
import Derived.Shelf.Strconv.Itoa3
import Derived.Shelf.Strconv.AtoiAll
import Derived.Shelf.Strings.Prefix
import Derived.Shelf.Sort.Plain
import Derived.Shelf.Small.Strs
import Derived.Shelf.Slices.In.SortNone
import Derived.Shelf.SlIter.Sorted
import Derived.Shelf.SlIter.Keys
import Derived.Ground.GgzProg
import Derived.WalkKit
import Derived.Deep.LoopGhost
import Derived.Lib.Walk
import Derived.Lib.SliceRun
import Derived.Shelf.Strings.SlTrimAscii
set_option linter.unusedVariables false
set_option linter.unusedSimpArgs false
namespace Go.Proofs.YtkpppjbhmmabeaaGreatDoor
open Go.RowKit Go.WideShapes Go.ChangeShapes
section
variable {H:Type} {enc:TypeId×Value->H} {P:Program}
theorem NB{f:Func}{s:ChangeSpec}{apart fresh e m:Bool}{W W':World}{args:Array Value}{v:Value}{ds y:List (DataW H)}{a pa pv:List MemPlace}
  (z:DataW.Whole enc P f.params.toList s.vars apart W args.toList ds y a)
  (k : ∀ (b:Nat) (sp:Nat->Bool) (hd:Bool),DataW.TrodAll enc P W' b sp hd f.resultTypes.toList (v.resultList f.resultTypes.size) (s.fn H (ds++y)).results [])
  (h : ∀ sp:Nat->Bool,(∀ p∈a,sp p.block=true)->DataW.TrodAll enc P W' 0 sp true f.params.toList args.toList (s.fn H (ds++y)).args pa)
  (g : ∀ sp:Nat->Bool,(∀ p∈a,sp p.block=true)->DataW.TrodVars enc P W' sp s.vars (s.fn H (ds++y)).vars pv)
  (hps:a=pa++pv) (hb:Below W.heap.size W W')
  (A : ∀ (j:Nat) (t:TypeId) (r:Value),f.resultTypes[j]? = some t->(v.resultList f.resultTypes.size)[j]? = some r->Value.okWide P W' .any 0 t r) :
  s.post enc P f apart fresh e m W args v W':=by
 have u : ∀ p∈a,p.block<W.heap.size:=fun p i=>z.lt p i
 have l : ∀ p∈a,(fun b=>decide (b<W.heap.size)) p.block=true:=fun p i=>by simpa using u p i
 refine⟨ds,y,a,[],pa,pv,z,k _ _ _,h _ l,g _ l,World.keptBut_mono (fun p i=>⟨i,?_⟩) (hb.frame (· ∈ a)),fun _=> ?_⟩
 ·rw[hps,List.mem_append]at i
  exact Or.inr i
 ·obtain⟨_,_,_,_,_,B,hn⟩:=z
  refine⟨A,_,_,([]++pa)++pv,⟨[]++pa,pv,trodAll_append (h _ (fun _ _=>rfl)) (k _ _ _),g _ (fun _ _=>rfl),rfl,?_,?_⟩,?_⟩
  ·intro b off i
   have q:MemPlace.cell b off∈a:=by rw[hps];simpa using i
   rw[hb.frozen (u _ q)]
   exact B b off q
  ·intro ha
   have:=hn ha
   rw[hps]at this
   simpa using this
  ·intro p i _
   rw[hps]
   simpa using i
end
end Go.Proofs.YtkpppjbhmmabeaaGreatDoor
namespace Go.Proofs.YtkpppjbhmmabeaaGreatDoor
open Go.Pl Go.RowKit Go.ChangeShapes
set_option maxRecDepth 100000
theorem b6q{P:Program}{W:World}{n:String}{g:Nat}{cs:Array Value}(a:P.globalNamed n=some g)(h:W.var? P n=some cs):Rl W g=some cs:=by
 unfold World.var? at h
 rw[a]at h
 simp only[Option.bind_some]at h
 unfold Rl
 exact h
theorem f1c:Tryz.prog.globalNamed "internal/strconv.uint64pow10" = some 1:=by kernel_rfl
theorem g1m:Tryz.prog.globalNamed "strconv.ErrRange" = some 3:=by kernel_rfl
theorem g4j:Tryz.prog.globalNamed "strconv.ErrSyntax" = some 2:=by kernel_rfl
theorem c2p:Tryz.prog.underlying 77=some (.interface ((match Tryz.prog.underlying 77 with|some (.interface ms)=>ms|_=>#[]))):=by kernel_rfl
theorem f4w{W:World}{r:List (String×DataW Unit)}(h:laidMet Tryz.prog (("internal/strconv.uint64pow10",Rows.laid_internal_strconv_uint64pow10)::r) W):Rl W 1=some Nl:=by
 have h1:Lib.TabIs Tryz.prog W "internal/strconv.uint64pow10" .u64 ((List.range 20).map fun i=>((10 ^ i:Nat):Int)):=Lib.tabIs_of_head (e:=159) (t:=200) f1c (by kernel_rfl) (n:=20) (by kernel_rfl) (by kernel_rfl) (by kernel_rfl) (by kernel_rfl) h
 exact(b6q f1c h1).trans rfl
theorem c9t{W:World}{n:String}{g:Nat}{text:List UInt8}{r:List (String×DataW Unit)}(hg:Tryz.prog.globalNamed n=some g)(ht:(Tryz.prog.globals[g]?).map (·.type)=some 77)(h:laidMet Tryz.prog ((n,.iface "*errors.errorString" (.ptr (.agg [.lit (.string text)])))::r) W): ∃ cs,Rl W g=some cs∧PP cs:=by
 obtain⟨ps,⟨g0,t0,cs0,f0,p0,q0,hg0,ht0,hv0,hd0,_,e0⟩,_,hrows⟩:=h
 obtain rfl:=Option.some.inj (hg.symm.trans hg0)
 obtain rfl:=Option.some.inj (ht.symm.trans ht0)
 subst e0
 refine⟨cs0,b6q hg hv0,?_⟩
 obtain⟨f1,u,v,e,_⟩:=iface_of_trod c2p hd0
 obtain⟨l0⟩:=cs0
 have e:l0=[.iface u v]:=e
 subst e
 exact⟨_,rfl,.inr ⟨u,v,rfl⟩⟩
theorem g3s{W:World}(h:W.ShapedOpen Tryz.prog): ∃ cs m,Rl W 0=some cs∧cs[0]? = some (Value.int .i64 m):=by
 obtain⟨m,hm⟩:=cell_of_shapedOpen_int (g:=0) (t:=3) (zero:=#[.int .i64 0]) (k:=.i64) h (of_decide_eq_true (by kernel_rfl)) (by kernel_rfl) rfl (by kernel_rfl) (by kernel_rfl) (by kernel_rfl)
 unfold World.cell? at hm
 unfold Rl
 split at hm
 ·rename_i cs T fz a
  exact⟨cs,m,by simp only[a],by simpa using hm⟩
 ·cases hm
theorem e8d{W:World}{x y z:String×DataW Unit}{r:List (String×DataW Unit)}(h:laidMet Tryz.prog (x::y::("internal/strconv.uint64pow10",Rows.laid_internal_strconv_uint64pow10)::z::("strconv.ErrRange",Rows.laid_strconv_ErrRange)::("strconv.ErrSyntax",Rows.laid_strconv_ErrSyntax)::r) W)(hs:W.ShapedOpen Tryz.prog):GlobOK (Rl W):=
 ⟨c9t g4j (by kernel_rfl) h.tail.tail.tail.tail.tail,c9t g1m (by kernel_rfl) h.tail.tail.tail.tail,f4w h.tail.tail,g3s hs⟩
noncomputable def g6d:DataW Unit->Value
 | .lit (.int k n)=>.int k n
 | _=>.int .i64 0
noncomputable def Ng:DataW Unit->Array Value
 | .agg ds=>(ds.flatMap fun | .agg es=>es.map g6d|d=>[g6d d]).toArray
 | _=>#[]
noncomputable def d7b:DataW Unit->ByteArray
 | .iface _ (.ptr (.agg [.lit (.string bs)]))=>⟨bs.toArray⟩
 | _=>⟨#[]⟩
noncomputable def low:Nat:=(World.holding Tryz.prog default ⟨#[],#[],[]⟩).heap.size
noncomputable def a8b(cs:Array Value):Obj->Obj
 | .cells _ t frozen=>.cells cs t frozen
 | o=>o
noncomputable def Ao(os:Os):World:=
 let w0:=World.holding Tryz.prog os ⟨#[.cells #[.string (d7b Rows.laid_strconv_ErrRange)] 229,.cells #[.string (d7b Rows.laid_strconv_ErrSyntax)] 229],#[],[]⟩
 {w0 with heap:=((((((w0.heap.modify 3 (a8b #[.iface 227 (.pointer (some ⟨low,0,none⟩))])).modify 2 (a8b #[.iface 227 (.pointer (some ⟨low+1,0,none⟩))])).modify 1 (a8b (Ng Rows.laid_internal_strconv_uint64pow10))).modify 4 (a8b (Ng Rows.laid_math_bits_deBruijn32tab))).modify 5 (a8b (Ng Rows.laid_math_bits_deBruijn64tab))).modify 7 (a8b (Ng Rows.laid_unicode_utf8_acceptRanges))).modify 6 (a8b (Ng Rows.laid_unicode_utf8_first))}
end Go.Proofs.YtkpppjbhmmabeaaGreatDoor
namespace Go.Pl
open Go.RowKit Go.WideShapes Go.ChangeShapes
abbrev uB{H:Type}(d:DataW H):Nat:=Go.Proofs.YtkpppjbhmmabeaaGreatDoor.Rows.uptoBulk d
abbrev uBs{H:Type}(l:List (DataW H)):Nat:=Go.Proofs.YtkpppjbhmmabeaaGreatDoor.Rows.uptoBulkAll l
theorem Ns{H:Type}(d:DataW H)(l:List (DataW H)):uBs (d::l)=uB d+uBs l:=by unfold uBs uB;rw[Go.Proofs.YtkpppjbhmmabeaaGreatDoor.Rows.uptoBulkAll]
theorem b3b{H:Type}(d:DataW H):1<=uB d:=by
 cases d with
 | lit l=>cases l <;> simp[uB,Go.Proofs.YtkpppjbhmmabeaaGreatDoor.Rows.uptoBulk]
 | _=>simp[uB,Go.Proofs.YtkpppjbhmmabeaaGreatDoor.Rows.uptoBulk]
mutual
def BK:PV->Nat
 | .str s=>s.length+1
 | .sl _ _ xs=>Y6 xs+1
 | .agg xs=>Y6 xs
 | _=>1
def Y6:List PV->Nat
 | []=>0
 | p::ps=>BK p+Y6 ps
end
theorem c9u(a b:List PV):Y6 (a++b)=Y6 a+Y6 b:=by
 induction a with
 | nil=>simp[Y6]
 | cons x a ih=>rw[List.cons_append,Y6,ih,Y6];omega
theorem g6m{P:Program}{e:TypeId}{q:List PV}(a:Xe P e=true∨P.cellsOf e=1)(b:q.length=P.cellsOf e):BK (QC P e q)<=Y6 q:=by
 cases ha:Xe P e with
 | true=>simp only[QC,ha];rw[BK];exact Nat.le_refl _
 | false=>
  have h1:P.cellsOf e=1:=by simpa [ha]using a
  rw[h1]at b
  match q,b with
  | [x],_=>simp only[QC,ha,List.headD_cons];rw[Y6,Y6];exact Nat.le_refl _
theorem b5w{H:Type}{f:List PV->PV}: ∀ {qs:List (List PV)} {xs:List (DataW H×List MemPlace)},qs.length=xs.length->(∀ (i:Nat) (q:List PV) (x:DataW H×List MemPlace),qs[i]? = some q->xs[i]? = some x->BK (f q)<=uB x.1)->Y6 (qs.map f)<=uBs (xs.map (·.1))
 | [],[],_,_=>by simp[Y6]
 | q::qs,x::xs,hl,h=>by
  have h0:=h 0 q x rfl rfl
  have h1:=b5w (qs:=qs) (xs:=xs) (by simpa using hl) fun i q x b a=>h (i+1) q x (by simpa using b) (by simpa using a)
  rw[List.map_cons,Y6,List.map_cons,Ns]
  omega
 | [],_::_,hl,_=>by cases hl
 | _::_,[],hl,_=>by cases hl
def d4m(P:Program)(S:List TypeId):Bool:=S.all fun t=>match P.underlying t with|some (.array _ _)=>false|_=>true
section
variable {H:Type} {enc:TypeId×Value->H} {P:Program} {w:World} {base:Nat} {sp:Nat->Bool} {held:Bool} {S:List TypeId}
theorem EQ{n:Nat}{cs:List Value}(r : ∀ (t:TypeId) (cs:List Value) (x:DataW H×List MemPlace),t∈S->DataW.trod enc P w base sp held n t cs=some x-> ∃ ps,Cl w cs ps∧Wy P n t ps∧Y6 ps<=uB x.1):
  ∀ (b:List Field) (o N:Nat) (xs:List (DataW H×List MemPlace)),JM P o b N=true->(∀ f∈b,f.type∈S)->cs.length=N->o<=N ->
   b.mapM (fun f=>DataW.trod enc P w base sp held n f.type ((cs.drop f.offset).take (P.cellsOf f.type)))=some xs ->
   ∃ ps,Cl w (cs.drop o) ps∧Y6 ps<=uBs (xs.map (·.1))∧ ∀ qs:List PV,qs.length=o->(∀ f∈b,Wy P n f.type (((qs++ps).drop f.offset).take (P.cellsOf f.type))):=by
 intro b
 induction b with
 | nil=>
  intro o N xs hc _ z ho _
  simp[JM]at hc
  refine⟨[],?_,by simp[Y6],fun qs _ f C=>by simp at C⟩
  rw[List.drop_of_length_le (by omega)]
  exact Cl.nil
 | cons f b ihf=>
  intro o N xs hc hm z ho h
  simp only[JM,Bool.and_eq_true,beq_iff_eq]at hc
  obtain⟨i,hc⟩:=hc
  simp only[List.mapM_cons,Option.bind_eq_bind,Option.bind_eq_some_iff]at h
  obtain⟨x,A,q,s,e⟩:=h
  cases e
  obtain⟨m,y,F,w1⟩:=r _ _ x (hm f List.mem_cons_self) A
  have l:o+P.cellsOf f.type<=N:=by
   have : ∀ (b:List Field) (a:Nat),JM P a b N=true->a<=N:=by
    intro b
    induction b with
    | nil=>intro a h;simp[JM]at h;omega
    | cons g b r=>intro a h;simp only[JM,Bool.and_eq_true]at h;have:=r _ h.2;omega
   exact this _ _ hc
  obtain⟨B,D,w2,E⟩:=ihf (o+P.cellsOf f.type) N q hc (fun g k=>hm g (List.mem_cons_of_mem _ k)) z l s
  have j:m.length=P.cellsOf f.type:=by
   rw[<- y.1.1,List.length_take,List.length_drop,i]
   omega
  refine⟨m++B,?_,by rw[c9u,List.map_cons,Ns];omega,fun qs u g k=> ?_⟩
  ·have:=y.append D
   rw[i]at this
   have e:cs.drop o=(cs.drop o).take (P.cellsOf f.type)++cs.drop (o+P.cellsOf f.type):=by rw[<- List.drop_drop,List.take_append_drop]
   rw[e]
   exact this
  ·rcases List.mem_cons.1 k with rfl|k
   ·rw[i,<- u,List.drop_left,<- j,List.take_left]
    exact F
   ·have:=E (qs++m) (by simp[u,j]) g k
    rwa [List.append_assoc]at this
theorem a0b{n:Nat}{e:TypeId}{a:Addr}{len cap:Nat}{xs:List (DataW H×List MemPlace)}(C:0<P.cellsOf e)(D:Xe P e=true∨P.cellsOf e=1)(E:len<=cap)(hmax:cap<=maxLen)
  (Z : ∀ (cs:List Value) (x:DataW H×List MemPlace),DataW.trod enc P w base sp held n e cs=some x-> ∃ ps,Cl w cs ps∧Wy P n e ps∧Y6 ps<=uB x.1)
  (h:(List.range len).mapM (fun i=>(w.cells? base (a.add (i*P.cellsOf e)) (P.cellsOf e)).bind (DataW.trod enc P w base sp held n e))=some xs) :
  ∃ qs:List (List PV),RP (Rl w) (.slice (some a) len cap) (.sl (P.cellsOf e) false (qs.map (QC P e)))∧qs.length<=maxLen∧(∀ q∈qs,q.length=P.cellsOf e∧Wy P n e q)∧Y6 (qs.map (QC P e))<=uBs (xs.map (·.1)):=by
 obtain⟨U,X⟩:=a1o h
 rw[List.length_range]at U
 have N : ∀ i,i<len-> ∃ q:List PV,(q.length=P.cellsOf e∧Wy P n e q∧ ∃ x,xs[i]? = some x∧Y6 q<=uB x.1)∧ ∀ (r:Nat) p,q[r]? = some p-> ∃ v,w.cell? (a.add (i*P.cellsOf e+r))=some v∧v.oneCell'=true∧RP (Rl w) v p:=by
  intro i hi
  have A:=List.getElem?_eq_getElem (show i<xs.length by omega)
  have:=X i i _ (by simp[hi]) A
  rw[Option.bind_eq_some_iff]at this
  obtain⟨cs,h1,h2⟩:=this
  obtain⟨q,J,k2,Y⟩:=Z cs _ h2
  obtain⟨c1,W⟩:=c5e h1
  refine⟨q,⟨by rw[<- J.1.1,c1],k2,_,A,Y⟩,fun r p l=> ?_⟩
  have hr:r<cs.length:=by rw[J.1.1];exact(List.getElem?_eq_some_iff.1 l).1
  have s:=List.getElem?_eq_getElem hr
  refine⟨_,?_,J.2 _ (List.getElem_mem hr),J.1.2 r _ p s l⟩
  rw[<- c2g]
  exact W r _ s
 obtain⟨qs,m,k⟩:=a2a len N
 have g : ∀ q∈qs,(QC P e q).cells=q:=by
  intro q z
  obtain⟨i,hi,rfl⟩:=List.getElem_of_mem z
  have:=(k i _ (List.getElem?_eq_getElem hi)).1
  exact c3f D this.1 fun ha=>d3y this.2.1 ha
 refine⟨qs,?_,by omega,fun q z=> ?_,?_⟩
 ·by_cases h0:len=0
  ·subst h0
   have:qs=[]:=List.length_eq_zero_iff.1 m
   subst this
   exact .sl0 _ _ _ _ fun e=>by cases e
  ·-- the first cell tells the block
   obtain⟨b,off,cs,rfl,hb,-⟩ : ∃ b off cs,a=⟨b,off,none⟩∧Rl w b=some cs∧True:=by
    have L:=List.getElem?_eq_getElem (show 0<qs.length by omega)
    obtain⟨⟨f1,f2,-⟩,f3⟩:=k 0 _ L
    have l:=List.getElem?_eq_getElem (show 0<(qs[0]'(by omega)).length by omega)
    obtain⟨v,s,_⟩:=f3 0 _ l
    simp[Addr.add]at s
    obtain⟨b,off,cs,O,K,_⟩:=MB s
    exact⟨b,off,cs,O,K,trivial⟩
   have hs : ∀ x∈qs.map (QC P e),x.cells.length=P.cellsOf e:=by
    intro x A
    obtain⟨q,z,rfl⟩:=List.mem_map.1 A
    rw[g q z]
    obtain⟨i,hi,rfl⟩:=List.getElem_of_mem z
    exact(k i _ (List.getElem?_eq_getElem hi)).1.1
   have I : ∀ (j:Nat) p,(flat (qs.map (QC P e)))[j]? = some p-> ∃ v,cs[off+j]? = some v∧v.oneCell'=true∧RP (Rl w) v p:=by
    intro j p l
    have hj:j<len*P.cellsOf e:=by
     have:=(List.getElem?_eq_some_iff.1 l).1
     rw[WM hs]at this
     simpa [m]using this
    have hi:j / P.cellsOf e<qs.length:=by rw[m];exact(Nat.div_lt_iff_lt_mul C).2 hj
    have hr:j % P.cellsOf e<P.cellsOf e:=Nat.mod_lt _ C
    have B:=List.getElem?_eq_getElem hi
    have Q:j=j / P.cellsOf e*P.cellsOf e+j % P.cellsOf e:=by rw[Nat.mul_comm];exact(Nat.div_add_mod _ _).symm
    have M:(qs.map (QC P e))[j / P.cellsOf e]? = some (QC P e qs[j / P.cellsOf e]):=by rw[List.getElem?_map,B];rfl
    have F:=a5w hs M hr
    rw[<- Q,g _ (List.getElem_mem hi)]at F
    rw[F]at l
    obtain⟨v,s,h1,h2⟩:=(k _ _ B).2 _ p l
    rw[<- Q,X7]at s
    obtain⟨b',off',cs',O,K,V⟩:=MB s
    cases O
    rw[hb]at K
    cases K
    exact⟨v,V,h1,h2⟩
   have u:len=(qs.map (QC P e)).length:=by simp[m]
   rw[u]
   refine .sl b off cs cap _ false _ (fun j=>(cs[off+j]?).getD default) hb (by rw[<- u];exact E) (fun e=>by cases e) hs (fun j p l=> ?_) (fun j p l=> ?_)
   ·obtain⟨v,h1,h2,h3⟩:=I j p l
    rw[h1]
    exact⟨rfl,h2⟩
   ·obtain⟨v,h1,h2,h3⟩:=I j p l
    rw[h1]
    exact h3
 ·obtain⟨i,hi,rfl⟩:=List.getElem_of_mem z
  have:=(k i _ (List.getElem?_eq_getElem hi)).1
  exact⟨this.1,this.2.1⟩
 ·refine b5w (by rw[m,U]) fun i q x z A=> ?_
  have:=(k i q z).1
  obtain⟨y,T,hw⟩:=this.2.2
  rw[A]at T
  cases T
  have hm:=g6m (P:=P) (e:=e) (q:=q) D this.1
  omega
theorem b1m(z:FZ P S=true)(s:d4m P S=true): ∀ (n:Nat) (t:TypeId) (cs:List Value) (x:DataW H×List MemPlace),t∈S->DataW.trod enc P w base sp held n t cs=some x-> ∃ ps,Cl w cs ps∧Wy P n t ps∧Y6 ps<=uB x.1:=by
  intro n
  induction n with
  | zero=>intro t cs x _ h;simp[DataW.trod]at h
  | succ n ih=>
    intro t cs x ht h
    have b:=Ll z ht
    have i:=List.all_eq_true.1 s t ht
    unfold DataW.trod at h
    unfold Wy
    split at h <;> (try rename_i hu) <;> (try simp only[hu]at b i ⊢) <;> try (cases b;done)
    all_goals first
      | (exact⟨_,Cl.one (.bool _) rfl,⟨_,rfl⟩,b3b _⟩)
      | (split at h
         · rename_i hc
           obtain⟨rfl,y⟩:=hc
           exact⟨_,Cl.one (.int _ _) rfl,⟨_,rfl,y⟩,b3b _⟩
         · cases h)
      | (split at h
         · rename_i hc
           cases h
           refine⟨_,Cl.one (.str _) rfl,⟨_,rfl,hc⟩,?_⟩
           show Y6 [PV.str _]<=Go.Proofs.YtkpppjbhmmabeaaGreatDoor.Rows.uptoBulk (DataW.lit (.string _))
           rw[Go.Proofs.YtkpppjbhmmabeaaGreatDoor.Rows.uptoBulk,Y6,Y6,BK]
           omega
         · cases h)
      | (cases h;done)
      | (cases i;done)
      | skip
    · exact⟨_,Cl.one (.sl0 _ _ _ false (fun e=>by cases e)) rfl,⟨[],rfl,by simp,fun q A=>by simp at A⟩,b3b _⟩
    · rename_i e a len cap
      simp only[Bool.and_eq_true,Bool.or_eq_true,beq_iff_eq,decide_eq_true_eq]at b
      simp only at h
      split at h
      · rename_i hc
        obtain⟨xs,h1,h3⟩:=Option.bind_eq_some_iff.1 h
        obtain⟨ys,h4,rfl⟩:=Option.map_eq_some_iff.1 h3
        obtain⟨qs,g,k,l,r⟩:=a0b b.1.2 b.2 hc.2.1 hc.2.2 (fun cs x m=>ih e cs x (by simpa using b.1.1.2) m) h1
        refine⟨_,Cl.one g rfl,⟨qs,rfl,k,l⟩,?_⟩
        show Y6 [PV.sl _ false (qs.map (QC P e))]<=Go.Proofs.YtkpppjbhmmabeaaGreatDoor.Rows.uptoBulk (DataW.slice (xs.map (·.1)) (ys.map (·.1)))
        rw[Go.Proofs.YtkpppjbhmmabeaaGreatDoor.Rows.uptoBulk,Y6,Y6,BK]
        have:Y6 (qs.map (QC P e))<=Go.Proofs.YtkpppjbhmmabeaaGreatDoor.Rows.uptoBulkAll (xs.map (·.1)):=r
        omega
      · cases h
    · rename_i cs2 u
      simp only[Bool.and_eq_true]at b
      split at h
      · rename_i hc
        rw[Option.map_eq_some_iff]at h
        obtain⟨xs,h1,rfl⟩:=h
        obtain⟨ps,g,l,k⟩:=EQ ih u.toList 0 (P.cellsOf t) xs b.1 (fun f j=>by simpa using List.all_eq_true.1 b.2 f j) hc (Nat.zero_le _) h1
        rw[List.drop_zero]at g
        refine⟨ps,g,⟨by rw[<- g.1.1,hc],fun f j=>by simpa using k [] rfl f j⟩,?_⟩
        show Y6 ps<=Go.Proofs.YtkpppjbhmmabeaaGreatDoor.Rows.uptoBulk (DataW.agg (xs.map (·.1)))
        rw[Go.Proofs.YtkpppjbhmmabeaaGreatDoor.Rows.uptoBulk]
        have:Y6 ps<=Go.Proofs.YtkpppjbhmmabeaaGreatDoor.Rows.uptoBulkAll (xs.map (·.1)):=l
        omega
      · cases h
theorem c2n(m:FZ P S=true)(z:d4m P S=true){t:TypeId}(ht:t∈S){r:Reach}{B:Nat}{v:Value}{d:DataW H}{p:List MemPlace}(e:Value.okWide P w r B t v)(h:DataW.Trod enc P w base sp held t v d p):
  ∃ n q,RP (Rl w) v (QC P t q)∧Wy P n t q∧Y6 q<=uB d:=by
 obtain⟨n,h⟩:=h
 obtain⟨q,i,A,C⟩:=b1m m z n t _ _ ht h
 refine⟨n,q,?_,A,C⟩
 have s:=Ll m ht
 have g:v.cells = #[v]->Xe P t=false->RP (Rl w) v (QC P t q):=by
  intro hc ha
  rw[hc]at i
  have u:=i.1.1
  match q,u with
  | [x],_=>simp only[QC,ha,List.headD_cons];exact i.1.2 0 v x rfl rfl
 have agg : ∀ cs,v = .agg cs->Xe P t=true->RP (Rl w) v (QC P t q):=by
  rintro cs rfl ha
  simp only[QC,ha]
  exact .agg cs q (by have:=i.1.1;simpa [Value.cells]using this) (fun x k=>i.2 x (by simpa [Value.cells]using k)) fun j x y k D=>i.1.2 j x y (by simpa [Value.cells]using k) D
 split at s
 ·rename_i hu
  obtain⟨b,rfl⟩:=okWide_bool hu e
  exact g rfl (by simp[Xe,hu])
 ·rename_i hu
  obtain⟨b,rfl⟩:=okWide_int hu e
  exact g rfl (by simp[Xe,hu])
 ·rename_i hu
  obtain⟨b,rfl⟩:=okWide_string hu e
  exact g rfl (by simp[Xe,hu])
 ·rename_i hu
  obtain⟨a,l,c,rfl⟩:=okWide_slice hu e
  exact g rfl (by simp[Xe,hu])
 ·rename_i hu
  simp only[Value.okWide,hu]at e
  obtain⟨cs,rfl,_⟩:=e
  exact agg cs rfl (by simp[Xe,hu])
 ·rename_i hu
  simp only[Value.okWide,hu]at e
  obtain⟨cs,rfl,_⟩:=e
  exact agg cs rfl (by simp[Xe,hu])
 ·cases s
end
end Go.Pl
namespace Go.Pl
open Enc (enc dec is)
open EncL (encL decL isL)
theorem a7t(l:List Int):Y6 (l.map enc)=l.length:=by
 induction l with
 | nil=>rfl
 | cons a l ih=>rw[List.map_cons,Y6,ih,List.length_cons];show 1+_=_;omega
theorem e9m(l:List Coef):Y6 (l.map enc)=(l.map EZ).sum:=by
 induction l with
 | nil=>rfl
 | cons a l ih=>
  rw[List.map_cons,Y6,ih,List.map_cons,List.sum_cons]
  rfl
theorem b3g(l:List Lin):Y6 (l.map enc)=(l.map Nz).sum:=by
 induction l with
 | nil=>rfl
 | cons a l ih=>
  rw[List.map_cons,Y6,ih,List.map_cons,List.sum_cons]
  congr 1
  show BK (.agg [.int .i64 a.k,.sl 2 false (a.t.map enc)])=_
  simp only[BK,Y6,e9m]
  unfold Nz
  omega
mutual
theorem f1j: ∀ t:Tm,J6 t<=BK (tmP t)
 | .mk n ks=>by
  have h:=d9a ks
  have h1:=a7t n.dims
  have h2:=a7t n.data
  have h3:=a7t n.ranks
  have a:=b3g n.sizes
  rw[tmP,J6]
  show wNd n+UH ks<=BK (.agg [.int .i64 n.kind,.int .i64 n.line,.str n.name.s,.int .i64 n.num,.str n.elem.s,.sl 1 false (n.dims.map enc),.sl 1 false (n.data.map enc),.sl 2 false (n.sizes.map enc),.sl 1 false (n.ranks.map enc),.sl 10 false (DF ks)])
  simp only[BK,Y6,h1,h2,h3,a]
  unfold wNd
  omega
theorem d9a: ∀ ks:List Tm,UH ks<=Y6 (DF ks)
 | []=>by simp[UH,DF,Y6]
 | k::ks=>by
  have h1:=f1j k
  have h2:=d9a ks
  rw[UH,DF,Y6];omega
end
end Go.Pl
namespace Go.Proofs.YtkpppjbhmmabeaaGreatDoor
open Go.Pl
set_option maxRecDepth 100000
open Enc (enc dec is)
open EncL (encL decL isL)
theorem Je:Tryz.prog.underlying 3=some (.int .i64):=by kernel_rfl
theorem Qj:Tryz.prog.underlying 9=some .string:=by kernel_rfl
theorem d0g:Tryz.prog.underlying 24=some (.slice 3):=by kernel_rfl
theorem c7a:Tryz.prog.underlying 85=some (.slice 111):=by kernel_rfl
theorem a2k:Tryz.prog.underlying 27=some (.slice 87):=by kernel_rfl
theorem c7d:Tryz.prog.underlying 23=some (.slice 29):=by kernel_rfl
theorem CJ:Tryz.prog.cellsOf 3=1:=by kernel_rfl
theorem Qi:Tryz.prog.cellsOf 9=1:=by kernel_rfl
theorem a0h:Tryz.prog.cellsOf 24=1:=by kernel_rfl
theorem d1c:Tryz.prog.cellsOf 85=1:=by kernel_rfl
theorem a3k:Tryz.prog.cellsOf 27=1:=by kernel_rfl
theorem e1x:Tryz.prog.cellsOf 23=1:=by kernel_rfl
theorem a3g:Tryz.prog.cellsOf 111=2:=by kernel_rfl
theorem RQ:Tryz.prog.cellsOf 87=2:=by kernel_rfl
theorem a2c:Tryz.prog.cellsOf 26=3:=by kernel_rfl
theorem Nf:Tryz.prog.cellsOf 29=10:=by kernel_rfl
theorem f8p:Xe Tryz.prog 111=true:=by kernel_rfl
theorem f8c:Xe Tryz.prog 87=true:=by kernel_rfl
theorem c6m:Xe Tryz.prog 29=true:=by kernel_rfl
theorem d5a:VY Tryz.prog 111=some [(0,9),(1,3)]:=by kernel_rfl
theorem d0p:VY Tryz.prog 87=some [(0,3),(1,85)]:=by kernel_rfl
theorem d3u:VY Tryz.prog 26=some [(0,9),(1,24),(2,24)]:=by kernel_rfl
theorem d5r:VY Tryz.prog 29=some [(0,3),(1,3),(2,9),(3,3),(4,26),(7,27),(8,24),(9,23)]:=by kernel_rfl
theorem Ka{α:Type}[Enc α]{f:List PV->PV}: ∀ {qs:List (List PV)},(∀ q∈qs,∃ a:α,f q=enc a)-> ∃ l:List α,qs.map f=l.map enc
 | [],_=>⟨[],rfl⟩
 | q::qs,h=>by
  obtain⟨a,e⟩:=h q (by simp)
  obtain⟨l,g⟩:=Ka (qs:=qs) fun x b=>h x (by simp[b])
  exact⟨a::l,by rw[List.map_cons,List.map_cons,e,g]⟩
theorem e3v{n:Nat}{q:List PV}(h:Wy Tryz.prog n 111 q): ∃ t:Coef,QC Tryz.prog 111 q=enc t:=by
 obtain⟨m,_,j,e,h1,_⟩:=XL d5a a3g h
 match q,j with
 | [a,b],_=>
  rw[Qi]at e
  rw[CJ]at h1
  obtain⟨s,g,_⟩:=V8 Qj e
  obtain⟨k,i,_⟩:=QP Je h1
  simp at g i
  subst g i
  exact⟨⟨⟨s⟩,k⟩,by rw[QC,f8p];rfl⟩
theorem OL{n:Nat}{q:List PV}(h:Wy Tryz.prog n 24 q): ∃ l:List Int,q=[enc l]:=by
 obtain⟨a,e,_⟩:=c0d d0g Je CJ h
 exact⟨a,e⟩
theorem b5y{n:Nat}{q:List PV}(h:Wy Tryz.prog n 87 q): ∃ l:Lin,QC Tryz.prog 87 q=enc l:=by
 obtain⟨m,_,j,e,h1,_⟩:=XL d0p RQ h
 match q,j with
 | [a,b],_=>
  rw[CJ]at e
  rw[d1c]at h1
  obtain⟨k,g,_⟩:=QP Je e
  obtain⟨m',_,qs,i,_,u⟩:=WT c7a a3g h1
  obtain⟨l,s⟩:=Ka (α:=Coef) (f:=QC Tryz.prog 111) fun x r=>e3v (u x r).2
  simp at g i
  subst g i
  exact⟨⟨k,l⟩,by rw[QC,f8c,s];rfl⟩
theorem e9c: ∀ (n:Nat) {q:List PV},Wy Tryz.prog n 29 q-> ∃ t:Tm,QC Tryz.prog 29 q=enc t:=by
 intro n
 induction n using Nat.strongRecOn with
 | ind n ih=>
  intro q h
  obtain⟨m,hm,Z,N,h1,h2,h3,z,F,C,J,_⟩:=XL d5r Nf h
  match q,Z with
  | [a,b,c,d,e,f,g,i,j,k],_=>
   rw[CJ]at N h1 h3
   rw[Qi]at h2
   rw[a2c]at z
   rw[a3k]at F
   rw[a0h]at C
   rw[e1x]at J
   obtain⟨Q,B,_⟩:=QP Je N
   obtain⟨W,L,_⟩:=QP Je h1
   obtain⟨v2,O,_⟩:=V8 Qj h2
   obtain⟨v3,u,_⟩:=QP Je h3
   obtain⟨m4,_,_,E,K,P,_⟩:=XL d3u a2c z
   rw[Qi]at E
   rw[a0h]at K P
   obtain⟨v4,D,_⟩:=V8 Qj E
   obtain⟨X,I⟩:=OL K
   obtain⟨S,M⟩:=OL P
   obtain⟨m7,_,qs,y,_,Y⟩:=WT a2k RQ F
   obtain⟨U,s⟩:=Ka (α:=Lin) (f:=QC Tryz.prog 87) fun x l=>b5y (Y x l).2
   obtain⟨v8,H⟩:=OL C
   obtain⟨T,hm9,ts,A,_,ht⟩:=WT c7d Nf J
   obtain⟨V,r⟩:=Ka (α:=Tm) (f:=QC Tryz.prog 29) fun x l=>ih T (by omega) (ht x l).2
   simp at B L O u D I M y H A
   subst B L O u D I M y H A
   exact⟨.mk ⟨Q,W,⟨v2⟩,v3,⟨v4⟩,X,S,U,v8⟩ V,by rw[QC,c6m,Yl,s,r];rfl⟩
end Go.Proofs.YtkpppjbhmmabeaaGreatDoor
namespace Go.Pl
open Enc (enc dec is)
open EncL (encL decL isL)
theorem F8{α:Type}[Enc α]{f:α->Nat}(h : ∀ a:α,f a<=BK (enc a))(l:List α):(l.map f).sum<=Y6 (l.map enc):=by
 induction l with
 | nil=>exact Nat.zero_le _
 | cons a l ih=>
  have:=h a
  rw[List.map_cons,List.map_cons,Y6,List.sum_cons];omega
theorem g8c(p:Pm):wPm p<=BK (enc p):=by
 have h:=b3g p.ty.dims
 show _<=BK (.agg [.str p.name.s,.bool p.given,.str p.ty.elem.s,.str p.ty.row.s,.sl 2 false (p.ty.dims.map enc)])
 simp only[BK,Y6,h]
 unfold wPm wTy
 omega
theorem g4x(s:Str):wSt s<=BK (enc s):=Nat.le_refl _
theorem g8i(d:Df):wDf d<=BK (enc d):=by
 have h:=b3g d.res.dims
 have h1:=F8 g8c d.ps
 have h2:=f1j d.body
 have e:BK (tmP d.body)=BK (.agg [enc d.n.kind,enc d.n.line,enc d.n.name,enc d.n.num,enc d.n.elem,enc d.n.dims,enc d.n.data,enc d.n.sizes,enc d.n.ranks,enc d.ks]):=congrArg BK (Yl d.n d.ks)
 rw[e]at h2
 simp only[BK,Y6]at h2
 show _<=BK (.agg [.str d.name.s,.int .i64 d.line,.sl 5 false (d.ps.map enc),.bool d.given,.str d.res.elem.s,.str d.res.row.s,.sl 2 false (d.res.dims.map enc),enc d.n.kind,enc d.n.line,enc d.n.name,enc d.n.num,enc d.n.elem,enc d.n.dims,enc d.n.data,enc d.n.sizes,enc d.n.ranks,enc d.ks])
 simp only[BK,Y6,h]
 unfold wDf wTy
 omega
theorem g7j(m:Mdu):wMd m<=BK (enc m):=by
 have h1:=F8 g4x m.im
 have h2:=F8 g4x m.ex
 have h3:=F8 g8i m.ds
 show _<=BK (.agg [.str m.name.s,.sl 1 false (m.im.map enc),.sl 1 false (m.ex.map enc),.sl 17 false (m.ds.map enc)])
 simp only[BK,Y6]
 unfold wMd
 omega
end Go.Pl
namespace Go.Proofs.YtkpppjbhmmabeaaGreatDoor
open Go.Pl
set_option maxRecDepth 100000
open Enc (enc dec is)
open EncL (encL decL isL)
theorem b8i:Tryz.prog.underlying 4=some .bool:=by kernel_rfl
theorem e2g:Tryz.prog.underlying 31=some (.slice 9):=by kernel_rfl
theorem c6f:Tryz.prog.underlying 35=some (.slice 61):=by kernel_rfl
theorem d5i:Tryz.prog.underlying 32=some (.slice 41):=by kernel_rfl
theorem b8u:Tryz.prog.cellsOf 4=1:=by kernel_rfl
theorem e2k:Tryz.prog.cellsOf 31=1:=by kernel_rfl
theorem c8n:Tryz.prog.cellsOf 35=1:=by kernel_rfl
theorem d3e:Tryz.prog.cellsOf 32=1:=by kernel_rfl
theorem a2s:Tryz.prog.cellsOf 37=2:=by kernel_rfl
theorem RJ:Tryz.prog.cellsOf 39=3:=by kernel_rfl
theorem a2r:Tryz.prog.cellsOf 61=5:=by kernel_rfl
theorem a4m:Tryz.prog.cellsOf 41=17:=by kernel_rfl
theorem d8x:Tryz.prog.cellsOf 34=4:=by kernel_rfl
theorem f9j:Xe Tryz.prog 61=true:=by kernel_rfl
theorem f4k:Xe Tryz.prog 41=true:=by kernel_rfl
theorem d2e:Xe Tryz.prog 34=true:=by kernel_rfl
theorem g6q:Xe Tryz.prog 9=false:=by kernel_rfl
theorem d7q:VY Tryz.prog 37=some [(0,9),(1,27)]:=by kernel_rfl
theorem d9x:VY Tryz.prog 39=some [(0,9),(1,37)]:=by kernel_rfl
theorem c6p:VY Tryz.prog 61=some [(0,9),(1,4),(2,39)]:=by kernel_rfl
theorem e0t:VY Tryz.prog 41=some [(0,9),(1,3),(2,35),(3,4),(4,39),(7,29)]:=by kernel_rfl
theorem c8v:VY Tryz.prog 34=some [(0,9),(1,31),(2,31),(3,32)]:=by kernel_rfl
theorem c3k{n:Nat}{q:List PV}(h:Wy Tryz.prog n 27 q): ∃ l:List Lin,q=[enc l]:=by
 obtain⟨m,_,qs,e,_,g⟩:=WT a2k RQ h
 obtain⟨l,b⟩:=Ka (α:=Lin) (f:=QC Tryz.prog 87) fun x a=>b5y (g x a).2
 exact⟨l,by rw[e,b];rfl⟩
theorem M3{n:Nat}{q:List PV}(h:Wy Tryz.prog n 31 q): ∃ l:List Str,q=[enc l]:=by
 obtain⟨m,_,qs,e,_,g⟩:=WT e2g Qi h
 obtain⟨l,b⟩:=Ka (α:=Str) (f:=QC Tryz.prog 9) fun x a=>by
  obtain⟨s,e,_⟩:=V8 Qj (g x a).2
  exact⟨⟨s⟩,by rw[QC,g6q,e];rfl⟩
 exact⟨l,by rw[e,b];rfl⟩
theorem b4b{n:Nat}{a b c:PV}(h:Wy Tryz.prog n 39 [a,b,c]): ∃ t:TyS,a = .str t.elem.s∧b = .str t.row.s∧c=enc t.dims:=by
 obtain⟨m,_,_,e,h1,_⟩:=XL d9x RJ h
 rw[Qi]at e
 rw[a2s]at h1
 obtain⟨u,g,_⟩:=V8 Qj e
 obtain⟨m1,_,_,i,l,_⟩:=XL d7q a2s h1
 rw[Qi]at i
 rw[a3k]at l
 obtain⟨q,j,_⟩:=V8 Qj i
 obtain⟨r,k⟩:=c3k l
 simp at g j k
 exact⟨⟨⟨u⟩,⟨q⟩,r⟩,g,j,k⟩
theorem e3c{n:Nat}{q:List PV}(h:Wy Tryz.prog n 61 q): ∃ p:Pm,QC Tryz.prog 61 q=enc p:=by
 obtain⟨m,_,l,g,h1,h2,_⟩:=XL c6p a2r h
 match q,l with
 | [a,b,c,d,e],_=>
  rw[Qi]at g
  rw[b8u]at h1
  rw[RJ]at h2
  obtain⟨u,i,_⟩:=V8 Qj g
  obtain⟨r,j⟩:=Ml b8i h1
  obtain⟨t,k,y,s⟩:=b4b (a:=c) (b:=d) (c:=e) h2
  simp at i j
  subst i j k y s
  exact⟨⟨⟨u⟩,r,t⟩,by rw[QC,f9j];rfl⟩
theorem e8r{n:Nat}{q:List PV}(h:Wy Tryz.prog n 41 q): ∃ d:Df,QC Tryz.prog 41 q=enc d:=by
 obtain⟨m,_,Q,u,h1,h2,h3,k,r,_⟩:=XL e0t a4m h
 match q,Q with
 | [a,b,c,d,e,f,g,x0,x1,x2,x3,x4,x5,x6,x7,x8,x9],_=>
  rw[Qi]at u
  rw[CJ]at h1
  rw[c8n]at h2
  rw[b8u]at h3
  rw[RJ]at k
  rw[Nf]at r
  obtain⟨C,l,_⟩:=V8 Qj u
  obtain⟨H,s,_⟩:=QP Je h1
  obtain⟨m2,_,qs,y,_,M⟩:=WT c6f a2r h2
  obtain⟨S,i⟩:=Ka (α:=Pm) (f:=QC Tryz.prog 61) fun x z=>e3c (M x z).2
  obtain⟨T,j⟩:=Ml b8i h3
  obtain⟨t,E,J,O⟩:=b4b (a:=e) (b:=f) (c:=g) k
  obtain⟨⟨nd,ks⟩,e7⟩:=e9c _ (q:=[x0,x1,x2,x3,x4,x5,x6,x7,x8,x9]) r
  rw[QC,c6m,Yl]at e7
  simp only[if_true,PV.agg.injEq,List.cons.injEq,and_true]at e7
  obtain⟨I,A,P,K,N,U,D,L,F,B⟩:=e7
  simp at l s y j
  subst l s y j E J O I A P K N U D L F B
  exact⟨⟨⟨C⟩,H,S,T,t,nd,ks⟩,by rw[QC,f4k,i];rfl⟩
theorem a6o{n:Nat}{q:List PV}(h:Wy Tryz.prog n 34 q)(hw:Y6 q<=1048576):preT (fun x:Mdu×Unit=>mW x.1) [QC Tryz.prog 34 q]=true:=by
 have i : ∃ m:Mdu,QC Tryz.prog 34 q=enc m:=by
  obtain⟨m,_,B,l,h1,h2,h3,_⟩:=XL c8v d8x h
  match q,B with
  | [a,b,c,d],_=>
   rw[Qi]at l
   rw[e2k]at h1 h2
   rw[d3e]at h3
   obtain⟨z,r,_⟩:=V8 Qj l
   obtain⟨y,k⟩:=M3 h1
   obtain⟨C,s⟩:=M3 h2
   obtain⟨m3,_,qs,j,_,A⟩:=WT d5i a4m h3
   obtain⟨D,g⟩:=Ka (α:=Df) (f:=QC Tryz.prog 41) fun x u=>e8r (A x u).2
   simp at r k s j
   subst r k s j
   exact⟨⟨⟨z⟩,y,C,D⟩,by rw[QC,d2e,g];rfl⟩
 obtain⟨m,e⟩:=i
 rw[e]
 refine Zc (m,()) rfl (decide_eq_true ?_)
 have h1:=g7j m
 have h2:BK (QC Tryz.prog 34 q)<=Y6 q:=by simp only[QC,d2e];rw[BK];exact Nat.le_refl _
 rw[e]at h2
 show wMd m<=1048576
 omega
end Go.Proofs.YtkpppjbhmmabeaaGreatDoor
namespace Go.Proofs.YtkpppjbhmmabeaaGreatDoor
open Go.Shelf
def Tryz.lays145_ren:Go.Shelf.Ren:=⟨fun|145=>171|220=>201|219=>222|217=>232|225=>233|224=>234|267=>235|266=>240|314=>241|n=>n,fun|9=>9|4=>4|59=>166|3=>3|5=>5|46=>152|146=>235|51=>177|n=>n,fun|1=>0|n=>n⟩
theorem Tryz.lays145:Go.Proofs.Lays.n145 Tryz.prog Tryz.lays145_ren:={
 mixed:=by kernel_rfl
 f145:=Tryz.func171.trans (congrArg some (by kernel_rfl))
 f217:=Tryz.func232.trans (congrArg some (by kernel_rfl))
 f219:=Tryz.func222.trans (congrArg some (by kernel_rfl))
 f220:=Tryz.func201.trans (congrArg some (by kernel_rfl))
 f224:=Tryz.func234.trans (congrArg some (by kernel_rfl))
 f225:=Tryz.func233.trans (congrArg some (by kernel_rfl))
 f266:=Tryz.func240.trans (congrArg some (by kernel_rfl))
 f267:=Tryz.func235.trans (congrArg some (by kernel_rfl))
 f314:=Tryz.func241.trans (congrArg some (by kernel_rfl))
 t3:=Tryz.underlying3
 a3:=Tryz.isAgg3
 z3:=Tryz.sizeOf3
 v3:=Tryz.zeroValue3
 t4:=Tryz.underlying4
 a4:=Tryz.isAgg4
 z4:=Tryz.sizeOf4
 v4:=Tryz.zeroValue4
 t5:=Tryz.underlying5
 a5:=Tryz.isAgg5
 z5:=Tryz.sizeOf5
 v5:=Tryz.zeroValue5
 t9:=Tryz.underlying9
 a9:=Tryz.isAgg9
 z9:=Tryz.sizeOf9
 v9:=Tryz.zeroValue9
 t46:=Tryz.underlying152
 a46:=Tryz.isAgg152
 z46:=Tryz.sizeOf152
 v46:=Tryz.zeroValue152
 t51:=Tryz.underlying177
 a51:=Tryz.isAgg177
 z51:=Tryz.sizeOf177
 v51:=Tryz.zeroValue177
 t59:=Tryz.underlying166
 a59:=Tryz.isAgg166
 z59:=Tryz.sizeOf166
 v59:=Tryz.zeroValue166
 t146:=Tryz.underlying235
 a146:=Tryz.isAgg235
 z146:=Tryz.sizeOf235
 v146:=Tryz.zeroValue235
 g1:=by kernel_rfl}
def Tryz.lays156_ren:Go.Shelf.Ren:=⟨fun|156=>19|165=>37|166=>38|169=>39|240=>67|241=>68|276=>103|277=>104|n=>n,fun|31=>31|9=>9|3=>3|4=>4|0=>0|20=>20|72=>74|76=>78|70=>71|37=>72|75=>77|127=>100|164=>130|5=>5|80=>80|n=>n,fun|n=>n⟩
theorem Tryz.lays156:Go.Proofs.Lays.n156 Tryz.prog Tryz.lays156_ren:={
 mixed:=by kernel_rfl
 f156:=Tryz.func19.trans (congrArg some (by kernel_rfl))
 f165:=Tryz.func37.trans (congrArg some (by kernel_rfl))
 f166:=Tryz.func38.trans (congrArg some (by kernel_rfl))
 f169:=Tryz.func39.trans (congrArg some (by kernel_rfl))
 f240:=Tryz.func67.trans (congrArg some (by kernel_rfl))
 f241:=Tryz.func68.trans (congrArg some (by kernel_rfl))
 f276:=Tryz.func103.trans (congrArg some (by kernel_rfl))
 f277:=Tryz.func104.trans (congrArg some (by kernel_rfl))
 t0:=Tryz.underlying0
 a0:=Tryz.isAgg0
 z0:=Tryz.sizeOf0
 v0:=Tryz.zeroValue0
 t3:=Tryz.underlying3
 a3:=Tryz.isAgg3
 z3:=Tryz.sizeOf3
 v3:=Tryz.zeroValue3
 t4:=Tryz.underlying4
 a4:=Tryz.isAgg4
 z4:=Tryz.sizeOf4
 v4:=Tryz.zeroValue4
 t9:=Tryz.underlying9
 a9:=Tryz.isAgg9
 z9:=Tryz.sizeOf9
 v9:=Tryz.zeroValue9
 t20:=Tryz.underlying20
 a20:=Tryz.isAgg20
 z20:=Tryz.sizeOf20
 v20:=Tryz.zeroValue20
 t31:=Tryz.underlying31
 a31:=Tryz.isAgg31
 z31:=Tryz.sizeOf31
 v31:=Tryz.zeroValue31
 t37:=Tryz.underlying72
 a37:=Tryz.isAgg72
 z37:=Tryz.sizeOf72
 v37:=Tryz.zeroValue72
 t70:=Tryz.underlying71
 a70:=Tryz.isAgg71
 z70:=Tryz.sizeOf71
 v70:=Tryz.zeroValue71
 t72:=Tryz.underlying74
 a72:=Tryz.isAgg74
 z72:=Tryz.sizeOf74
 v72:=Tryz.zeroValue74
 t75:=Tryz.underlying77
 a75:=Tryz.isAgg77
 z75:=Tryz.sizeOf77
 v75:=Tryz.zeroValue77
 t76:=Tryz.underlying78
 a76:=Tryz.isAgg78
 z76:=Tryz.sizeOf78
 v76:=Tryz.zeroValue78
 t127:=Tryz.underlying100
 a127:=Tryz.isAgg100
 z127:=Tryz.sizeOf100
 v127:=Tryz.zeroValue100
 t164:=Tryz.underlying130
 a164:=Tryz.isAgg130
 z164:=Tryz.sizeOf130
 v164:=Tryz.zeroValue130}
def Tryz.lays121_ren:Go.Shelf.Ren:=⟨fun|121=>88|214=>127|n=>n,fun|4=>4|9=>9|n=>n,fun|n=>n⟩
theorem Tryz.lays121:Go.Proofs.Lays.n121 Tryz.prog Tryz.lays121_ren:={
 mixed:=by kernel_rfl
 f121:=Tryz.func88.trans (congrArg some (by kernel_rfl))
 f214:=Tryz.func127.trans (congrArg some (by kernel_rfl))
 t4:=Tryz.underlying4
 a4:=Tryz.isAgg4
 z4:=Tryz.sizeOf4
 v4:=Tryz.zeroValue4
 t9:=Tryz.underlying9
 a9:=Tryz.isAgg9
 z9:=Tryz.sizeOf9
 v9:=Tryz.zeroValue9}
def Tryz.lays102_ren:Go.Shelf.Ren:=⟨fun|102=>93|209=>130|207=>153|n=>n,fun|9=>9|4=>4|3=>3|n=>n,fun|n=>n⟩
theorem Tryz.lays102:Go.Proofs.Lays.n102 Tryz.prog Tryz.lays102_ren:={
 mixed:=by kernel_rfl
 f102:=Tryz.func93.trans (congrArg some (by kernel_rfl))
 f207:=Tryz.func153.trans (congrArg some (by kernel_rfl))
 f209:=Tryz.func130.trans (congrArg some (by kernel_rfl))
 t3:=Tryz.underlying3
 a3:=Tryz.isAgg3
 z3:=Tryz.sizeOf3
 v3:=Tryz.zeroValue3
 t4:=Tryz.underlying4
 a4:=Tryz.isAgg4
 z4:=Tryz.sizeOf4
 v4:=Tryz.zeroValue4
 t9:=Tryz.underlying9
 a9:=Tryz.isAgg9
 z9:=Tryz.sizeOf9
 v9:=Tryz.zeroValue9}
def Tryz.lays288_ren:Go.Shelf.Ren:=⟨fun|288=>157|283=>183|284=>184|285=>185|286=>186|129=>182|317=>208|318=>209|319=>210|320=>211|337=>224|338=>225|n=>n,fun|37=>72|53=>159|3=>3|4=>4|9=>9|171=>179|0=>0|173=>181|212=>200|51=>177|5=>5|20=>20|213=>201|46=>152|232=>224|233=>225|n=>n,fun|17=>1|18=>4|19=>5|n=>n⟩
theorem Tryz.lays288:Go.Proofs.LaysM.n288 Tryz.prog Tryz.lays288_ren:={
 mixed:=by kernel_rfl
 f129:=Tryz.func182.trans (congrArg some (by kernel_rfl))
 f283:=Tryz.func183.trans (congrArg some (by kernel_rfl))
 f284:=Tryz.func184.trans (congrArg some (by kernel_rfl))
 f285:=Tryz.func185.trans (congrArg some (by kernel_rfl))
 f286:=Tryz.func186.trans (congrArg some (by kernel_rfl))
 f288:=Tryz.func157.trans (congrArg some (by kernel_rfl))
 f317:=Tryz.func208.trans (congrArg some (by kernel_rfl))
 f318:=Tryz.func209.trans (congrArg some (by kernel_rfl))
 f319:=Tryz.func210.trans (congrArg some (by kernel_rfl))
 f320:=Tryz.func211.trans (congrArg some (by kernel_rfl))
 f337:=Tryz.func224.trans (congrArg some (by kernel_rfl))
 f338:=Tryz.func225.trans (congrArg some (by kernel_rfl))
 t0:=Tryz.underlying0
 a0:=Tryz.isAgg0
 z0:=Tryz.sizeOf0
 v0:=Tryz.zeroValue0
 t3:=Tryz.underlying3
 a3:=Tryz.isAgg3
 z3:=Tryz.sizeOf3
 v3:=Tryz.zeroValue3
 t4:=Tryz.underlying4
 a4:=Tryz.isAgg4
 z4:=Tryz.sizeOf4
 v4:=Tryz.zeroValue4
 t5:=Tryz.underlying5
 a5:=Tryz.isAgg5
 z5:=Tryz.sizeOf5
 v5:=Tryz.zeroValue5
 t9:=Tryz.underlying9
 a9:=Tryz.isAgg9
 z9:=Tryz.sizeOf9
 v9:=Tryz.zeroValue9
 t20:=Tryz.underlying20
 a20:=Tryz.isAgg20
 z20:=Tryz.sizeOf20
 v20:=Tryz.zeroValue20
 t37:=Tryz.underlying72
 a37:=Tryz.isAgg72
 z37:=Tryz.sizeOf72
 v37:=Tryz.zeroValue72
 t46:=Tryz.underlying152
 a46:=Tryz.isAgg152
 z46:=Tryz.sizeOf152
 v46:=Tryz.zeroValue152
 t51:=Tryz.underlying177
 a51:=Tryz.isAgg177
 z51:=Tryz.sizeOf177
 v51:=Tryz.zeroValue177
 t53:=Tryz.underlying159
 a53:=Tryz.isAgg159
 z53:=Tryz.sizeOf159
 v53:=Tryz.zeroValue159
 t171:=Tryz.underlying179
 a171:=Tryz.isAgg179
 z171:=Tryz.sizeOf179
 v171:=Tryz.zeroValue179
 t173:=Tryz.underlying181
 a173:=Tryz.isAgg181
 z173:=Tryz.sizeOf181
 v173:=Tryz.zeroValue181
 t212:=Tryz.underlying200
 a212:=Tryz.isAgg200
 z212:=Tryz.sizeOf200
 v212:=Tryz.zeroValue200
 t213:=Tryz.underlying201
 a213:=Tryz.isAgg201
 z213:=Tryz.sizeOf201
 t232:=Tryz.underlying224
 a232:=Tryz.isAgg224
 z232:=Tryz.sizeOf224
 v232:=Tryz.zeroValue224
 t233:=Tryz.underlying225
 a233:=Tryz.isAgg225
 z233:=Tryz.sizeOf225
 v233:=Tryz.zeroValue225
 g17:=by kernel_rfl
 g18:=by kernel_rfl
 g19:=by kernel_rfl
 i0:=by kernel_rfl
 i3:=by kernel_rfl
 i4:=by kernel_rfl
 i5:=by kernel_rfl
 i9:=by kernel_rfl
 i20:=by kernel_rfl
 i37:=by kernel_rfl
 i46:=by kernel_rfl
 i51:=by kernel_rfl
 i53:=by kernel_rfl
 i171:=by kernel_rfl
 i173:=by kernel_rfl
 i212:=by kernel_rfl
 i232:=by kernel_rfl
 i233:=by kernel_rfl
 m17:=by kernel_rfl
 m18:=by kernel_rfl
 m19:=by kernel_rfl}
def Tryz.lays172_ren:Go.Shelf.Ren:=⟨fun|172=>152|244=>188|245=>189|247=>212|279=>213|280=>214|281=>215|282=>216|287=>226|316=>227|171=>87|205=>228|321=>236|322=>237|243=>126|246=>150|283=>183|284=>184|285=>185|286=>186|129=>182|317=>208|318=>209|319=>210|320=>211|337=>224|338=>225|n=>n,fun|9=>9|3=>3|75=>77|76=>78|4=>4|5=>5|167=>202|37=>72|0=>0|85=>203|2=>2|168=>205|53=>159|175=>216|46=>152|210=>220|127=>100|145=>229|143=>227|21=>21|171=>179|173=>181|212=>200|51=>177|20=>20|213=>201|232=>224|233=>225|80=>80|n=>n,fun|15=>2|16=>3|17=>1|18=>4|19=>5|n=>n⟩
theorem Tryz.lays172:Go.Proofs.LaysC.n172 Tryz.prog Tryz.lays172_ren:={
 mixed:=by kernel_rfl
 f129:=Tryz.func182.trans (congrArg some (by kernel_rfl))
 f171:=Tryz.func87.trans (congrArg some (by kernel_rfl))
 f172:=Tryz.func152.trans (congrArg some (by kernel_rfl))
 f205:=Tryz.func228.trans (congrArg some (by kernel_rfl))
 f243:=Tryz.func126.trans (congrArg some (by kernel_rfl))
 f244:=Tryz.func188.trans (congrArg some (by kernel_rfl))
 f245:=Tryz.func189.trans (congrArg some (by kernel_rfl))
 f246:=Tryz.func150.trans (congrArg some (by kernel_rfl))
 f247:=Tryz.func212.trans (congrArg some (by kernel_rfl))
 f279:=Tryz.func213.trans (congrArg some (by kernel_rfl))
 f280:=Tryz.func214.trans (congrArg some (by kernel_rfl))
 f281:=Tryz.func215.trans (congrArg some (by kernel_rfl))
 f282:=Tryz.func216.trans (congrArg some (by kernel_rfl))
 f283:=Tryz.func183.trans (congrArg some (by kernel_rfl))
 f284:=Tryz.func184.trans (congrArg some (by kernel_rfl))
 f285:=Tryz.func185.trans (congrArg some (by kernel_rfl))
 f286:=Tryz.func186.trans (congrArg some (by kernel_rfl))
 f287:=Tryz.func226.trans (congrArg some (by kernel_rfl))
 f316:=Tryz.func227.trans (congrArg some (by kernel_rfl))
 f317:=Tryz.func208.trans (congrArg some (by kernel_rfl))
 f318:=Tryz.func209.trans (congrArg some (by kernel_rfl))
 f319:=Tryz.func210.trans (congrArg some (by kernel_rfl))
 f320:=Tryz.func211.trans (congrArg some (by kernel_rfl))
 f321:=Tryz.func236.trans (congrArg some (by kernel_rfl))
 f322:=Tryz.func237.trans (congrArg some (by kernel_rfl))
 f337:=Tryz.func224.trans (congrArg some (by kernel_rfl))
 f338:=Tryz.func225.trans (congrArg some (by kernel_rfl))
 t0:=Tryz.underlying0
 a0:=Tryz.isAgg0
 z0:=Tryz.sizeOf0
 v0:=Tryz.zeroValue0
 t2:=Tryz.underlying2
 a2:=Tryz.isAgg2
 z2:=Tryz.sizeOf2
 v2:=Tryz.zeroValue2
 t3:=Tryz.underlying3
 a3:=Tryz.isAgg3
 z3:=Tryz.sizeOf3
 v3:=Tryz.zeroValue3
 t4:=Tryz.underlying4
 a4:=Tryz.isAgg4
 z4:=Tryz.sizeOf4
 v4:=Tryz.zeroValue4
 t5:=Tryz.underlying5
 a5:=Tryz.isAgg5
 z5:=Tryz.sizeOf5
 v5:=Tryz.zeroValue5
 t9:=Tryz.underlying9
 a9:=Tryz.isAgg9
 z9:=Tryz.sizeOf9
 v9:=Tryz.zeroValue9
 t20:=Tryz.underlying20
 a20:=Tryz.isAgg20
 z20:=Tryz.sizeOf20
 v20:=Tryz.zeroValue20
 t21:=Tryz.underlying21
 a21:=Tryz.isAgg21
 z21:=Tryz.sizeOf21
 v21:=Tryz.zeroValue21
 t37:=Tryz.underlying72
 a37:=Tryz.isAgg72
 z37:=Tryz.sizeOf72
 v37:=Tryz.zeroValue72
 t46:=Tryz.underlying152
 a46:=Tryz.isAgg152
 z46:=Tryz.sizeOf152
 v46:=Tryz.zeroValue152
 t51:=Tryz.underlying177
 a51:=Tryz.isAgg177
 z51:=Tryz.sizeOf177
 v51:=Tryz.zeroValue177
 t53:=Tryz.underlying159
 a53:=Tryz.isAgg159
 z53:=Tryz.sizeOf159
 v53:=Tryz.zeroValue159
 t75:=Tryz.underlying77
 a75:=Tryz.isAgg77
 z75:=Tryz.sizeOf77
 v75:=Tryz.zeroValue77
 t76:=Tryz.underlying78
 a76:=Tryz.isAgg78
 z76:=Tryz.sizeOf78
 v76:=Tryz.zeroValue78
 t85:=Tryz.underlying203
 a85:=Tryz.isAgg203
 z85:=Tryz.sizeOf203
 v85:=Tryz.zeroValue203
 t127:=Tryz.underlying100
 a127:=Tryz.isAgg100
 z127:=Tryz.sizeOf100
 v127:=Tryz.zeroValue100
 t143:=Tryz.underlying227
 a143:=Tryz.isAgg227
 z143:=Tryz.sizeOf227
 v143:=Tryz.zeroValue227
 t145:=Tryz.underlying229
 a145:=Tryz.isAgg229
 z145:=Tryz.sizeOf229
 v145:=Tryz.zeroValue229
 t167:=Tryz.underlying202
 a167:=Tryz.isAgg202
 z167:=Tryz.sizeOf202
 v167:=Tryz.zeroValue202
 t168:=Tryz.underlying205
 a168:=Tryz.isAgg205
 z168:=Tryz.sizeOf205
 v168:=Tryz.zeroValue205
 t171:=Tryz.underlying179
 a171:=Tryz.isAgg179
 z171:=Tryz.sizeOf179
 v171:=Tryz.zeroValue179
 t173:=Tryz.underlying181
 a173:=Tryz.isAgg181
 z173:=Tryz.sizeOf181
 v173:=Tryz.zeroValue181
 t175:=Tryz.underlying216
 a175:=Tryz.isAgg216
 z175:=Tryz.sizeOf216
 v175:=Tryz.zeroValue216
 t210:=Tryz.underlying220
 a210:=Tryz.isAgg220
 z210:=Tryz.sizeOf220
 v210:=Tryz.zeroValue220
 t212:=Tryz.underlying200
 a212:=Tryz.isAgg200
 z212:=Tryz.sizeOf200
 v212:=Tryz.zeroValue200
 t213:=Tryz.underlying201
 a213:=Tryz.isAgg201
 z213:=Tryz.sizeOf201
 t232:=Tryz.underlying224
 a232:=Tryz.isAgg224
 z232:=Tryz.sizeOf224
 v232:=Tryz.zeroValue224
 t233:=Tryz.underlying225
 a233:=Tryz.isAgg225
 z233:=Tryz.sizeOf225
 v233:=Tryz.zeroValue225
 g15:=by kernel_rfl
 g16:=by kernel_rfl
 g17:=by kernel_rfl
 g18:=by kernel_rfl
 g19:=by kernel_rfl
 t80:=Tryz.underlying80
 a80:=Tryz.isAgg80
 z80:=Tryz.sizeOf80
 v80:=Tryz.zeroValue80
 i0:=by kernel_rfl
 i2:=by kernel_rfl
 i3:=by kernel_rfl
 i4:=by kernel_rfl
 i5:=by kernel_rfl
 i9:=by kernel_rfl
 i20:=by kernel_rfl
 i21:=by kernel_rfl
 i37:=by kernel_rfl
 i46:=by kernel_rfl
 i51:=by kernel_rfl
 i53:=by kernel_rfl
 i75:=by kernel_rfl
 i76:=by kernel_rfl
 i80:=by kernel_rfl
 i85:=by kernel_rfl
 i127:=by kernel_rfl
 i143:=by kernel_rfl
 i145:=by kernel_rfl
 i167:=by kernel_rfl
 i168:=by kernel_rfl
 i171:=by kernel_rfl
 i173:=by kernel_rfl
 i175:=by kernel_rfl
 i210:=by kernel_rfl
 i212:=by kernel_rfl
 i232:=by kernel_rfl
 i233:=by kernel_rfl
 m15:=by kernel_rfl
 m16:=by kernel_rfl
 m17:=by kernel_rfl
 m18:=by kernel_rfl
 m19:=by kernel_rfl
 c0:=by kernel_rfl
 c2:=by kernel_rfl
 c3:=by kernel_rfl
 c4:=by kernel_rfl
 c5:=by kernel_rfl
 c9:=by kernel_rfl
 c20:=by kernel_rfl
 c21:=by kernel_rfl
 c37:=by kernel_rfl
 c46:=by kernel_rfl
 c51:=by kernel_rfl
 c53:=by kernel_rfl
 c75:=by kernel_rfl
 c76:=by kernel_rfl
 c80:=by kernel_rfl
 c85:=by kernel_rfl
 c127:=by kernel_rfl
 c143:=by kernel_rfl
 c145:=by kernel_rfl
 c167:=by kernel_rfl
 c168:=by kernel_rfl
 c171:=by kernel_rfl
 c173:=by kernel_rfl
 c175:=by kernel_rfl
 c210:=by kernel_rfl
 c212:=by kernel_rfl
 c213:=by kernel_rfl
 c232:=by kernel_rfl
 c233:=by kernel_rfl}
def Tryz.lays171_ren:Go.Shelf.Ren:=⟨fun|171=>87|243=>126|246=>150|283=>183|284=>184|285=>185|286=>186|129=>182|317=>208|318=>209|319=>210|320=>211|337=>224|338=>225|n=>n,fun|3=>3|9=>9|2=>2|4=>4|171=>179|0=>0|53=>159|37=>72|5=>5|173=>181|212=>200|51=>177|20=>20|213=>201|46=>152|232=>224|233=>225|n=>n,fun|17=>1|18=>4|19=>5|n=>n⟩
theorem Tryz.lays171:Go.Proofs.LaysM.n171 Tryz.prog Tryz.lays171_ren:={
 mixed:=by kernel_rfl
 f129:=Tryz.func182.trans (congrArg some (by kernel_rfl))
 f171:=Tryz.func87.trans (congrArg some (by kernel_rfl))
 f243:=Tryz.func126.trans (congrArg some (by kernel_rfl))
 f246:=Tryz.func150.trans (congrArg some (by kernel_rfl))
 f283:=Tryz.func183.trans (congrArg some (by kernel_rfl))
 f284:=Tryz.func184.trans (congrArg some (by kernel_rfl))
 f285:=Tryz.func185.trans (congrArg some (by kernel_rfl))
 f286:=Tryz.func186.trans (congrArg some (by kernel_rfl))
 f317:=Tryz.func208.trans (congrArg some (by kernel_rfl))
 f318:=Tryz.func209.trans (congrArg some (by kernel_rfl))
 f319:=Tryz.func210.trans (congrArg some (by kernel_rfl))
 f320:=Tryz.func211.trans (congrArg some (by kernel_rfl))
 f337:=Tryz.func224.trans (congrArg some (by kernel_rfl))
 f338:=Tryz.func225.trans (congrArg some (by kernel_rfl))
 t0:=Tryz.underlying0
 a0:=Tryz.isAgg0
 z0:=Tryz.sizeOf0
 v0:=Tryz.zeroValue0
 t2:=Tryz.underlying2
 a2:=Tryz.isAgg2
 z2:=Tryz.sizeOf2
 v2:=Tryz.zeroValue2
 t3:=Tryz.underlying3
 a3:=Tryz.isAgg3
 z3:=Tryz.sizeOf3
 v3:=Tryz.zeroValue3
 t4:=Tryz.underlying4
 a4:=Tryz.isAgg4
 z4:=Tryz.sizeOf4
 v4:=Tryz.zeroValue4
 t5:=Tryz.underlying5
 a5:=Tryz.isAgg5
 z5:=Tryz.sizeOf5
 v5:=Tryz.zeroValue5
 t9:=Tryz.underlying9
 a9:=Tryz.isAgg9
 z9:=Tryz.sizeOf9
 v9:=Tryz.zeroValue9
 t20:=Tryz.underlying20
 a20:=Tryz.isAgg20
 z20:=Tryz.sizeOf20
 v20:=Tryz.zeroValue20
 t37:=Tryz.underlying72
 a37:=Tryz.isAgg72
 z37:=Tryz.sizeOf72
 v37:=Tryz.zeroValue72
 t46:=Tryz.underlying152
 a46:=Tryz.isAgg152
 z46:=Tryz.sizeOf152
 v46:=Tryz.zeroValue152
 t51:=Tryz.underlying177
 a51:=Tryz.isAgg177
 z51:=Tryz.sizeOf177
 v51:=Tryz.zeroValue177
 t53:=Tryz.underlying159
 a53:=Tryz.isAgg159
 z53:=Tryz.sizeOf159
 v53:=Tryz.zeroValue159
 t171:=Tryz.underlying179
 a171:=Tryz.isAgg179
 z171:=Tryz.sizeOf179
 v171:=Tryz.zeroValue179
 t173:=Tryz.underlying181
 a173:=Tryz.isAgg181
 z173:=Tryz.sizeOf181
 v173:=Tryz.zeroValue181
 t212:=Tryz.underlying200
 a212:=Tryz.isAgg200
 z212:=Tryz.sizeOf200
 v212:=Tryz.zeroValue200
 t213:=Tryz.underlying201
 a213:=Tryz.isAgg201
 z213:=Tryz.sizeOf201
 t232:=Tryz.underlying224
 a232:=Tryz.isAgg224
 z232:=Tryz.sizeOf224
 v232:=Tryz.zeroValue224
 t233:=Tryz.underlying225
 a233:=Tryz.isAgg225
 z233:=Tryz.sizeOf225
 v233:=Tryz.zeroValue225
 g17:=by kernel_rfl
 g18:=by kernel_rfl
 g19:=by kernel_rfl
 i0:=by kernel_rfl
 i2:=by kernel_rfl
 i3:=by kernel_rfl
 i4:=by kernel_rfl
 i5:=by kernel_rfl
 i9:=by kernel_rfl
 i20:=by kernel_rfl
 i37:=by kernel_rfl
 i46:=by kernel_rfl
 i51:=by kernel_rfl
 i53:=by kernel_rfl
 i171:=by kernel_rfl
 i173:=by kernel_rfl
 i212:=by kernel_rfl
 i232:=by kernel_rfl
 i233:=by kernel_rfl
 m17:=by kernel_rfl
 m18:=by kernel_rfl
 m19:=by kernel_rfl}
def Tryz.lays99_ren:Go.Shelf.Ren:=⟨fun|99=>151|206=>187|n=>n,fun|9=>9|4=>4|3=>3|n=>n,fun|n=>n⟩
theorem Tryz.lays99:Go.Proofs.Lays.n99 Tryz.prog Tryz.lays99_ren:={
 mixed:=by kernel_rfl
 f99:=Tryz.func151.trans (congrArg some (by kernel_rfl))
 f206:=Tryz.func187.trans (congrArg some (by kernel_rfl))
 t3:=Tryz.underlying3
 a3:=Tryz.isAgg3
 z3:=Tryz.sizeOf3
 v3:=Tryz.zeroValue3
 t4:=Tryz.underlying4
 a4:=Tryz.isAgg4
 z4:=Tryz.sizeOf4
 v4:=Tryz.zeroValue4
 t9:=Tryz.underlying9
 a9:=Tryz.isAgg9
 z9:=Tryz.sizeOf9
 v9:=Tryz.zeroValue9}
def Tryz.lays190_ren:Go.Shelf.Ren:=⟨fun|190=>123|125=>149|258=>148|128=>181|129=>182|302=>172|303=>173|304=>174|305=>175|306=>176|307=>177|308=>178|309=>179|310=>180|333=>202|329=>203|330=>204|334=>205|335=>206|336=>207|344=>223|n=>n,fun|31=>31|9=>9|3=>3|46=>152|0=>0|51=>177|53=>159|4=>4|183=>170|182=>169|131=>174|5=>5|218=>192|222=>196|228=>213|229=>214|n=>n,fun|n=>n⟩
theorem Tryz.lays190:Go.Proofs.Lays.n190 Tryz.prog Tryz.lays190_ren:={
 mixed:=by kernel_rfl
 f125:=Tryz.func149.trans (congrArg some (by kernel_rfl))
 f128:=Tryz.func181.trans (congrArg some (by kernel_rfl))
 f129:=Tryz.func182.trans (congrArg some (by kernel_rfl))
 f190:=Tryz.func123.trans (congrArg some (by kernel_rfl))
 f258:=Tryz.func148.trans (congrArg some (by kernel_rfl))
 f302:=Tryz.func172.trans (congrArg some (by kernel_rfl))
 f303:=Tryz.func173.trans (congrArg some (by kernel_rfl))
 f304:=Tryz.func174.trans (congrArg some (by kernel_rfl))
 f305:=Tryz.func175.trans (congrArg some (by kernel_rfl))
 f306:=Tryz.func176.trans (congrArg some (by kernel_rfl))
 f307:=Tryz.func177.trans (congrArg some (by kernel_rfl))
 f308:=Tryz.func178.trans (congrArg some (by kernel_rfl))
 f309:=Tryz.func179.trans (congrArg some (by kernel_rfl))
 f310:=Tryz.func180.trans (congrArg some (by kernel_rfl))
 f329:=Tryz.func203.trans (congrArg some (by kernel_rfl))
 f330:=Tryz.func204.trans (congrArg some (by kernel_rfl))
 f333:=Tryz.func202.trans (congrArg some (by kernel_rfl))
 f334:=Tryz.func205.trans (congrArg some (by kernel_rfl))
 f335:=Tryz.func206.trans (congrArg some (by kernel_rfl))
 f336:=Tryz.func207.trans (congrArg some (by kernel_rfl))
 f344:=Tryz.func223.trans (congrArg some (by kernel_rfl))
 t0:=Tryz.underlying0
 a0:=Tryz.isAgg0
 z0:=Tryz.sizeOf0
 v0:=Tryz.zeroValue0
 t3:=Tryz.underlying3
 a3:=Tryz.isAgg3
 z3:=Tryz.sizeOf3
 v3:=Tryz.zeroValue3
 t4:=Tryz.underlying4
 a4:=Tryz.isAgg4
 z4:=Tryz.sizeOf4
 v4:=Tryz.zeroValue4
 t5:=Tryz.underlying5
 a5:=Tryz.isAgg5
 z5:=Tryz.sizeOf5
 v5:=Tryz.zeroValue5
 t9:=Tryz.underlying9
 a9:=Tryz.isAgg9
 z9:=Tryz.sizeOf9
 v9:=Tryz.zeroValue9
 t31:=Tryz.underlying31
 a31:=Tryz.isAgg31
 z31:=Tryz.sizeOf31
 v31:=Tryz.zeroValue31
 t46:=Tryz.underlying152
 a46:=Tryz.isAgg152
 z46:=Tryz.sizeOf152
 v46:=Tryz.zeroValue152
 t51:=Tryz.underlying177
 a51:=Tryz.isAgg177
 z51:=Tryz.sizeOf177
 v51:=Tryz.zeroValue177
 t53:=Tryz.underlying159
 a53:=Tryz.isAgg159
 z53:=Tryz.sizeOf159
 v53:=Tryz.zeroValue159
 t131:=Tryz.underlying174
 a131:=Tryz.isAgg174
 z131:=Tryz.sizeOf174
 v131:=Tryz.zeroValue174
 t182:=Tryz.underlying169
 a182:=Tryz.isAgg169
 z182:=Tryz.sizeOf169
 v182:=Tryz.zeroValue169
 t183:=Tryz.underlying170
 a183:=Tryz.isAgg170
 z183:=Tryz.sizeOf170
 v183:=Tryz.zeroValue170
 t218:=Tryz.underlying192
 a218:=Tryz.isAgg192
 z218:=Tryz.sizeOf192
 v218:=Tryz.zeroValue192
 t222:=Tryz.underlying196
 a222:=Tryz.isAgg196
 z222:=Tryz.sizeOf196
 v222:=Tryz.zeroValue196
 t228:=Tryz.underlying213
 a228:=Tryz.isAgg213
 z228:=Tryz.sizeOf213
 v228:=Tryz.zeroValue213
 t229:=Tryz.underlying214
 a229:=Tryz.isAgg214
 z229:=Tryz.sizeOf214
 v229:=Tryz.zeroValue214}
end Go.Proofs.YtkpppjbhmmabeaaGreatDoor
namespace Go.Proofs.YtkpppjbhmmabeaaGreatDoor
open Go.Pl Go.RowKit
open Enc (enc dec is)
open EncL (encL decL isL)
set_option maxRecDepth 100000
theorem Dv:Zo Tryz.prog 151 (fun _:Str×Str×Unit=>true) (fun x:Str×Str×Unit=>x.2.1.s.isPrefixOf x.1.s):=YR (by
  rintro⟨⟨s⟩,⟨p⟩,⟨⟩⟩ hps Φ w vs hL hΦ hv
  obtain⟨u,v,rfl,h1,h2⟩:=c3d hv
  rw[VN h1,VN h2]
  refine(Any.strings_HasPrefix Tryz.lays99 ⟨s.toArray⟩ ⟨p.toArray⟩ w).mono ?_
  rintro e w' ⟨rfl,rfl⟩
  exact⟨_,rfl,.bool _,.refl _ _⟩)
theorem e2d:Zo Tryz.prog 152 (fun x:Str×Unit=>decide (x.1.s.length<=1000000)) (fun x:Str×Unit=>YN x.1):=YR (by
  rintro⟨⟨s⟩,⟨⟩⟩ hps Φ w vs hL hΦ a
  have hs:s.length<=1000000:=by simpa using hps
  obtain⟨v,rfl,h1⟩:=e6t a
  rw[VN h1]
  have g:(⟨s.toArray⟩:ByteArray).size=s.length:=rfl
  cases h:Lib.atoiAll s
  ·rename_i n
   have k:YN ⟨s⟩=(n,⟨false⟩):=by simp only[YN,h]
   rw[k]
   refine(Any.strconv_Atoi_ok Tryz.lays172 ⟨s.toArray⟩ (by rw[g];omega) n h w).mono ?_
   rintro e w' ⟨rfl,m⟩
   refine⟨_,rfl,.tup _ _ rfl ?_,?_⟩
   ·intro j v x a b
    match j with
    | 0=>cases a;cases b;exact .int _ _
    | 1=>cases a;cases b;exact .nili
    | j+2=>simp at a
   ·rcases m with rfl|⟨t,rfl⟩
    ·exact .refl _ _
    ·exact Tc _ _ 0 _
  ·skip
   have k:YN ⟨s⟩=(0,⟨true⟩):=by simp only[YN,h]
   rw[k]
   obtain⟨cs,hc,ev,l,i⟩:=hL.syn
   refine(Any.strconv_Atoi_syntax Tryz.lays172 ⟨s.toArray⟩ (by rw[g];omega) h ev w (K5 hΦ hc l) i).mono ?_
   rintro e w' ⟨N,rfl,_,_,hb⟩
   refine⟨_,rfl,.tup _ _ rfl ?_,hb⟩
   intro j v x a b
   match j with
   | 0=>cases a;cases b;exact .int _ _
   | 1=>cases a;cases b;exact .ifc _ _
   | j+2=>simp at a
  ·skip
   have k:YN ⟨s⟩=(Lib.atoiSat s,⟨true⟩):=by simp only[YN,h]
   rw[k]
   obtain⟨cs,hc,ev,l,i⟩:=hL.rng
   refine(Any.strconv_Atoi_range Tryz.lays172 ⟨s.toArray⟩ (by rw[g];omega) h ev w (K5 hΦ hc l) i).mono ?_
   rintro e w' ⟨N,rfl,_,_,hb⟩
   refine⟨_,rfl,.tup _ _ rfl ?_,hb⟩
   intro j v x a b
   match j with
   | 0=>cases a;cases b;exact .int _ _
   | 1=>cases a;cases b;exact .ifc _ _
   | j+2=>simp at a)
theorem KF:Zo Tryz.prog 87 (fun x:Int×Unit=>decide (-9223372036854775808<=x.1)&&decide (x.1<=9223372036854775807)) (fun x:Int×Unit=>Zp x.1):=YR (by
  rintro⟨n,⟨⟩⟩ hps Φ w vs hL hΦ hv
  obtain⟨v,rfl,h1⟩:=e6t hv
  have h1:RP Φ v (.int .i64 n):=h1
  rw[f6y h1]
  have hn : -9223372036854775808<=n∧n<=9223372036854775807:=by simpa using hps
  have hg:=hL.pow
  obtain⟨T,fz,hh⟩:=hΦ _ _ hg
  refine(Any.strconv_Itoa Tryz.lays171 n hn.1 hn.2 w ?_).mono ?_
  ·unfold Lib.TabIs World.var?
   rw[show Program.globalNamed Tryz.prog "internal/strconv.uint64pow10" = some 1 by kernel_rfl]
   simp only[Option.bind_some,hh]
   rfl
  ·rintro e w' ⟨rfl,k,os,rfl⟩
   refine⟨_,rfl,.str _,?_⟩
   exact⟨rfl,rfl,rfl,by show w.heap.size<=(w.heap++os).size;simp,fun j hj=>by show(w.heap++os)[j]? = _;rw[Array.getElem?_append_left hj]⟩)
end Go.Proofs.YtkpppjbhmmabeaaGreatDoor
namespace Go.Proofs.YtkpppjbhmmabeaaGreatDoor
open Go.Pl Go.RowKit
open Enc (enc dec is)
open EncL (encL decL isL)
set_option maxRecDepth 100000
theorem f1q: ∀ s:List UInt8,((s.dropWhile fun c=>c != 46)=[]->Lib.index s [46] = -1) ∧
  ∀ (c:UInt8) (r:List UInt8),(s.dropWhile fun c=>c != 46)=c::r->Lib.index s [46]=((s.takeWhile fun c=>c != 46).length:Nat)∧s.drop ((s.takeWhile fun c=>c != 46).length+1)=r∧s.take (s.takeWhile fun c=>c != 46).length=s.takeWhile fun c=>c != 46
 | []=>⟨fun _=>rfl,fun _ _ h=>by cases h⟩
 | b::l=>by
  obtain⟨h1,h2⟩:=f1q l
  by_cases hb:b=46
  ·subst hb
   refine⟨fun h=>by simp at h,fun c r h=> ?_⟩
   have h:(46:UInt8)::l=c::r:=by simpa using h
   cases h
   exact⟨rfl,rfl,rfl⟩
  ·have a:(b != 46)=true:=by simpa using hb
   have i:([46]:List UInt8).isPrefixOf (b::l)=false:=by simp[List.isPrefixOf];exact fun e=>hb e.symm
   have g:Lib.index (b::l) [46]=if Lib.index l [46] == -1 then -1 else Lib.index l [46]+1:=by rw[Lib.index,i];rfl
   rw[List.dropWhile_cons,if_pos a,List.takeWhile_cons,if_pos a]
   refine⟨fun h=>by rw[g,h1 h];rfl,fun c r h=> ?_⟩
   obtain⟨m,j,k⟩:=h2 c r h
   rw[g,m]
   refine⟨?_,?_,?_⟩
   ·rw[if_neg (by simp),List.length_cons];rfl
   ·rw[List.length_cons,List.drop_succ_cons];exact j
   ·rw[List.length_cons,List.take_succ_cons,k]
theorem e8u(s:List UInt8):Lib.cut s [46]=((Qq ⟨s⟩).a.s,(Qq ⟨s⟩).b.s,(Qq ⟨s⟩).c):=by
 obtain⟨h1,h2⟩:=f1q s
 unfold Lib.cut Qq
 cases hd:s.dropWhile fun c=>c != 46 with
 | nil=>
  rw[h1 hd]
  rfl
 | cons c r=>
  obtain⟨h,e,g⟩:=h2 c r hd
  rw[h,if_pos (by omega),Int.toNat_natCast,g]
  show(_,s.drop ((s.takeWhile fun c=>c != 46).length+1),true)=_
  rw[e]
theorem d2p:Zo Tryz.prog 171 (fun x:Str×Str×Unit=>decide (x.1.s.length<=1048576)&&decide (x.2.1.s=[46])) (fun x:Str×Str×Unit=>Qq x.1):=YR (by
  rintro⟨⟨s⟩,⟨p⟩,⟨⟩⟩ hps Φ w vs hL hΦ a
  simp only[Bool.and_eq_true,decide_eq_true_eq]at hps
  obtain⟨hs,h⟩:=hps
  have h:p=[46]:=h
  subst h
  obtain⟨u,v,rfl,h1,h2⟩:=c3d a
  rw[VN h1,VN h2]
  obtain⟨cs,m,hc,hm⟩:=hL.mx
  have g:(⟨s.toArray⟩:ByteArray).size=s.length:=rfl
  refine(Any.strings_Cut Tryz.lays145 ⟨s.toArray⟩ ⟨#[46]⟩ m w (by rw[g];have hs:s.length<=1048576:=hs;omega) (K5 hΦ hc hm)).mono ?_
  rintro e w' ⟨rfl,k,rfl⟩
  refine⟨_,rfl,.tup _ _ rfl ?_,?_⟩
  ·rw[show(⟨s.toArray⟩:ByteArray).data.toList=s from rfl,show(⟨#[46]⟩:ByteArray).data.toList=[46]from rfl,e8u]
   intro j v x a b
   match j with
   | 0=>cases a;cases b;exact .str _
   | 1=>cases a;cases b;exact .str _
   | 2=>cases a;cases b;exact .bool _
   | j+3=>simp at a
  ·exact⟨rfl,rfl,rfl,Nat.le_refl _,fun _ _=>rfl⟩)
theorem c4r:Lib.formatBool true=[116,114,117,101]:=by decide
theorem a9w:Lib.formatBool false=[102,97,108,115,101]:=by decide
theorem g0u:Zo Tryz.prog 88 (fun _:Bool×Unit=>true) (fun x:Bool×Unit=>e7f x.1):=YR (by
  rintro⟨b,⟨⟩⟩ _ Φ w vs hL hΦ hv
  obtain⟨v,rfl,h1⟩:=e6t hv
  have h1:RP Φ v (.bool b):=h1
  cases h1
  refine(Any.strconv_FormatBool Tryz.lays121 b w).mono ?_
  rintro e w' ⟨rfl,rfl⟩
  refine⟨_,rfl,?_,.refl _ _⟩
  cases b
  ·rw[a9w];exact .str _
  ·rw[c4r];exact .str _)
theorem RA:Zo Tryz.prog 93 (fun x:Str×Str×Unit=>decide (x.1.s.length<=1000000)) (fun x:Str×Str×Unit=>(⟨Lib.trimSuffix x.1.s x.2.1.s⟩:Str)):=YR (by
  rintro⟨⟨s⟩,⟨p⟩,⟨⟩⟩ hps Φ w vs hL hΦ hv
  have hs:s.length<=1000000:=by simpa using hps
  obtain⟨u,v,rfl,h1,h2⟩:=c3d hv
  rw[VN h1,VN h2]
  have a:(⟨s.toArray⟩:ByteArray).size=s.length:=rfl
  refine(Any.strings_TrimSuffix Tryz.lays102 ⟨s.toArray⟩ ⟨p.toArray⟩ w (by rw[a];omega)).mono ?_
  rintro e w' ⟨rfl,rfl⟩
  exact⟨_,rfl,.str _,.refl _ _⟩)
theorem b6n:Builder.Extra Tryz.prog Tryz.lays156_ren where
 sizeBuilder:=by kernel_rfl
 liesBuilder:=by kernel_rfl
 t5:=Tryz.lays288.t5
 a5:=Tryz.lays288.a5
 z5:=Tryz.lays288.z5
 v5:=Tryz.lays288.v5
 infoByte:=by kernel_rfl
 cellsByte:=by kernel_rfl
 sizeByte:=by kernel_rfl
 neB5:=by decide
theorem DY: ∀ l:List (List UInt8),Lib.join l [44,32]=Zv l
 | []=>rfl
 | [s]=>by simp[Lib.join,List.intercalate,Zv]
 | s::t::r=>by
  have h:=DY (t::r)
  rw[Zv]
  ·rw[<- h]
   simp[Lib.join,List.intercalate]
  ·simp
theorem Fz(l:List Str):flat (l.map (enc:Str->PV))=l.map fun s:Str=>PV.str s.s:=by
 induction l with
 | nil=>rfl
 | cons a l ih=>rw[List.map_cons,List.map_cons,<- ih];rfl
theorem a5f:Zo Tryz.prog 19 (fun x:List Str×Str×Unit=>YL x.1&&decide (x.2.1.s=[44,32])) (fun x:List Str×Str×Unit=>Yi x.1):=YR (by
  rintro⟨l,⟨p⟩,⟨⟩⟩ hps Φ w vs hL hΦ hv
  simp only[Bool.and_eq_true,decide_eq_true_eq]at hps
  obtain⟨m,z⟩:=hps
  have z:p=[44,32]:=z
  subst z
  have m:YL l=true:=m
  unfold YL at m
  simp only[Bool.and_eq_true,decide_eq_true_eq]at m
  obtain⟨u,v,rfl,h1,h2⟩:=c3d hv
  have h1:RP Φ u (.sl 1 false (l.map enc)):=h1
  rw[VN h2]
  have B:(l.map fun s:Str=>(⟨s.s.toArray⟩:ByteArray)).map (·.data.toList)=l.map (·.s):=by rw[List.map_map];rfl
  by_cases hl:l=[]
  ·subst hl
   have : ∃ a c,u = .slice a 0 c:=by
    cases h1 with
    | sl0 a c _ _ h=>exact⟨a,c,rfl⟩
    | sl b off cs c _ _ _ uu hb hc htt hs hu hr=>exact⟨_,_,rfl⟩
   obtain⟨a,c,rfl⟩:=this
   refine(Any.strings_Join_none Tryz.lays156 b6n a c ⟨#[44,32]⟩ w).mono ?_
   rintro e w' ⟨rfl,rfl⟩
   exact⟨_,rfl,.str _,.refl _ _⟩
  ·obtain⟨b,off,c,cs,E,rfl,hb,hc,_,h3,C,r,h6⟩:=h1.sl_cells hΦ (by simpa using hl)
   obtain⟨T,fz,D⟩:=hΦ b cs hb
   have k:b<w.heap.size:=(Array.getElem?_eq_some_iff.1 D).1
   have F:=Fz l
   rw[F]at r
   have g : ∀ (j:Nat) x,(l.map fun s:Str=>(⟨s.s.toArray⟩:ByteArray))[j]? = some x->w.cell? ⟨b,off+j,none⟩=some (.string x):=fun j x A=>by
    rw[List.getElem?_map,Option.map_eq_some_iff]at A
    obtain⟨s,hs,rfl⟩:=A
    have q:j<E.length:=by rw[r.1,List.length_map];exact(List.getElem?_eq_some_iff.1 hs).1
    have hu:=List.getElem?_eq_getElem q
    have hr:=r.2 j _ _ hu (by rw[List.getElem?_map,hs];rfl)
    rw[C j _ hu,VN hr]
   have i:(l.map (enc:Str->PV)).length=(l.map fun s:Str=>(⟨s.s.toArray⟩:ByteArray)).length:=by rw[List.length_map,List.length_map]
   rw[i]at hc ⊢
   refine(Any.strings_Join Tryz.lays156 b6n b off c (l.map fun s:Str=>(⟨s.s.toArray⟩:ByteArray)) ⟨#[44,32]⟩ w g k (by rw[List.length_map];omega) hc (by
    rw[B]
    show(Lib.join (l.map (·.s)) [44,32]).length<=_
    rw[DY];omega)).mono ?_
   rintro e w' ⟨rfl,y⟩
   refine⟨_,rfl,?_,y⟩
   rw[B]
   show RP Φ (.string ⟨(Lib.join (l.map (·.s)) [44,32]).toArray⟩) _
   rw[DY]
   exact .str _)
theorem PQ:XH Tryz.prog 157 (D7 5) Eh:=f7m (ρ:=Tryz.lays288_ren) Tryz.lays288 fun Φ w hL hΦ=>by
 have hg:=hL.pow
 obtain⟨T,fz,hh⟩:=hΦ _ _ hg
 unfold Lib.TabIs World.var?
 rw[show Program.globalNamed Tryz.prog "internal/strconv.uint64pow10" = some 1 by kernel_rfl]
 simp only[Option.bind_some,hh]
 rfl
end Go.Proofs.YtkpppjbhmmabeaaGreatDoor
namespace Go.Proofs.YtkpppjbhmmabeaaGreatDoor
open Go.Shelf
def Tryz.keysA_ren:Go.Shelf.Ren:=⟨fun|7=>84|10=>124|n=>n,fun|23=>109|26=>9|3=>4|28=>114|0=>0|27=>113|33=>56|4=>4|n=>n,fun|n=>n⟩
theorem Tryz.keysA:Go.Proofs.SlLaysZ.n7 Tryz.prog Tryz.keysA_ren:={
 mixed:=by kernel_rfl
 f7:=⟨Tryz.f84.name,by decide,Tryz.func84.trans (congrArg some (by kernel_rfl))⟩
 f10:=⟨Tryz.f124.name,by decide,Tryz.func124.trans (congrArg some (by kernel_rfl))⟩
 t0:=Tryz.underlying0
 a0:=Tryz.isAgg0
 z0:=Tryz.sizeOf0
 v0:=Tryz.zeroValue0
 t4:=Tryz.underlying4
 a4:=Tryz.isAgg4
 z4:=Tryz.sizeOf4
 v4:=Tryz.zeroValue4
 t23:=Tryz.underlying109
 a23:=Tryz.isAgg109
 z23:=Tryz.sizeOf109
 v23:=Tryz.zeroValue109
 t26:=Tryz.underlying9
 a26:=Tryz.isAgg9
 z26:=Tryz.sizeOf9
 v26:=Tryz.zeroValue9
 t27:=Tryz.underlying113
 a27:=Tryz.isAgg113
 z27:=Tryz.sizeOf113
 v27:=Tryz.zeroValue113
 t28:=Tryz.underlying114
 a28:=Tryz.isAgg114
 z28:=Tryz.sizeOf114
 v28:=Tryz.zeroValue114
 t33:=Tryz.underlying56
 a33:=Tryz.isAgg56
 z33:=Tryz.sizeOf56
 v33:=Tryz.zeroValue56}
def Tryz.sortedA_ren:Go.Shelf.Ren:=⟨fun|6=>83|8=>122|9=>123|11=>147|13=>149|12=>148|23=>181|24=>182|14=>172|15=>173|16=>174|17=>175|18=>176|19=>177|20=>178|21=>179|22=>180|25=>202|26=>203|27=>204|28=>205|29=>206|30=>207|31=>223|n=>n,fun|26=>9|28=>114|24=>31|0=>0|3=>3|37=>152|48=>177|50=>159|4=>4|40=>170|39=>169|45=>174|5=>5|9=>9|51=>192|55=>196|57=>213|58=>214|33=>56|n=>n,fun|n=>n⟩
theorem Tryz.sortedA:Go.Proofs.SlLaysZ.n6 Tryz.prog Tryz.sortedA_ren:={
 mixed:=by kernel_rfl
 f6:=⟨Tryz.f83.name,by decide,Tryz.func83.trans (congrArg some (by kernel_rfl))⟩
 f8:=⟨Tryz.f122.name,by decide,Tryz.func122.trans (congrArg some (by kernel_rfl))⟩
 f11:=⟨Tryz.f147.name,by decide,Tryz.func147.trans (congrArg some (by kernel_rfl))⟩
 t0:=Tryz.underlying0
 a0:=Tryz.isAgg0
 z0:=Tryz.sizeOf0
 v0:=Tryz.zeroValue0
 t24:=Tryz.underlying31
 a24:=Tryz.isAgg31
 z24:=Tryz.sizeOf31
 v24:=Tryz.zeroValue31
 t26:=Tryz.underlying9
 a26:=Tryz.isAgg9
 z26:=Tryz.sizeOf9
 v26:=Tryz.zeroValue9
 t28:=Tryz.underlying114
 a28:=Tryz.isAgg114
 z28:=Tryz.sizeOf114
 v28:=Tryz.zeroValue114
 i26:=by kernel_rfl}
end Go.Proofs.YtkpppjbhmmabeaaGreatDoor
namespace Go.Proofs.YtkpppjbhmmabeaaGreatDoor
open Go.RowKit Go.Shelf Go.Pl Go.Proofs
theorem e5g(m:Nat):AnyZ.SortsIn Tryz.prog Tryz.sortedA_ren Fence.wide m:=
  ⟨fun blk off cap ss W e a b=>callsIn_wide.2 (Any.slices_Sort_string Tryz.lays190 blk off cap ss W e a b),
   fun p cap W=>callsIn_wide.2 (Any.slices_Sort_string_none Tryz.lays190 p cap W)⟩
theorem e5m:SortedC Tryz.prog 83 124 9 where
 str:=by kernel_rfl
 run:=by
  intro Bm b nn D0 w i hm h g a
  have e:SeqGives Fence.wide 2 Tryz.prog 124 #[.pointer (some ⟨Bm,0,none⟩)] encStr (fun ss=>ss.Perm (strKeys D0)) (Maps.size D0) w:=
   AnyZ.keys_gives (ρ:=Tryz.keysA_ren) {Tryz.keysA with} Fence.wide _ trivial rfl (by omega) Bm b nn D0 _ i hm h
  exact callsIn_wide.1 (AnyZ.sorted_in Tryz.sortedA Fence.wide 5 trivial trivial trivial trivial rfl (by omega) (e5g _) (enters_of Tryz.func123 (by kernel_rfl) rfl) 124 #[.pointer (some ⟨Bm,0,none⟩)] trivial (enters_of Tryz.func124 (by kernel_rfl) rfl) _ _ g a _ e)
theorem g2n:XH Tryz.prog 83 (Kl 124) JS:=b0s (b0a e5m)
end Go.Proofs.YtkpppjbhmmabeaaGreatDoor
namespace Go.Proofs.YtkpppjbhmmabeaaGreatDoor
open Go.RowKit Go.Lib Go.Pl
theorem d1h:(Tryz.prog.info? 3).map (fun i=>(i.zero,i.size,i.bytes))=some (some (.int .i64 0),1,8):=by kernel_rfl
theorem BG:Tryz.prog.underlying 24=some (.slice 3):=by kernel_rfl
theorem a8o(n c:Nat)(w:World):Calls Tryz.prog 156 #[.slice none n c] w fun e w'=>e = .returned (.slice none 0 0)∧w'=w:=by
 have q22 : ∀ (w:World) (a:Option Addr) (n c b g:Nat),(binOp .eql 24 (.slice a n c) (.slice none b g)).run Tryz.prog w = .ok (.bool a.isNone) w:=fun w a n c b g=>Lib.run_eql_slice_nil w _ _ a n c b g BG
 go_enter Tryz.func156,Tryz.ntmps156
 go_wp2
 go_ret
 exact⟨rfl,rfl⟩
theorem a2d(a:Addr)(c:Nat)(w:World):Calls Tryz.prog 156 #[.slice (some a) 0 c] w fun e w'=>(∃ g,e = .returned (.slice (some g) 0 0))∧Below w.heap.size w w':=by
 have q22 : ∀ (w:World) (a:Option Addr) (n c b h:Nat),(binOp .eql 24 (.slice a n c) (.slice none b h)).run Tryz.prog w = .ok (.bool a.isNone) w:=fun w a n c b h=>Lib.run_eql_slice_nil w _ _ a n c b h BG
 obtain⟨i0,hi,hz0,hz1,hz2⟩:=info_parts d1h
 go_enter Tryz.func156,Tryz.ntmps156
 go_wp2_with (at_builtin;refine Lib.wpList_append_run _ rfl _ _ _ _ rfl _ _ rfl rfl _ _ (Vq BG hi (Nat.le_refl _)) ?_)
 go_ret
 exact⟨⟨_,rfl⟩,(Below.refl _ w).alloc (Nat.le_refl _) _⟩
theorem a1p(a:Addr)(n c:Nat)(news:List Value)(w:World)(h0:0<n)(hn:n<=2000000)(r:news.length=n*1)(hc : ∀ j u,news[j]? = some u->w.cell? (a.add j)=some u)(h1 : ∀ u∈news,u.oneCell'=true):
  Calls Tryz.prog 156 #[.slice (some a) n c] w fun e w'=> ∃ v',e = .returned v'∧w'.ownsRow w.heap.size 3 1 v' n news∧Below w.heap.size w w':=by
 have q22 : ∀ (w:World) (a:Option Addr) (n c l m:Nat),(binOp .eql 24 (.slice a n c) (.slice none l m)).run Tryz.prog w = .ok (.bool a.isNone) w:=fun w a n c l m=>Lib.run_eql_slice_nil w _ _ a n c l m BG
 obtain⟨s,hi,h,i,q⟩:=info_parts d1h
 have A:Aside (∀ j u,news[j]? = some u->w.cell? (a.add j)=some u):=hc
 clear hc
 go_enter Tryz.func156,Tryz.ntmps156
 go_wp2_with (at_builtin;refine wpList_append_own _ rfl _ _ 24 rfl w.heap.size 3 s (.int .i64 0) 1 8 BG hi h i q rfl (by decide) _ _ _ rfl (World.ownsRow_made w #[] 0 (Nat.le_refl _) (Nat.zero_le _) rfl) a n c news rfl ?qc1 ?qc2 ?qc3 ?qc4 ?qc5 ?qc6 ?_)
 case qc1=>exact r
 case qc2=>intro j u y;exact Lib.cell?_alloc_some _ (A.out j u y)
 case qc3=>exact h1
 case qc4=>unfold maxLen;omega
 case qc5=>omega
 case qc6=>simp
 intro v' w1 g b hnil
 go_wp2
 go_ret
 refine⟨v',rfl,by simpa using g,?_⟩
 exact((Below.refl _ w).alloc (Nat.le_refl _) _).grown b (by simp) (by intro k z;simp[Value.ownBlock]at z;omega)
theorem g0d:CloneC Tryz.prog 156 3 1:=⟨a8o,a2d,a1p⟩
end Go.Proofs.YtkpppjbhmmabeaaGreatDoor
namespace Go.Proofs.YtkpppjbhmmabeaaGreatDoor
open Go.Shelf
def Tryz.lays160_ren:Go.Shelf.Ren:=⟨fun|160=>158|232=>194|231=>193|227=>195|234=>197|233=>196|236=>199|235=>198|228=>218|271=>221|151=>220|197=>219|120=>231|152=>230|260=>229|137=>238|119=>239|224=>234|225=>233|217=>232|266=>240|n=>n,fun|9=>9|4=>4|3=>3|5=>5|117=>188|116=>187|0=>0|124=>191|21=>21|105=>209|46=>152|119=>230|139=>233|138=>232|n=>n,fun|3=>6|4=>7|n=>n⟩
theorem Tryz.lays160:Go.Proofs.Lays.n160 Tryz.prog Tryz.lays160_ren:={
 mixed:=by kernel_rfl
 f119:=Tryz.func239.trans (congrArg some (by kernel_rfl))
 f120:=Tryz.func231.trans (congrArg some (by kernel_rfl))
 f137:=Tryz.func238.trans (congrArg some (by kernel_rfl))
 f151:=Tryz.func220.trans (congrArg some (by kernel_rfl))
 f152:=Tryz.func230.trans (congrArg some (by kernel_rfl))
 f160:=Tryz.func158.trans (congrArg some (by kernel_rfl))
 f197:=Tryz.func219.trans (congrArg some (by kernel_rfl))
 f217:=Tryz.func232.trans (congrArg some (by kernel_rfl))
 f224:=Tryz.func234.trans (congrArg some (by kernel_rfl))
 f225:=Tryz.func233.trans (congrArg some (by kernel_rfl))
 f227:=Tryz.func195.trans (congrArg some (by kernel_rfl))
 f228:=Tryz.func218.trans (congrArg some (by kernel_rfl))
 f231:=Tryz.func193.trans (congrArg some (by kernel_rfl))
 f232:=Tryz.func194.trans (congrArg some (by kernel_rfl))
 f233:=Tryz.func196.trans (congrArg some (by kernel_rfl))
 f234:=Tryz.func197.trans (congrArg some (by kernel_rfl))
 f235:=Tryz.func198.trans (congrArg some (by kernel_rfl))
 f236:=Tryz.func199.trans (congrArg some (by kernel_rfl))
 f260:=Tryz.func229.trans (congrArg some (by kernel_rfl))
 f266:=Tryz.func240.trans (congrArg some (by kernel_rfl))
 f271:=Tryz.func221.trans (congrArg some (by kernel_rfl))
 t0:=Tryz.underlying0
 a0:=Tryz.isAgg0
 z0:=Tryz.sizeOf0
 v0:=Tryz.zeroValue0
 t3:=Tryz.underlying3
 a3:=Tryz.isAgg3
 z3:=Tryz.sizeOf3
 v3:=Tryz.zeroValue3
 t4:=Tryz.underlying4
 a4:=Tryz.isAgg4
 z4:=Tryz.sizeOf4
 v4:=Tryz.zeroValue4
 t5:=Tryz.underlying5
 a5:=Tryz.isAgg5
 z5:=Tryz.sizeOf5
 v5:=Tryz.zeroValue5
 t9:=Tryz.underlying9
 a9:=Tryz.isAgg9
 z9:=Tryz.sizeOf9
 v9:=Tryz.zeroValue9
 t21:=Tryz.underlying21
 a21:=Tryz.isAgg21
 z21:=Tryz.sizeOf21
 v21:=Tryz.zeroValue21
 t46:=Tryz.underlying152
 a46:=Tryz.isAgg152
 z46:=Tryz.sizeOf152
 v46:=Tryz.zeroValue152
 t105:=Tryz.underlying209
 a105:=Tryz.isAgg209
 z105:=Tryz.sizeOf209
 v105:=Tryz.zeroValue209
 t116:=Tryz.underlying187
 a116:=Tryz.isAgg187
 z116:=Tryz.sizeOf187
 t117:=Tryz.underlying188
 a117:=Tryz.isAgg188
 z117:=Tryz.sizeOf188
 v117:=Tryz.zeroValue188
 t119:=Tryz.underlying230
 a119:=Tryz.isAgg230
 z119:=Tryz.sizeOf230
 t124:=Tryz.underlying191
 a124:=Tryz.isAgg191
 z124:=Tryz.sizeOf191
 v124:=Tryz.zeroValue191
 t138:=Tryz.underlying232
 a138:=Tryz.isAgg232
 z138:=Tryz.sizeOf232
 v138:=Tryz.zeroValue232
 t139:=Tryz.underlying233
 a139:=Tryz.isAgg233
 z139:=Tryz.sizeOf233
 v139:=Tryz.zeroValue233
 g3:=by kernel_rfl
 g4:=by kernel_rfl}
end Go.Proofs.YtkpppjbhmmabeaaGreatDoor
namespace Go.Proofs.YtkpppjbhmmabeaaGreatDoor
open Go.Pl Go.RowKit
open Enc (enc dec is)
open EncL (encL decL isL)
set_option maxRecDepth 100000
theorem OG: ∀ l:List (List UInt8),Lib.join l [10]=EE l
 | []=>rfl
 | [s]=>by simp[Lib.join,List.intercalate,EE]
 | s::t::r=>by
  have h:=OG (t::r)
  rw[EE]
  ·rw[<- h]
   simp[Lib.join,List.intercalate]
  ·simp
theorem c5d:Zo Tryz.prog 19 (fun x:List Str×Str×Unit=>RG x.1&&decide (x.2.1.s=[10])) (fun x:List Str×Str×Unit=>nlS x.1):=YR (by
  rintro⟨l,⟨p⟩,⟨⟩⟩ hps Φ w vs hL hΦ hv
  simp only[Bool.and_eq_true,decide_eq_true_eq]at hps
  obtain⟨m,z⟩:=hps
  have z:p=[10]:=z
  subst z
  have m:RG l=true:=m
  unfold RG at m
  simp only[Bool.and_eq_true,decide_eq_true_eq]at m
  obtain⟨u,v,rfl,h1,h2⟩:=c3d hv
  have h1:RP Φ u (.sl 1 false (l.map enc)):=h1
  rw[VN h2]
  have B:(l.map fun s:Str=>(⟨s.s.toArray⟩:ByteArray)).map (·.data.toList)=l.map (·.s):=by rw[List.map_map];rfl
  by_cases hl:l=[]
  ·subst hl
   have : ∃ a c,u = .slice a 0 c:=by
    cases h1 with
    | sl0 a c _ _ h=>exact⟨a,c,rfl⟩
    | sl b off cs c _ _ _ uu hb hc htt hs hu hr=>exact⟨_,_,rfl⟩
   obtain⟨a,c,rfl⟩:=this
   refine(Any.strings_Join_none Tryz.lays156 b6n a c ⟨#[10]⟩ w).mono ?_
   rintro e w' ⟨rfl,rfl⟩
   exact⟨_,rfl,.str _,.refl _ _⟩
  ·obtain⟨b,off,c,cs,E,rfl,hb,hc,_,h3,C,r,h6⟩:=h1.sl_cells hΦ (by simpa using hl)
   obtain⟨T,fz,D⟩:=hΦ b cs hb
   have k:b<w.heap.size:=(Array.getElem?_eq_some_iff.1 D).1
   have F:=Fz l
   rw[F]at r
   have g : ∀ (j:Nat) x,(l.map fun s:Str=>(⟨s.s.toArray⟩:ByteArray))[j]? = some x->w.cell? ⟨b,off+j,none⟩=some (.string x):=fun j x A=>by
    rw[List.getElem?_map,Option.map_eq_some_iff]at A
    obtain⟨s,hs,rfl⟩:=A
    have q:j<E.length:=by rw[r.1,List.length_map];exact(List.getElem?_eq_some_iff.1 hs).1
    have hu:=List.getElem?_eq_getElem q
    have hr:=r.2 j _ _ hu (by rw[List.getElem?_map,hs];rfl)
    rw[C j _ hu,VN hr]
   have i:(l.map (enc:Str->PV)).length=(l.map fun s:Str=>(⟨s.s.toArray⟩:ByteArray)).length:=by rw[List.length_map,List.length_map]
   rw[i]at hc ⊢
   refine(Any.strings_Join Tryz.lays156 b6n b off c (l.map fun s:Str=>(⟨s.s.toArray⟩:ByteArray)) ⟨#[10]⟩ w g k (by rw[List.length_map];omega) hc (by
    rw[B]
    show(Lib.join (l.map (·.s)) [10]).length<=_
    rw[OG];omega)).mono ?_
   rintro e w' ⟨rfl,y⟩
   refine⟨_,rfl,?_,y⟩
   rw[B]
   show RP Φ (.string ⟨(Lib.join (l.map (·.s)) [10]).toArray⟩) _
   rw[OG]
   exact .str _)
theorem c4k:Zo Tryz.prog 158 (fun x:Str×Str×Unit=>decide (x.1.s.length<=1048576)&&decide (x.2.1.s=J7)) (fun x:Str×Str×Unit=>(⟨Pp x.1.s⟩:Str)):=YR (by
  rintro⟨⟨s⟩,⟨p⟩,⟨⟩⟩ hps Φ w vs hL hΦ hv
  simp only[Bool.and_eq_true,decide_eq_true_eq]at hps
  obtain⟨hs,a⟩:=hps
  have a:p=J7:=a
  subst a
  obtain⟨u,v,rfl,h1,h2⟩:=c3d hv
  rw[VN h1,VN h2]
  have b:(⟨s.toArray⟩:ByteArray).size=s.length:=rfl
  refine(Any.strings_Trim_laid Tryz.lays160 (by kernel_rfl) ⟨s.toArray⟩ ⟨J7.toArray⟩ w (by rw[b];have hs:s.length<=1048576:=hs;omega) (by decide) (ascii_of_all (l:=J7) (by decide))).mono ?_
  rintro e w' ⟨rfl,hb⟩
  exact⟨_,rfl,.str _,hb⟩)
end Go.Proofs.YtkpppjbhmmabeaaGreatDoor
namespace Go.Proofs.YtkpppjbhmmabeaaGreatDoor
open Go.Pl
open Enc (enc dec is)
open EncL (encL decL isL)
set_option maxRecDepth 100000
theorem Q4:Tryz.prog.follows .mixedOrders=true:=by kernel_rfl
theorem tq{f:Nat}{D:Den}{l:List (Nat×Den)}{fn:Func}(hf:Tryz.prog.funcs[f]? = some fn)(h:b6v Tryz.prog f D)(k:YT Tryz.prog (Yh l))(hb:(fn.body.isSome&& !(fn.name == "runtime.NumGoroutine"))=true:=by kernel_rfl):YT Tryz.prog (Yh ((f,D)::l)):=c9p (ent hf hb h) k
theorem dq{f nt:Nat}{α β:Type}[EncL α][Enc β]{fn:Func}{T:ZC}{ic:IC}{rs:List IRes}{pre:α->Bool}{F:α->β}(h : ∀ a,pre a=true->Zd T 0 (Za rs (Zf (F a))) ic [] (Zx nt (encL a)))(i:YT Tryz.prog T)(j:Tryz.prog.funcs[f]? = some fn)(e:a4q Tryz.prog fn=some ic:=by kernel_rfl)(g:Wp (WV Tryz.prog) fn.results.toList=some rs:=by kernel_rfl)(b:fn.ntmps=nt:=by kernel_rfl):Zo Tryz.prog f pre F:=Zo.of i Q4 j e g b h
theorem c5r:Zo Tryz.prog 152 (fun x:Str×Unit=>decide (x.1.s.length<=281474976710656)) (fun x:Str×Unit=>YN x.1):=YR (by
  rintro⟨⟨s⟩,⟨⟩⟩ hps Φ w vs hL hΦ a
  have hs:s.length<=281474976710656:=by simpa using hps
  obtain⟨v,rfl,h1⟩:=e6t a
  rw[VN h1]
  have g:(⟨s.toArray⟩:ByteArray).size=s.length:=rfl
  cases h:Lib.atoiAll s
  ·rename_i n
   have k:YN ⟨s⟩=(n,⟨false⟩):=by simp only[YN,h]
   rw[k]
   refine(Any.strconv_Atoi_ok Tryz.lays172 ⟨s.toArray⟩ (by rw[g];omega) n h w).mono ?_
   rintro e w' ⟨rfl,m⟩
   refine⟨_,rfl,.tup _ _ rfl ?_,?_⟩
   ·intro j v x a b
    match j with
    | 0=>cases a;cases b;exact .int _ _
    | 1=>cases a;cases b;exact .nili
    | j+2=>simp at a
   ·rcases m with rfl|⟨t,rfl⟩
    ·exact .refl _ _
    ·exact Tc _ _ 0 _
  ·skip
   have k:YN ⟨s⟩=(0,⟨true⟩):=by simp only[YN,h]
   rw[k]
   obtain⟨cs,hc,ev,l,i⟩:=hL.syn
   refine(Any.strconv_Atoi_syntax Tryz.lays172 ⟨s.toArray⟩ (by rw[g];omega) h ev w (K5 hΦ hc l) i).mono ?_
   rintro e w' ⟨N,rfl,_,_,hb⟩
   refine⟨_,rfl,.tup _ _ rfl ?_,hb⟩
   intro j v x a b
   match j with
   | 0=>cases a;cases b;exact .int _ _
   | 1=>cases a;cases b;exact .ifc _ _
   | j+2=>simp at a
  ·skip
   have k:YN ⟨s⟩=(Lib.atoiSat s,⟨true⟩):=by simp only[YN,h]
   rw[k]
   obtain⟨cs,hc,ev,l,i⟩:=hL.rng
   refine(Any.strconv_Atoi_range Tryz.lays172 ⟨s.toArray⟩ (by rw[g];omega) h ev w (K5 hΦ hc l) i).mono ?_
   rintro e w' ⟨N,rfl,_,_,hb⟩
   refine⟨_,rfl,.tup _ _ rfl ?_,hb⟩
   intro j v x a b
   match j with
   | 0=>cases a;cases b;exact .int _ _
   | 1=>cases a;cases b;exact .ifc _ _
   | j+2=>simp at a)
theorem Mm:Zo Tryz.prog 129 (fun _:Int×Unit=>true) (fun x:Int×Unit=>Yp x.1):=dq e5k Ze Tryz.func129
theorem a5v:Zo Tryz.prog 128 (fun x:Str×Unit=>decide (x.1.s.length<=1000000)) (fun x:Str×Unit=>nameB x.1):=dq c2r (tq Tryz.func151 Dv (tq Tryz.func152 e2d (tq Tryz.func87 KF Ze))) Tryz.func128
theorem Ti:Zo Tryz.prog 128 (fun x:Str×Unit=>decide (x.1.s.length<=281474976710656)) (fun x:Str×Unit=>nameB x.1):=dq a8j (tq Tryz.func151 Dv (tq Tryz.func152 c5r (tq Tryz.func87 KF Ze))) Tryz.func128
theorem OC:Zo Tryz.prog 91 (fun x:Lin×Unit=>Wi x.1) (fun x:Lin×Unit=>Zh x.1):=dq b2l (tq Tryz.func129 Mm (tq Tryz.func128 a5v Ze)) Tryz.func91
theorem Bv:Zo Tryz.prog 91 (fun x:Lin×Unit=>Xz x.1) (fun x:Lin×Unit=>Zh x.1):=dq c2o (tq Tryz.func129 Mm (tq Tryz.func128 Ti Ze)) Tryz.func91
theorem e7k:XH Tryz.prog 92 WQ BD:=Dr (T:=b2q) (ic:=EW) (rs:=Oa) (tq Tryz.func87 KF (tq Tryz.func93 RA Ze)) Q4 Tryz.func92 (by kernel_rfl) (by kernel_rfl) (by kernel_rfl) c6v
theorem Hl:Zo Tryz.prog 58 (fun x:Lin×Unit=>Wi x.1) (fun x:Lin×Unit=>(⟨ZE x.1⟩:Str)):=dq b2e (tq Tryz.func91 OC (tq Tryz.func92 e7k Ze)) Tryz.func58
theorem Bg:Zo Tryz.prog 61 (fun _:UInt8×Unit=>true) (fun x:UInt8×Unit=>lowB x.1):=dq a7f Ze Tryz.func61
theorem EK:Zo Tryz.prog 97 (fun _:UInt8×Unit=>true) (fun x:UInt8×Unit=>digB x.1):=dq a8w Ze Tryz.func97
theorem b2u:Zo Tryz.prog 62 (fun x:Str×Bool×Unit=>decide (x.1.s.length<=1048576)) (fun x:Str×Bool×Unit=>PW x.1 x.2.1):=dq e0z (tq Tryz.func97 EK (tq Tryz.func61 Bg Ze)) Tryz.func62
theorem Tv:Zo Tryz.prog 63 (fun _:Str×Unit=>true) (fun x:Str×Unit=>QZ.contains x.1.s):=dq c5u Ze Tryz.func63
theorem Ux:Zo Tryz.prog 30 (fun x:Str×Unit=>decide (x.1.s.length<=1048576)) (fun x:Str×Unit=>nameI x.1.s):=dq b9v (tq Tryz.func61 Bg (tq Tryz.func62 b2u (tq Tryz.func63 Tv Ze))) Tryz.func30
theorem NE:Zo Tryz.prog 146 (fun x:Str×Unit=>decide (x.1.s.length<=1048576)) (fun x:Str×Unit=>fullI x.1.s):=dq c0r (tq Tryz.func171 d2p (tq Tryz.func30 Ux Ze)) Tryz.func146
theorem J3:Zo Tryz.prog 121 (fun x:Str×Unit=>decide (x.1.s.length<=1048576)) (fun x:Str×Unit=>CY x.1.s):=dq d2u (tq Tryz.func30 Ux (tq Tryz.func146 NE Ze)) Tryz.func121
theorem P6:Zo Tryz.prog 119 (fun x:Tm×Unit=>tW x.1) (fun x:Tm×Unit=>UK x.1.nd):=dq d7o Ze Tryz.func119
theorem NV:Zo Tryz.prog 143 (fun x:Lin×Unit=>Xz x.1) (fun x:Lin×Unit=> !(Zh x.1)):=dq c8d (tq Tryz.func91 Bv Ze) Tryz.func143
theorem e3g:Zo Tryz.prog 135 (fun x:List Lin×FnV 143×Unit=>decide (x.1.length<=1048576)&&x.1.all Xz) (fun x:List Lin×FnV 143×Unit=>Yr (fun l:Lin=> !(Zh l)) x.1):=dq e7a (tq Tryz.func143 NV Ze) Tryz.func135
theorem e6q:Zo Tryz.prog 99 (fun x:List Lin×FnV 143×Unit=>decide (x.1.length<=1048576)&&x.1.all Xz) (fun x:List Lin×FnV 143×Unit=>x.1.any fun l:Lin=> !(Zh l)):=dq e6o (tq Tryz.func135 e3g Ze) Tryz.func99
theorem CU:Zo Tryz.prog 118 (fun x:Tm×Int×Int×Unit=>tW x.1) (fun x:Tm×Int×Int×Unit=>Xr x.1.nd x.2.1 x.2.2.1):=dq a9q (tq Tryz.func99 e6q Ze) Tryz.func118
theorem EX:Zo Tryz.prog 145 (fun _:Int×Unit=>true) (fun x:Int×Unit=>YA x.1):=dq e1b Ze Tryz.func145
theorem e6n:Zo Tryz.prog 170 (fun x:List Int×FnV 145×Unit=>decide (x.1.length<=1048576)) (fun x:List Int×FnV 145×Unit=>Yr YA x.1):=dq e7u (tq Tryz.func145 EX Ze) Tryz.func170
theorem e6s:Zo Tryz.prog 144 (fun x:List Int×FnV 145×Unit=>decide (x.1.length<=1048576)) (fun x:List Int×FnV 145×Unit=>x.1.any YA):=dq f0j (tq Tryz.func170 e6n Ze) Tryz.func144
theorem a6l:Zo Tryz.prog 120 (fun x:Tm×Unit=>tW x.1) (fun x:Tm×Unit=>XK x.1.nd x.1.ks.length):=dq c4j (tq Tryz.func121 J3 (tq Tryz.func118 CU (tq Tryz.func144 e6s Ze))) Tryz.func120
theorem e1v:XW Tryz.prog 217 YC GG:=Gx (T:=Ql) (ic:=VO) (rs:=Uc) Ze Q4 Tryz.func217 (by kernel_rfl) (by kernel_rfl) (by kernel_rfl) c1k
theorem a3b:XW Tryz.prog 190 YC Qh:=Gx (T:=Cc) (ic:=Hq) (rs:=HV) (tq Tryz.func217 e1v Ze) Q4 Tryz.func190 (by kernel_rfl) (by kernel_rfl) (by kernel_rfl) OB
theorem f0r:XW Tryz.prog 154 K8 Xc:=Gx (T:=Wz) (ic:=Xv) (rs:=Xu) (tq Tryz.func190 a3b Ze) Q4 Tryz.func154 (by kernel_rfl) (by kernel_rfl) (by kernel_rfl) c9a
theorem d8r:Zo Tryz.prog 154 (fun _:List Int×Unit=>true) (fun x:List Int×Unit=>Y2 x.1):=Zo.ofPure f0r fun⟨l,_⟩ h=>⟨by show(Zr l).all PV.isNum=true;simp,by show Zf _ (.tup [.int .i64 (Y2 ((Zr l).map PV.asInt)).1,.int .i64 (Y2 ((Zr l).map PV.asInt)).2]);rw[Xk];exact Zg (x:=Y2 l) rfl⟩
theorem c1r:Zo Tryz.prog 156 (fun x:List Int×Unit=>decide (x.1.length<=2000000)) (fun x:List Int×Unit=>x.1):=a9y (α:=Int) (by decide) (c1h g0d (by decide))
theorem EN:Zo Tryz.prog 192 (fun _:Str×Int×Unit=>true) (fun x:Str×Int×Unit=>X5 x.1 x.2.1):=dq e8m Ze Tryz.func192
theorem f5z:XH Tryz.prog 191 TG EL:=Dr (T:=c8u) (ic:=a7w) (rs:=a7e) (tq Tryz.func192 EN Ze) Q4 Tryz.func191 (by kernel_rfl) (by kernel_rfl) (by kernel_rfl) e2z
theorem g0j:XH Tryz.prog 170 VV TJ:=Dr (T:=Pz) (ic:=DU) (rs:=Cb) (tq Tryz.func191 f5z Ze) Q4 Tryz.func170 (by kernel_rfl) (by kernel_rfl) (by kernel_rfl) e5x
theorem f8y:XH Tryz.prog 144 VV OH:=Dr (T:=d7t) (ic:=b3d) (rs:=a7k) (tq Tryz.func170 g0j Ze) Q4 Tryz.func144 (by kernel_rfl) (by kernel_rfl) (by kernel_rfl) e7c
theorem a5j:Zo Tryz.prog 155 (fun x:Str×List Int×Unit=>decide (x.2.1.length<=2000000)) (fun x:Str×List Int×Unit=>x.2.1.all (X5 x.1)):=dq Eb (tq Tryz.func144 f8y Ze) Tryz.func155
theorem c3m:Zo Tryz.prog 131 (fun x:Str×List Int×List Int×Unit=>decide (x.2.1.length<=2000000)&&decide (x.2.2.1.length<=2000000)) (fun x:Str×List Int×List Int×Unit=>Jh x.1 x.2.1 x.2.2.1):=dq d2d (tq Tryz.func154 d8r (tq Tryz.func155 a5j (tq Tryz.func156 c1r Ze))) Tryz.func131
theorem Bw:Zo Tryz.prog 94 (fun x:Arr×Unit=>VH x.1) (fun x:Arr×Unit=>WE x.1):=dq f0l (tq Tryz.func131 c3m Ze) Tryz.func94
theorem a5l:Zo Tryz.prog 82 (fun x:Tm×Unit=>tW x.1) (fun x:Tm×Unit=>Hm x.1):=dq b9p (tq Tryz.func30 Ux (tq Tryz.func118 CU (tq Tryz.func119 P6 (tq Tryz.func94 Bw (tq Tryz.func120 a6l (tq Tryz.func121 J3 Ze)))))) Tryz.func82
theorem c6z:XH Tryz.prog 81 V9 (Kh 116):=Dr (T:=a7o) (ic:=Ow) (rs:=OU) Ze Q4 Tryz.func81 (by kernel_rfl) (by kernel_rfl) (by kernel_rfl) d3f
theorem c3u{cd:Code}(h:CR Tryz.prog NF Tryz.f50 0=some cd):Jt Tryz.prog cd=some (.t 7,[8,9],Nj,P5):=by
 have:(CR Tryz.prog NF Tryz.f50 0).bind (Jt Tryz.prog)=some (.t 7,[8,9],Nj,P5):=by kernel_rfl
 rw[h]at this
 exact this
theorem e4o(e:YT Tryz.prog Dn): ∀ (B:Nat) (c:Ctx),c.w0.heap.size=B->(∀ i m,0<=i->c.μ0 i m=none)->e9g (A9 B 4 e Q4) (fun n cd=>CR Tryz.prog NF Tryz.f50 n=some cd) tvE c:=by
 rintro B c g j n cd b st a w q hr ⟨rfl,h⟩
 exact LG e Q4 a1u (fun x=>by obtain⟨t,l⟩:=x;rfl) (c3u b) g j hr h
theorem b7q:YT Tryz.prog Dn:=(tq Tryz.func81 c6z (tq Tryz.func82 a5l Ze))
theorem EI:Zo Tryz.prog 50 (fun x:Tm×Unit=>tW x.1) (fun x:Tm×Unit=>Y7 x.1):=Zo.ofM (T:=Dn) (ic:=Ak) (rs:=DL) (E:=tvE) (sel:=NF) b7q Q4 Tryz.func50 (by kernel_rfl) (by kernel_rfl) (by kernel_rfl) (e4o b7q) e8a
theorem f3x:XH Tryz.prog 84 Gc (CS 124):=Dr (T:=e1u) (ic:=b2x) (rs:=a7x) Ze Q4 Tryz.func84 (by kernel_rfl) (by kernel_rfl) (by kernel_rfl) e9v
theorem c3v{cd:Code}(h:CR Tryz.prog NF Tryz.f51 0=some cd):Jt Tryz.prog cd=some (.t 11,[12,13],PE,Vr):=by
 have:(CR Tryz.prog NF Tryz.f51 0).bind (Jt Tryz.prog)=some (.t 11,[12,13],PE,Vr):=by kernel_rfl
 rw[h]at this
 exact this
theorem e7s(e:YT Tryz.prog Bn): ∀ (B:Nat) (c:Ctx),c.w0.heap.size=B->(∀ i m,0<=i->c.μ0 i m=none)->e9g (A9 B 4 e Q4) (fun n cd=>CR Tryz.prog NF Tryz.f51 n=some cd) tdE c:=by
 rintro B c g j n cd b st a w q hr ⟨rfl,h⟩
 exact LG e Q4 a1u (fun x=>by obtain⟨t,l⟩:=x;rfl) (c3v b) g j hr h
theorem b6i:YT Tryz.prog Bn:=(tq Tryz.func81 c6z (tq Tryz.func84 f3x (tq Tryz.func83 g2n Ze)))
theorem a1g:Zo Tryz.prog 51 (fun x:Tm×Unit=>tW x.1) (fun x:Tm×Unit=>Ui x.1):=Zo.ofM (T:=Bn) (ic:=Nc) (rs:=AL) (E:=tdE) (sel:=NF) b6i Q4 Tryz.func51 (by kernel_rfl) (by kernel_rfl) (by kernel_rfl) (e7s b6i) e4p
theorem b3i:Zo Tryz.prog 29 (fun x:Str×Unit=>decide (x.1.s.length<=1048576)) (fun x:Str×Unit=> !(nameI x.1.s)):=dq d1i (tq Tryz.func30 Ux Ze) Tryz.func29
theorem e6h:Zo Tryz.prog 60 (fun x:List Str×FnV 29×Unit=>Xh x.1) (fun x:List Str×FnV 29×Unit=>Yr (fun s:Str=> !(nameI s.s)) x.1):=dq f0s (tq Tryz.func29 b3i Ze) Tryz.func60
theorem e7g:Zo Tryz.prog 28 (fun x:List Str×FnV 29×Unit=>Xh x.1) (fun x:List Str×FnV 29×Unit=>x.1.any fun s:Str=> !(nameI s.s)):=dq f0e (tq Tryz.func60 e6h Ze) Tryz.func28
theorem WY:Zo Tryz.prog 14 (fun x:List Str×Unit=>Xh x.1) (fun x:List Str×Unit=>x.1.all fun s:Str=>nameI s.s):=dq a9v (tq Tryz.func28 e7g Ze) Tryz.func14
theorem KX:Zo Tryz.prog 26 (fun x:Tm×Unit=>tW x.1) (fun x:Tm×Unit=>YK x.1):=dq b2w (tq Tryz.func50 EI (tq Tryz.func51 a1g (tq Tryz.func14 WY Ze))) Tryz.func26
theorem QD:Zo Tryz.prog 18 (fun _:Str×Unit=>true) (fun x:Str×Unit=>Qn x.1):=dq c7f Ze Tryz.func18
theorem d7k:XW Tryz.prog 125 TH Rk:=Gx (T:=a9d) (ic:=Ol) (rs:=EC) Ze Q4 Tryz.func125 (by kernel_rfl) (by kernel_rfl) (by kernel_rfl) fun ps h=>e7v (d4q ps h)
theorem e5v:Zo Tryz.prog 85 (fun _:Str×Unit=>true) (fun x:Str×Unit=>Jp x.1):=dq c9o (tq Tryz.func125 d7k Ze) Tryz.func85
theorem e2t:Zo Tryz.prog 86 (fun _:Str×Bool×Unit=>true) (fun x:Str×Bool×Unit=>Vd x.1 x.2.1):=dq e1i (tq Tryz.func125 d7k Ze) Tryz.func86
theorem Fj:Zo Tryz.prog 52 (fun x:Tm×Unit=>tW x.1) (fun x:Tm×Unit=>Jv x.1):=dq e8v (tq Tryz.func85 e5v Ze) Tryz.func52
theorem EB:Zo Tryz.prog 54 (fun x:Tm×Unit=>tW x.1) (fun x:Tm×Unit=>Wh x.1):=dq d0z (tq Tryz.func52 Fj (tq Tryz.func86 e2t Ze)) Tryz.func54
theorem Wv:Zo Tryz.prog 15 (fun x:List Str×Unit=>YL x.1) (fun x:List Str×Unit=>Yi x.1):=dq c3b (tq Tryz.func19 a5f Ze) Tryz.func15
theorem e9u:Zo Tryz.prog 89 (fun x:List Lin×FnV 58×Unit=>decide (x.1.length<=1048576)&&x.1.all Zh) (fun x:List Lin×FnV 58×Unit=>Yi (x.1.map Yu)):=dq d9t (tq Tryz.func58 Hl (tq Tryz.func15 Wv Ze)) Tryz.func89
theorem e6p:Zo Tryz.prog 90 (fun x:List Int×FnV 87×Unit=>decide (x.1.length<=1048576)&&X8 x.1) (fun x:List Int×FnV 87×Unit=>Yi (x.1.map Zp)):=dq d6x (tq Tryz.func87 KF (tq Tryz.func15 Wv Ze)) Tryz.func90
theorem a9k:Zo Tryz.prog 55 (fun x:Tm×Unit=>UK x.1.nd) (fun x:Tm×Unit=>a5a x.1.nd):=dq d6r (tq Tryz.func87 KF (tq Tryz.func88 g0u Ze)) Tryz.func55
theorem NY:XH Tryz.prog 132 (U3 5) Sb:=Dr (T:=e1a) (ic:=a8e) (rs:=a7m) (tq Tryz.func157 PQ Ze) Q4 Tryz.func132 (by kernel_rfl) (by kernel_rfl) (by kernel_rfl) e7j
theorem Ev:XH Tryz.prog 96 (U3 5) Sb:=Dr (T:=c6j) (ic:=a8k) (rs:=b2f) (tq Tryz.func132 NY Ze) Q4 Tryz.func96 (by kernel_rfl) (by kernel_rfl) (by kernel_rfl) e5j
theorem f9n:XH Tryz.prog 95 (JA 5) O0:=Dr (T:=c9l) (ic:=b0u) (rs:=b0k) (tq Tryz.func96 Ev Ze) Q4 Tryz.func95 (by kernel_rfl) (by kernel_rfl) (by kernel_rfl) e9f
theorem FL:Zo Tryz.prog 59 (fun x:Arr×Unit=>VH x.1&&WE x.1) (fun x:Arr×Unit=>J8 x.1):=dq b0h (tq Tryz.func94 Bw (tq Tryz.func95 f9n Ze)) Tryz.func59
theorem c1f{N:Nat}(a:Zo Tryz.prog 27 (fun x:Tm×Unit=>(tW x.1&&Z9 x.1)&&decide (Z4 x.1<N)) (fun x:Tm×Unit=>Zt x.1)):XH Tryz.prog 53 (Xt N) FK:=Dr (T:=b2c N) (ic:=Oi) (rs:=EY) (tq Tryz.func27 a Ze) Q4 Tryz.func53 (by kernel_rfl) (by kernel_rfl) (by kernel_rfl) (d3c N)
theorem MP{N:Nat}(a:Zo Tryz.prog 27 (fun x:Tm×Unit=>(tW x.1&&Z9 x.1)&&decide (Z4 x.1<N)) (fun x:Tm×Unit=>Zt x.1)):Zo Tryz.prog 57 (fun x:List Tm×FnV 27×Unit=>(tsW x.1&&Wn x.1)&&decide (Yc x.1<N)) (fun x:List Tm×FnV 27×Unit=>Yi (x.1.map Zt)):=dq (d1l N) (tq Tryz.func27 a (tq Tryz.func15 Wv Ze)) Tryz.func57
theorem a8n{N:Nat}(a:Zo Tryz.prog 27 (fun x:Tm×Unit=>(tW x.1&&Z9 x.1)&&decide (Z4 x.1<N)) (fun x:Tm×Unit=>Zt x.1)):Zo Tryz.prog 56 (fun x:Tm×Unit=>(tW x.1&&Z9 x.1&&decide (x.1.nd.kind=6))&&decide (Yc x.1.ks<N)) (fun x:Tm×Unit=>Kg x.1):=dq (c0q N) (tq Tryz.func89 e9u (tq Tryz.func87 KF (tq Tryz.func90 e6p (tq Tryz.func57 (MP a) Ze)))) Tryz.func56
theorem SY:Zo Tryz.prog 27 (fun x:Tm×Unit=>tW x.1&&Z9 x.1) (fun x:Tm×Unit=>Zt x.1):=Zo.rec (fun a=>Z4 a.1) fun N b=>dq (c1q N) (tq Tryz.func52 Fj (tq Tryz.func54 EB (tq Tryz.func53 (c1f b) (tq Tryz.func27 b (tq Tryz.func55 a9k (tq Tryz.func56 (a8n b) (tq Tryz.func57 (MP b) (tq Tryz.func15 Wv (tq Tryz.func58 Hl (tq Tryz.func59 FL Ze)))))))))) Tryz.func27
theorem a2p:Zo Tryz.prog 12 (fun x:Tm×Unit=>tW x.1) (fun x:Tm×Unit=>Ja x.1):=dq c0n (tq Tryz.func26 KX (tq Tryz.func18 QD (tq Tryz.func27 SY Ze))) Tryz.func12
theorem Bo:Zo Tryz.prog 47 (fun x:Tm×Unit=>tW x.1) (fun x:Tm×Unit=>(Z4 x.1:Int)):=Zo.rec (fun a=>Z4 a.1) fun N b=>dq (d3p N) (tq Tryz.func47 b Ze) Tryz.func47
theorem Tn:Zo Tryz.prog 48 (fun x:Tm×Unit=>tW x.1) (fun x:Tm×Unit=>(Yb x.1:Int)):=Zo.rec (fun a=>Z4 a.1) fun N b=>dq (c2i N) (tq Tryz.func48 b Ze) Tryz.func48
theorem J2:Zo Tryz.prog 49 (fun x:Tm×Unit=>tW x.1) (fun x:Tm×Unit=>Xb x.1):=Zo.rec (fun a=>Z4 a.1) fun N b=>dq (d5w N) (tq Tryz.func49 b Ze) Tryz.func49
theorem b2a:Zo Tryz.prog 25 (fun x:Tm×Int×Unit=>tW x.1) (fun x:Tm×Int×Unit=>KI x.1 x.2.1):=dq d7r (tq Tryz.func47 Bo (tq Tryz.func48 Tn (tq Tryz.func49 J2 Ze))) Tryz.func25
theorem d9f:Zo Tryz.prog 6 (fun _:Str×Unit=>true) (fun x:Str×Unit=>vT x.1):=dq f6j Ze Tryz.func6
theorem a0m:Zo Tryz.prog 13 (fun _:Str×List Tm×Unit=>true) (fun x:Str×List Tm×Unit=>cT x.1 x.2.1):=dq c0g Ze Tryz.func13
theorem Od:Zo Tryz.prog 5 (fun _:Unit=>true) (fun _:Unit=>true):=dq a8p (tq Tryz.func6 d9f (tq Tryz.func13 a0m (tq Tryz.func12 a2p Ze))) Tryz.func5
theorem FE:Zo Tryz.prog 165 (fun _:UInt8×Unit=>true) (fun x:UInt8×Unit=>digB x.1):=dq c6o Ze Tryz.func165
theorem NL:Zo Tryz.prog 166 (fun _:UInt8×Unit=>true) (fun x:UInt8×Unit=>lowB x.1):=dq d6e Ze Tryz.func166
theorem F6:Zo Tryz.prog 140 (fun _:Int×Unit=>true) (fun x:Int×Unit=>Yp x.1):=dq b3j Ze Tryz.func140
theorem Tp:Zo Tryz.prog 141 (fun _:Str×Unit=>true) (fun x:Str×Unit=>nameB x.1):=dq c3x (tq Tryz.func165 FE (tq Tryz.func166 NL Ze)) Tryz.func141
theorem Jy:Zo Tryz.prog 112 (fun x:Lin×Unit=>XM x.1) (fun x:Lin×Unit=>Zh x.1):=dq b0w (tq Tryz.func140 F6 (tq Tryz.func141 Tp Ze)) Tryz.func112
theorem a4v:Zo Tryz.prog 113 (fun x:Int×Unit=>decide (-1000000000<=x.1)&&decide (x.1<=1000000000)) (fun x:Int×Unit=>Zp x.1):=Zo.rec (fun a=>Ac a.1) fun N b=>dq (c4t N) (tq Tryz.func113 b Ze) Tryz.func113
theorem Jl:Zo Tryz.prog 79 (fun x:Lin×Unit=>Wi x.1) (fun x:Lin×Unit=>(⟨ZE x.1⟩:Str)):=dq b2b (tq Tryz.func112 Jy (tq Tryz.func113 a4v Ze)) Tryz.func79
theorem c9e:XW Tryz.prog 167 K8 Xc:=Gx (T:=Y3) (ic:=YO) (rs:=YP) Ze Q4 Tryz.func167 (by kernel_rfl) (by kernel_rfl) (by kernel_rfl) c1d
theorem c1t:Zo Tryz.prog 167 (fun _:List Int×Unit=>true) (fun x:List Int×Unit=>Y2 x.1):=Zo.ofPure c9e fun⟨l,_⟩ h=>⟨by show(Zr l).all PV.isNum=true;simp,by show Zf _ (.tup [.int .i64 (Y2 ((Zr l).map PV.asInt)).1,.int .i64 (Y2 ((Zr l).map PV.asInt)).2]);rw[Xk];exact Zg (x:=Y2 l) rfl⟩
theorem c2x:Zo Tryz.prog 169 (fun x:List Int×Unit=>decide (x.1.length<=2000000)) (fun x:List Int×Unit=>x.1):=dq c5l Ze Tryz.func169
theorem NA:Zo Tryz.prog 168 (fun _:Str×Int×Unit=>true) (fun x:Str×Int×Unit=>X5 x.1 x.2.1):=dq c7g Ze Tryz.func168
theorem a8y:Zo Tryz.prog 142 (fun x:Str×List Int×List Int×Unit=>decide (x.2.1.length<=2000000)&&decide (x.2.2.1.length<=2000000)) (fun x:Str×List Int×List Int×Unit=>Jh x.1 x.2.1 x.2.2.1):=dq c5o (tq Tryz.func167 c1t (tq Tryz.func168 NA (tq Tryz.func169 c2x Ze))) Tryz.func142
theorem Dx:Zo Tryz.prog 114 (fun x:Arr×Unit=>VH x.1) (fun x:Arr×Unit=>WE x.1):=dq d8e (tq Tryz.func142 a8y Ze) Tryz.func114
theorem b3h:Zo Tryz.prog 115 (fun x:Int×Unit=>decide (x.1.natAbs<9223372036854775808)) (fun x:Int×Unit=>Zp x.1):=Zo.rec (fun a=>Ac a.1) fun N b=>dq (d3q N) (tq Tryz.func115 b Ze) Tryz.func115
theorem Eo:Zo Tryz.prog 80 (fun x:Arr×Unit=>VH x.1&&WE x.1) (fun x:Arr×Unit=>J8 x.1):=dq e1e (tq Tryz.func114 Dx (tq Tryz.func115 b3h Ze)) Tryz.func80
theorem Nh:Zo Tryz.prog 76 (fun x:Int×Unit=>decide (x.1.natAbs<9223372036854775808)) (fun x:Int×Unit=>Zp x.1):=Zo.rec (fun a=>Ac a.1) fun N b=>dq (c7w N) (tq Tryz.func76 b Ze) Tryz.func76
theorem Eu:Zo Tryz.prog 40 (fun _:UInt8×Unit=>true) (fun x:UInt8×Unit=>lowB x.1):=dq a9x Ze Tryz.func40
theorem OT:Zo Tryz.prog 41 (fun _:UInt8×Unit=>true) (fun x:UInt8×Unit=>digB x.1):=dq b1z Ze Tryz.func41
theorem Tw:Zo Tryz.prog 42 (fun _:Str×Unit=>true) (fun x:Str×Unit=>QZ.contains x.1.s):=dq d8s Ze Tryz.func42
theorem Xg:Zo Tryz.prog 20 (fun x:Str×Unit=>decide (x.1.s.length<=1048576)) (fun x:Str×Unit=>nameI x.1.s):=dq c5q (tq Tryz.func40 Eu (tq Tryz.func41 OT (tq Tryz.func42 Tw Ze))) Tryz.func20
theorem NQ:Zo Tryz.prog 200 (fun x:Str×Unit=>decide (x.1.s.length<=1048576)) (fun x:Str×Unit=>fullI x.1.s):=dq c2d (tq Tryz.func20 Xg Ze) Tryz.func200
theorem TB:Zo Tryz.prog 164 (fun x:Str×Unit=>decide (x.1.s.length<=1048576)) (fun x:Str×Unit=>CY x.1.s):=dq d9j (tq Tryz.func20 Xg (tq Tryz.func200 NQ Ze)) Tryz.func164
theorem Oo:Zo Tryz.prog 162 (fun x:Tm×Bool×Bool×Bool×Bool×Bool×Unit=>tW x.1) (fun x:Tm×Bool×Bool×Bool×Bool×Bool×Unit=>Yz x.1.nd x.2.1 x.2.2.1 x.2.2.2.1 x.2.2.2.2.1 x.2.2.2.2.2.1):=dq a7h Ze Tryz.func162
theorem NJ:Zo Tryz.prog 163 (fun x:List Lin×Unit=>decide (x.1.length<=1048576)&&x.1.all XM) (fun x:List Lin×Unit=>x.1.all Zh):=dq d4u (tq Tryz.func112 Jy Ze) Tryz.func163
theorem a3v:Zo Tryz.prog 139 (fun x:Tm×Unit=>tW x.1) (fun x:Tm×Unit=>Hm x.1):=dq c3z (tq Tryz.func20 Xg (tq Tryz.func162 Oo (tq Tryz.func164 TB (tq Tryz.func163 NJ (tq Tryz.func114 Dx Ze))))) Tryz.func139
theorem a8m:Zo Tryz.prog 106 (fun x:Tm×Unit=>tW x.1) (fun x:Tm×Unit=>Z9 x.1):=Zo.rec (fun a=>Z4 a.1) fun N b=>dq (d6c N) (tq Tryz.func106 b (tq Tryz.func139 a3v Ze)) Tryz.func106
theorem O7:Zo Tryz.prog 70 (fun x:Tm×Unit=>tW x.1) (fun x:Tm×Unit=>Y7 x.1):=dq b0x (tq Tryz.func48 Tn (tq Tryz.func47 Bo (tq Tryz.func106 a8m Ze))) Tryz.func70
theorem JX:Zo Tryz.prog 110 (fun _:Str×Bool×Unit=>true) (fun x:Str×Bool×Unit=>Vd x.1 x.2.1):=dq d5v Ze Tryz.func110
theorem NK:Zo Tryz.prog 109 (fun _:Str×Unit=>true) (fun x:Str×Unit=>Jp x.1):=dq d7f (tq Tryz.func110 JX Ze) Tryz.func109
theorem b1o:Zo Tryz.prog 107 (fun x:List Str×Str×Unit=>decide (x.1.length<=1048576)) (fun x:List Str×Str×Unit=>Uv x.1 x.2.1):=dq d4f Ze Tryz.func107
theorem a6f:Zo Tryz.prog 71 (fun x:Tm×Unit=>tW x.1) (fun x:Tm×Unit=>JZ x.1):=dq c4v (tq Tryz.func49 J2 (tq Tryz.func107 b1o Ze)) Tryz.func71
theorem MO:Zo Tryz.prog 73 (fun x:Tm×Unit=>tW x.1) (fun x:Tm×Unit=>Cy x.1):=dq c4z (tq Tryz.func109 NK (tq Tryz.func110 JX Ze)) Tryz.func73
theorem a7j:Zo Tryz.prog 75 (fun x:Tm×Unit=>tW x.1) (fun x:Tm×Unit=>Wh x.1):=dq e0q (tq Tryz.func73 MO Ze) Tryz.func75
theorem FV:Zo Tryz.prog 111 (fun x:List Lin×Unit=>decide (x.1.length<=1048576)&&x.1.all Zh) (fun x:List Lin×Unit=>Yi (x.1.map Yu)):=dq a9h (tq Tryz.func79 Jl Ze) Tryz.func111
theorem b0p{N:Nat}(a:Zo Tryz.prog 46 (fun x:Tm×Unit=>(tW x.1&&Z9 x.1)&&decide (Z4 x.1<N)) (fun x:Tm×Unit=>Zt x.1)):Zo Tryz.prog 74 (fun x:Tm×Bool×Unit=>(tW x.1&&Z9 x.1)&&decide (Z4 x.1<N)) (fun x:Tm×Bool×Unit=>Su x.2.1 x.1):=dq (d7s N) (tq Tryz.func46 a Ze) Tryz.func74
theorem SE{N:Nat}(a:Zo Tryz.prog 46 (fun x:Tm×Unit=>(tW x.1&&Z9 x.1)&&decide (Z4 x.1<N)) (fun x:Tm×Unit=>Zt x.1)):Zo Tryz.prog 78 (fun x:List Tm×Unit=>(tsW x.1&&Wn x.1)&&decide (Yc x.1<N)) (fun x:List Tm×Unit=>Yi (x.1.map Zt)):=dq (c2b N) (tq Tryz.func46 a Ze) Tryz.func78
theorem a5z{N:Nat}(a:Zo Tryz.prog 46 (fun x:Tm×Unit=>(tW x.1&&Z9 x.1)&&decide (Z4 x.1<N)) (fun x:Tm×Unit=>Zt x.1)):Zo Tryz.prog 77 (fun x:Tm×Unit=>(tW x.1&&Z9 x.1&&decide (x.1.nd.kind=6))&&decide (Yc x.1.ks<N)) (fun x:Tm×Unit=>Kg x.1):=dq (c4w N) (tq Tryz.func111 FV (tq Tryz.func76 Nh (tq Tryz.func78 (SE a) Ze))) Tryz.func77
theorem a1n:Zo Tryz.prog 46 (fun x:Tm×Unit=>tW x.1&&Z9 x.1) (fun x:Tm×Unit=>Zt x.1):=Zo.rec (fun a=>Z4 a.1) fun N b=>dq (c4m N) (tq Tryz.func73 MO (tq Tryz.func75 a7j (tq Tryz.func74 (b0p b) (tq Tryz.func46 b (tq Tryz.func76 Nh (tq Tryz.func77 (a5z b) (tq Tryz.func78 (SE b) (tq Tryz.func79 Jl (tq Tryz.func80 Eo Ze))))))))) Tryz.func46
theorem Ai:Zo Tryz.prog 44 (fun x:Tm×Unit=>tW x.1) (fun x:Tm×Unit=>YK x.1):=dq b1f (tq Tryz.func70 O7 (tq Tryz.func71 a6f (tq Tryz.func20 Xg Ze))) Tryz.func44
theorem a7l:Zo Tryz.prog 101 (fun x:Lin×Unit=>decide (x.1.t.length<=1000000)) (fun x:Lin×Unit=>Va x.1):=dq b1s Ze Tryz.func101
theorem b9u:Zo Tryz.prog 133 (fun x:Str×Unit=>decide (x.1.s.length<=1048576)) (fun x:Str×Unit=>evB x.1.s):=dq e8k (tq Tryz.func158 c4k Ze) Tryz.func133
theorem c4n:Zo Tryz.prog 159 (fun x:Lin×Unit=>Xz x.1) (fun x:Lin×Unit=> !(Zh x.1)):=dq e2r (tq Tryz.func91 Bv Ze) Tryz.func159
theorem e3k:Zo Tryz.prog 135 (fun x:List Lin×FnV 159×Unit=>decide (x.1.length<=1048576)&&x.1.all Xz) (fun x:List Lin×FnV 159×Unit=>Yr (fun l:Lin=> !(Zh l)) x.1):=dq f0h (tq Tryz.func159 c4n Ze) Tryz.func135
theorem e8p:Zo Tryz.prog 99 (fun x:List Lin×FnV 159×Unit=>decide (x.1.length<=1048576)&&x.1.all Xz) (fun x:List Lin×FnV 159×Unit=>x.1.any fun l:Lin=> !(Zh l)):=dq e8b (tq Tryz.func135 e3k Ze) Tryz.func99
theorem CF:Zo Tryz.prog 134 (fun x:Sp×Unit=>Nw x.1) (fun x:Sp×Unit=>KU x.1.row x.1.dims):=dq a7n (tq Tryz.func128 Ti (tq Tryz.func99 e8p Ze)) Tryz.func134
theorem a4r:Zo Tryz.prog 160 (fun x:Sp×Unit=>KU x.1.row x.1.dims) (fun x:Sp×Unit=>(⟨QM x.1.row x.1.dims⟩:Str)):=dq c1j (tq Tryz.func58 Hl (tq Tryz.func19 a5f Ze)) Tryz.func160
theorem FR:Zo Tryz.prog 136 (fun x:Sp×Unit=>Nw x.1) (fun x:Sp×Unit=>Nu x.1.row x.1.dims):=dq b1p (tq Tryz.func134 CF (tq Tryz.func160 a4r Ze)) Tryz.func136
theorem Bc:Zo Tryz.prog 98 (fun x:TyS×Unit=>yW x.1) (fun x:TyS×Unit=>Q5 x.1):=dq b0l (tq Tryz.func133 b9u (tq Tryz.func134 CF Ze)) Tryz.func98
theorem a6v:Zo Tryz.prog 102 (fun x:TyS×Unit=>yW x.1&&Q5 x.1) (fun x:TyS×Unit=>(⟨tyT x.1⟩:Str)):=dq c3n (tq Tryz.func136 FR Ze) Tryz.func102
theorem ES:Zo Tryz.prog 66 (fun x:TyS×Unit=>yW x.1) (fun x:TyS×Unit=>Jc x.1):=dq a9p (tq Tryz.func98 Bc (tq Tryz.func102 a6v Ze)) Tryz.func66
theorem b1a:Zo Tryz.prog 100 (fun x:Lin×Unit=>Zh x.1) (fun x:Lin×Unit=> !(Kr x.1)):=dq d7y (tq Tryz.func101 a7l (tq Tryz.func14 WY Ze)) Tryz.func100
theorem e8e:Zo Tryz.prog 135 (fun x:List Lin×FnV 100×Unit=>decide (x.1.length<=1048576)&&x.1.all Zh) (fun x:List Lin×FnV 100×Unit=>Yr (fun l:Lin=> !(Kr l)) x.1):=dq e7d (tq Tryz.func100 b1a Ze) Tryz.func135
theorem e8w:Zo Tryz.prog 99 (fun x:List Lin×FnV 100×Unit=>decide (x.1.length<=1048576)&&x.1.all Zh) (fun x:List Lin×FnV 100×Unit=>x.1.any fun l:Lin=> !(Kr l)):=dq f0v (tq Tryz.func135 e8e Ze) Tryz.func99
theorem Ep:Zo Tryz.prog 64 (fun x:TyS×Unit=>yW x.1) (fun x:TyS×Unit=>Y8 x.1):=dq a7z (tq Tryz.func98 Bc (tq Tryz.func14 WY (tq Tryz.func99 e8w Ze))) Tryz.func64
theorem Bp:Zo Tryz.prog 31 (fun x:Bool×TyS×Unit=>yW x.2.1) (fun x:Bool×TyS×Unit=>Yy x.1 x.2.1):=dq b1y (tq Tryz.func64 Ep Ze) Tryz.func31
theorem a9r:Zo Tryz.prog 33 (fun x:Pm×Unit=>pW x.1) (fun x:Pm×Unit=> !(BJ x.1)):=dq d5u (tq Tryz.func14 WY (tq Tryz.func31 Bp Ze)) Tryz.func33
theorem e7q:Zo Tryz.prog 65 (fun x:List Pm×FnV 33×Unit=>decide (x.1.length<=1048576)&&x.1.all pW) (fun x:List Pm×FnV 33×Unit=>Yr (fun p:Pm=> !(BJ p)) x.1):=dq e4j (tq Tryz.func33 a9r Ze) Tryz.func65
theorem e4e:Zo Tryz.prog 32 (fun x:List Pm×FnV 33×Unit=>decide (x.1.length<=1048576)&&x.1.all pW) (fun x:List Pm×FnV 33×Unit=>x.1.any fun p:Pm=> !(BJ p)):=dq e6v (tq Tryz.func65 e7q Ze) Tryz.func32
theorem Bt:Zo Tryz.prog 16 (fun x:Df×Unit=>dW x.1) (fun x:Df×Unit=>ZK x.1):=dq b3c (tq Tryz.func14 WY (tq Tryz.func31 Bp (tq Tryz.func26 KX (tq Tryz.func32 e4e Ze)))) Tryz.func16
theorem Cu:Zo Tryz.prog 36 (fun x:Bool×TyS×Unit=>yW x.2.1) (fun x:Bool×TyS×Unit=>(⟨Js x.1 x.2.1⟩:Str)):=dq a9f (tq Tryz.func66 ES Ze) Tryz.func36
theorem b0z:Zo Tryz.prog 35 (fun x:Pm×Unit=>pW x.1) (fun x:Pm×Unit=>(⟨pmT x.1⟩:Str)):=dq e1o (tq Tryz.func36 Cu Ze) Tryz.func35
theorem e5z:Zo Tryz.prog 34 (fun x:List Pm×FnV 35×Unit=>decide (x.1.length<=8)&&x.1.all pW) (fun x:List Pm×FnV 35×Unit=>Yi (x.1.map Nt)):=dq d1v (tq Tryz.func35 b0z (tq Tryz.func15 Wv Ze)) Tryz.func34
theorem Tk:Zo Tryz.prog 17 (fun x:Df×Unit=>dW x.1&&ZK x.1) (fun x:Df×Unit=>UQ x.1):=dq c1s (tq Tryz.func34 e5z (tq Tryz.func36 Cu (tq Tryz.func27 SY Ze))) Tryz.func17
theorem a7d:Zo Tryz.prog 10 (fun x:Df×Unit=>dW x.1) (fun x:Df×Unit=>DC x.1):=dq d5g (tq Tryz.func16 Bt (tq Tryz.func17 Tk (tq Tryz.func18 QD Ze))) Tryz.func10
theorem El:Zo Tryz.prog 7 (fun x:Mdu×Unit=>mW x.1) (fun x:Mdu×Unit=>JL x.1):=dq d9q (tq Tryz.func14 WY (tq Tryz.func15 Wv (tq Tryz.func16 Bt (tq Tryz.func17 Tk (tq Tryz.func19 c5d (tq Tryz.func18 QD Ze)))))) Tryz.func7
theorem b1e:Zo Tryz.prog 161 (fun x:Str×Unit=>decide (x.1.s.length<=1048576)) (fun x:Str×Unit=>evB x.1.s):=dq c2e Ze Tryz.func161
theorem b0d:Zo Tryz.prog 137 (fun x:Str×Unit=>decide (x.1.s.length<=1048576)) (fun x:Str×Unit=>Mw x.1.s):=dq b9z (tq Tryz.func161 b1e Ze) Tryz.func137
theorem Du:Zo Tryz.prog 138 (fun x:Sp×Unit=>Nw x.1) (fun x:Sp×Unit=>KU x.1.row x.1.dims):=dq c1g (tq Tryz.func112 Jy (tq Tryz.func141 Tp Ze)) Tryz.func138
theorem NZ:Zo Tryz.prog 108 (fun x:Sp×Unit=>Nw x.1) (fun x:Sp×Unit=>Nu x.1.row x.1.dims):=dq c4p (tq Tryz.func138 Du (tq Tryz.func79 Jl Ze)) Tryz.func108
theorem Dl:Zo Tryz.prog 105 (fun x:TyS×Unit=>yW x.1) (fun x:TyS×Unit=>Q5 x.1):=dq c4s (tq Tryz.func137 b0d (tq Tryz.func138 Du Ze)) Tryz.func105
theorem NM:Zo Tryz.prog 72 (fun x:TyS×Unit=>yW x.1) (fun x:TyS×Unit=>Jc x.1):=dq c4o (tq Tryz.func105 Dl (tq Tryz.func108 NZ Ze)) Tryz.func72
theorem NW:Zo Tryz.prog 69 (fun x:TyS×Unit=>yW x.1) (fun x:TyS×Unit=>Y8 x.1):=dq a9m (tq Tryz.func105 Dl (tq Tryz.func20 Xg Ze)) Tryz.func69
theorem ND:Zo Tryz.prog 43 (fun x:Bool×TyS×Unit=>yW x.2.1) (fun x:Bool×TyS×Unit=>Yy x.1 x.2.1):=dq a9c (tq Tryz.func69 NW Ze) Tryz.func43
theorem JY:Zo Tryz.prog 23 (fun x:Df×Unit=>dW x.1) (fun x:Df×Unit=>ZK x.1):=dq c0p (tq Tryz.func20 Xg (tq Tryz.func43 ND (tq Tryz.func44 Ai Ze))) Tryz.func23
theorem a9t:Zo Tryz.prog 45 (fun x:TyS×Unit=>yW x.1) (fun x:TyS×Unit=>(Jc x.1).1):=dq e3p (tq Tryz.func72 NM Ze) Tryz.func45
theorem SN:Zo Tryz.prog 24 (fun x:Df×Unit=>dW x.1&&ZK x.1) (fun x:Df×Unit=>UQ x.1):=dq d9v (tq Tryz.func45 a9t (tq Tryz.func46 a1n Ze)) Tryz.func24
theorem a6p:Zo Tryz.prog 11 (fun x:Df×Unit=>dW x.1) (fun x:Df×Unit=>DC x.1):=dq d4v (tq Tryz.func23 JY (tq Tryz.func24 SN Ze)) Tryz.func11
theorem NN:Zo Tryz.prog 22 (fun x:Str×List Str×Unit=>decide (x.1.s.length<=30)&&decide (x.1.s≠[])&&decide (x.2.1.length<=60)&&x.2.1.all fun s:Str=>nameI s.s) (fun x:Str×List Str×Unit=>(⟨Qo (Kn x.1.s x.2.1)⟩:Str)):=dq b1l Ze Tryz.func22
theorem NS:Zo Tryz.prog 21 (fun x:List Str×Unit=>Xh x.1) (fun x:List Str×Unit=>x.1.all fun s:Str=>nameI s.s):=dq b0r (tq Tryz.func20 Xg Ze) Tryz.func21
theorem NC:Zo Tryz.prog 8 (fun x:Mdu×Unit=>mW x.1) (fun x:Mdu×Unit=>JL x.1):=dq e2h (tq Tryz.func20 Xg (tq Tryz.func21 NS (tq Tryz.func22 NN (tq Tryz.func23 JY (tq Tryz.func24 SN Ze))))) Tryz.func8
theorem a8x:Zo Tryz.prog 9 (fun x:Mdu×Unit=>mW x.1) (fun x:Mdu×Unit=>La x.1):=dq c4g (tq Tryz.func25 b2a Ze) Tryz.func9
theorem NP:Zo Tryz.prog 4 (fun x:Mdu×Unit=>mW x.1) (fun _:Mdu×Unit=>true):=dq d7p (tq Tryz.func5 Od (tq Tryz.func9 a8x (tq Tryz.func7 El (tq Tryz.func8 NC (tq Tryz.func10 a7d (tq Tryz.func11 a6p Ze)))))) Tryz.func4
end Go.Proofs.YtkpppjbhmmabeaaGreatDoor
