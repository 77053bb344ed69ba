/-
  Texts of mine that belong together (packed by pack.py), for every input: Post, LaidZ, PlGb, OpYa, ShV, Sh, ShB, ShN, ShW, Cl, OkYa.
-/
import Derived.Test.YtapeiomhajfpgaaGreatDoorChecked
import Derived.Test.YtapeiomhajfpgaaGreatDoorRows
import Derived.Test.YtapeiomhajfpgaaGreatDoorKZ2
import Derived.Test.YtapeiomhajfpgaaGreatDoorKZ3
import Derived.Test.YtapeiomhajfpgaaGreatDoorKZ4
import Derived.Test.YtapeiomhajfpgaaGreatDoorKZ5
import Derived.Below
import Derived.ChangeSame
import Derived.Stop.LaidErr
import Derived.Lib.LaidTab
import Derived.Shelf.Vars
import Derived.KernelRfl
import Derived.Shelf.Strings.Cut
import Derived.Shelf.Strings.Count
import Derived.Shelf.Small.Strs
import Derived.Shelf.Strconv.AtoiAll
import Derived.Shelf.Strconv.Itoa3
import Derived.Shelf.Strings.Prefix
import Derived.Shelf.Sort.Plain
import Derived.Shelf.Slices.In.SortNone
import Derived.Shelf.Strings.SlTrimAscii
import Derived.WalkKit
import Derived.Deep.LoopGhost
import Derived.Lib.Walk
import Derived.Lib.SliceRun
set_option linter.unusedVariables false
set_option linter.unusedSimpArgs false
namespace Go.Proofs.YtapeiomhajfpgaaGreatDoor
open Go.RowKit Go.WideShapes Go.ChangeShapes
section
section
variable {H:Type} {enc:TypeId×Value->H} {P:Program}
theorem Sq{f:Func}{s:ChangeSpec}{apart fresh k u:Bool}{W W':World}{args:Array Value}{v:Value}{ds z:List (DataW H)}{a pa pv:List MemPlace}
  (C:DataW.Whole enc P f.params.toList s.vars apart W args.toList ds z a)
  (l : ∀ (b:Nat) (y:Nat->Bool) (hd:Bool),DataW.TrodAll enc P W' b y hd f.resultTypes.toList (v.resultList f.resultTypes.size) (s.fn H (ds++z)).results [])
  (g : ∀ y:Nat->Bool,(∀ p∈a,y p.block=true)->DataW.TrodAll enc P W' 0 y true f.params.toList args.toList (s.fn H (ds++z)).args pa)
  (h : ∀ y:Nat->Bool,(∀ p∈a,y p.block=true)->DataW.TrodVars enc P W' y s.vars (s.fn H (ds++z)).vars pv)
  (hps:a=pa++pv) (hb:Below W.heap.size W W')
  (D : ∀ (j:Nat) (t:TypeId) (r:Value),f.resultTypes[j]? = some t->(v.resultList f.resultTypes.size)[j]? = some r->Value.okWide P W' .any 0 t r) :
  s.post enc P f apart fresh k u W args v W':=by
 have B : ∀ p∈a,p.block<W.heap.size:=fun p e=>C.lt p e
 have q : ∀ p∈a,(fun b=>decide (b<W.heap.size)) p.block=true:=fun p e=>by simpa using B p e
 refine⟨ds,z,a,[],pa,pv,C,l _ _ _,g _ q,h _ q,World.keptBut_mono (fun p e=>⟨e,?_⟩) (hb.frame (· ∈ a)),fun _=> ?_⟩
 ·rw[hps,List.mem_append]at e
  exact Or.inr e
 ·obtain⟨_,_,_,_,_,E,hn⟩:=C
  refine⟨D,_,_,([]++pa)++pv,⟨[]++pa,pv,trodAll_append (g _ (fun _ _=>rfl)) (l _ _ _),h _ (fun _ _=>rfl),rfl,?_,?_⟩,?_⟩
  ·intro b off e
   have A:MemPlace.cell b off∈a:=by rw[hps];simpa using e
   rw[hb.frozen (B _ A)]
   exact E b off A
  ·intro ha
   have:=hn ha
   rw[hps]at this
   simpa using this
  ·intro p e _
   rw[hps]
   simpa using e
end
end
end Go.Proofs.YtapeiomhajfpgaaGreatDoor
namespace Go.Proofs.YtapeiomhajfpgaaGreatDoor
open Go.Pl Go.RowKit Go.ChangeShapes
set_option maxRecDepth 100000
theorem a4i{P:Program}{W:World}{n:String}{g:Nat}{cs:Array Value}(a:P.globalNamed n=some g)(h:W.var? P n=some cs):CF W g=some cs:=by
 unfold World.var? at h
 rw[a]at h
 simp only[Option.bind_some]at h
 unfold CF
 exact h
theorem d3c:Tryz.prog.globalNamed "internal/strconv.uint64pow10" = some 3:=by kernel_rfl
theorem e2n:Tryz.prog.globalNamed "strconv.ErrRange" = some 2:=by kernel_rfl
theorem e1p:Tryz.prog.globalNamed "strconv.ErrSyntax" = some 1:=by kernel_rfl
theorem a7s:Tryz.prog.underlying 142=some (.interface ((match Tryz.prog.underlying 142 with|some (.interface ms)=>ms|_=>#[]))):=by kernel_rfl
theorem d8x{W:World}{r:List (String×DataW Unit)}(h:laidMet Tryz.prog (("internal/strconv.uint64pow10",Rows.laid_internal_strconv_uint64pow10)::r) W):CF W 3=some AX:=by
 have h1:Lib.TabIs Tryz.prog W "internal/strconv.uint64pow10" .u64 ((List.range 20).map fun i=>((10 ^ i:Nat):Int)):=Lib.tabIs_of_head (e:=209) (t:=241) d3c (by kernel_rfl) (n:=20) (by kernel_rfl) (by kernel_rfl) (by kernel_rfl) (by kernel_rfl) h
 exact(a4i d3c h1).trans rfl
theorem b3l{W:World}{n:String}{g:Nat}{text:List UInt8}{r:List (String×DataW Unit)}(hg:Tryz.prog.globalNamed n=some g)(ht:(Tryz.prog.globals[g]?).map (·.type)=some 142)(h:laidMet Tryz.prog ((n,.iface "*errors.errorString" (.ptr (.agg [.lit (.string text)])))::r) W): ∃ cs,CF W g=some cs∧Sc cs:=by
 obtain⟨ps,⟨g0,t0,cs0,f0,p0,q0,hg0,ht0,hv0,hd0,_,e0⟩,_,hrows⟩:=h
 obtain rfl:=Option.some.inj (hg.symm.trans hg0)
 obtain rfl:=Option.some.inj (ht.symm.trans ht0)
 subst e0
 refine⟨cs0,a4i hg hv0,?_⟩
 obtain⟨f1,u,v,e,_⟩:=iface_of_trod a7s hd0
 obtain⟨l0⟩:=cs0
 have e:l0=[.iface u v]:=e
 subst e
 exact⟨_,rfl,.inr ⟨u,v,rfl⟩⟩
theorem e3p{W:World}(h:W.ShapedOpen Tryz.prog): ∃ cs m,CF W 0=some cs∧cs[0]? = some (Value.int .i64 m):=by
 obtain⟨m,hm⟩:=cell_of_shapedOpen_int (g:=0) (t:=3) (zero:=#[.int .i64 0]) (k:=.i64) h (of_decide_eq_true (by kernel_rfl)) (by kernel_rfl) rfl (by kernel_rfl) (by kernel_rfl) (by kernel_rfl)
 unfold World.cell? at hm
 unfold CF
 split at hm
 ·rename_i cs T fz a
  exact⟨cs,m,by simp only[a],by simpa using hm⟩
 ·cases hm
theorem c7z{W:World}{x y z:String×DataW Unit}{r:List (String×DataW Unit)}(h:laidMet Tryz.prog (x::y::("internal/strconv.uint64pow10",Rows.laid_internal_strconv_uint64pow10)::z::("strconv.ErrRange",Rows.laid_strconv_ErrRange)::("strconv.ErrSyntax",Rows.laid_strconv_ErrSyntax)::r) W)(hs:W.ShapedOpen Tryz.prog):GlobOK (CF W):=
 ⟨b3l e1p (by kernel_rfl) h.tail.tail.tail.tail.tail,b3l e2n (by kernel_rfl) h.tail.tail.tail.tail,d8x h.tail.tail,e3p hs⟩
noncomputable def e5d:DataW Unit->Value
 | .lit (.int k n)=>.int k n
 | _=>.int .i64 0
noncomputable def A7:DataW Unit->Array Value
 | .agg ds=>(ds.flatMap fun | .agg es=>es.map e5d|d=>[e5d d]).toArray
 | _=>#[]
noncomputable def b3b:DataW Unit->ByteArray
 | .iface _ (.ptr (.agg [.lit (.string bs)]))=>⟨bs.toArray⟩
 | _=>⟨#[]⟩
noncomputable def low:Nat:=(World.holding Tryz.prog default ⟨#[],#[],[]⟩).heap.size
noncomputable def a1h(cs:Array Value):Obj->Obj
 | .cells _ t frozen=>.cells cs t frozen
 | o=>o
noncomputable def Dw(os:Os):World:=
 let w0:=World.holding Tryz.prog os ⟨#[.cells #[.string (b3b Rows.laid_strconv_ErrRange)] 239,.cells #[.string (b3b Rows.laid_strconv_ErrSyntax)] 239],#[],[]⟩
 {w0 with heap:=((((((w0.heap.modify 2 (a1h #[.iface 237 (.pointer (some ⟨low,0,none⟩))])).modify 1 (a1h #[.iface 237 (.pointer (some ⟨low+1,0,none⟩))])).modify 3 (a1h (A7 Rows.laid_internal_strconv_uint64pow10))).modify 6 (a1h (A7 Rows.laid_math_bits_deBruijn32tab))).modify 7 (a1h (A7 Rows.laid_math_bits_deBruijn64tab))).modify 5 (a1h (A7 Rows.laid_unicode_utf8_acceptRanges))).modify 4 (a1h (A7 Rows.laid_unicode_utf8_first))}
end Go.Proofs.YtapeiomhajfpgaaGreatDoor
namespace Go.Pl
open Go.RowKit Go.WideShapes Go.ChangeShapes
section
abbrev uB{H:Type}(d:DataW H):Nat:=Go.Proofs.YtapeiomhajfpgaaGreatDoor.Rows.uptoBulk d
abbrev uBs{H:Type}(l:List (DataW H)):Nat:=Go.Proofs.YtapeiomhajfpgaaGreatDoor.Rows.uptoBulkAll l
theorem Fu{H:Type}(d:DataW H)(l:List (DataW H)):uBs (d::l)=uB d+uBs l:=by unfold uBs uB;rw[Go.Proofs.YtapeiomhajfpgaaGreatDoor.Rows.uptoBulkAll]
theorem a0j{H:Type}(d:DataW H):1<=uB d:=by
 cases d with
 | lit l=>cases l <;> simp[uB,Go.Proofs.YtapeiomhajfpgaaGreatDoor.Rows.uptoBulk]
 | _=>simp[uB,Go.Proofs.YtapeiomhajfpgaaGreatDoor.Rows.uptoBulk]
mutual
def pvW:PV->Nat
 | .str s=>s.length+1
 | .sl _ _ xs=>Wy xs+1
 | .agg xs=>Wy xs
 | _=>1
def Wy:List PV->Nat
 | []=>0
 | p::ps=>pvW p+Wy ps
end
theorem b1l(a b:List PV):Wy (a++b)=Wy a+Wy b:=by
 induction a with
 | nil=>simp[Wy]
 | cons x a ih=>rw[List.cons_append,Wy,ih,Wy];omega
theorem e3i{P:Program}{e:TypeId}{q:List PV}(a:Xn P e=true∨P.cellsOf e=1)(b:q.length=P.cellsOf e):pvW (CW P e q)<=Wy q:=by
 cases ha:Xn P e with
 | true=>simp only[CW,ha];rw[pvW];exact Nat.le_refl _
 | false=>
  have h1:P.cellsOf e=1:=by simpa [ha]using a
  rw[h1]at b
  match q,b with
  | [x],_=>simp only[CW,ha,List.headD_cons];rw[Wy,Wy];exact Nat.le_refl _
theorem a5c{H:Type}{f:List PV->PV}: ∀ {qs:List (List PV)} {xs:List (DataW H×List MemPlace)},qs.length=xs.length->(∀ (i:Nat) (q:List PV) (x:DataW H×List MemPlace),qs[i]? = some q->xs[i]? = some x->pvW (f q)<=uB x.1)->Wy (qs.map f)<=uBs (xs.map (·.1))
 | [],[],_,_=>by simp[Wy]
 | q::qs,x::xs,hl,h=>by
  have h0:=h 0 q x rfl rfl
  have h1:=a5c (qs:=qs) (xs:=xs) (by simpa using hl) fun i q x b a=>h (i+1) q x (by simpa using b) (by simpa using a)
  rw[List.map_cons,Wy,List.map_cons,Fu]
  omega
 | [],_::_,hl,_=>by cases hl
 | _::_,[],hl,_=>by cases hl
def b1q(P:Program)(S:List TypeId):Bool:=S.all fun t=>match P.underlying t with|some (.array _ _)=>false|_=>true
section
variable {H:Type} {enc:TypeId×Value->H} {P:Program} {w:World} {base:Nat} {sp:Nat->Bool} {held:Bool} {S:List TypeId}
theorem Nn{n:Nat}{cs:List Value}(q : ∀ (t:TypeId) (cs:List Value) (x:DataW H×List MemPlace),t∈S->DataW.trod enc P w base sp held n t cs=some x-> ∃ ps,Cl w cs ps∧KP P n t ps∧Wy ps<=uB x.1):
  ∀ (b:List Field) (o N:Nat) (xs:List (DataW H×List MemPlace)),QG P o b N=true->(∀ f∈b,f.type∈S)->cs.length=N->o<=N ->
   b.mapM (fun f=>DataW.trod enc P w base sp held n f.type ((cs.drop f.offset).take (P.cellsOf f.type)))=some xs ->
   ∃ ps,Cl w (cs.drop o) ps∧Wy ps<=uBs (xs.map (·.1))∧ ∀ qs:List PV,qs.length=o->(∀ f∈b,KP P n f.type (((qs++ps).drop f.offset).take (P.cellsOf f.type))):=by
 intro b
 induction b with
 | nil=>
  intro o N xs hc _ z ho _
  simp[QG]at hc
  refine⟨[],?_,by simp[Wy],fun qs _ f B=>by simp at B⟩
  rw[List.drop_of_length_le (by omega)]
  exact Cl.nil
 | cons f b ihf=>
  intro o N xs hc hm z ho h
  simp only[QG,Bool.and_eq_true,beq_iff_eq]at hc
  obtain⟨j,hc⟩:=hc
  simp only[List.mapM_cons,Option.bind_eq_bind,Option.bind_eq_some_iff]at h
  obtain⟨x,E,y,u,e⟩:=h
  cases e
  obtain⟨s,k1,D,w1⟩:=q _ _ x (hm f List.mem_cons_self) E
  have r:o+P.cellsOf f.type<=N:=by
   have : ∀ (b:List Field) (a:Nat),QG P a b N=true->a<=N:=by
    intro b
    induction b with
    | nil=>intro a h;simp[QG]at h;omega
    | cons g b q=>intro a h;simp only[QG,Bool.and_eq_true]at h;have:=q _ h.2;omega
   exact this _ _ hc
  obtain⟨C,k3,w2,F⟩:=ihf (o+P.cellsOf f.type) N y hc (fun g k=>hm g (List.mem_cons_of_mem _ k)) z r u
  have l:s.length=P.cellsOf f.type:=by
   rw[<- k1.1.1,List.length_take,List.length_drop,j]
   omega
  refine⟨s++C,?_,by rw[b1l,List.map_cons,Fu];omega,fun qs A g k=> ?_⟩
  ·have:=k1.append k3
   rw[j]at this
   have e:cs.drop o=(cs.drop o).take (P.cellsOf f.type)++cs.drop (o+P.cellsOf f.type):=by rw[<- List.drop_drop,List.take_append_drop]
   rw[e]
   exact this
  ·rcases List.mem_cons.1 k with rfl|k
   ·rw[j,<- A,List.drop_left,<- l,List.take_left]
    exact D
   ·have:=F (qs++s) (by simp[A,l]) g k
    rwa [List.append_assoc]at this
theorem Le{n:Nat}{e:TypeId}{a:Addr}{len cap:Nat}{xs:List (DataW H×List MemPlace)}(C:0<P.cellsOf e)(D:Xn P e=true∨P.cellsOf e=1)(J:len<=cap)(hmax:cap<=maxLen)
  (W : ∀ (cs:List Value) (x:DataW H×List MemPlace),DataW.trod enc P w base sp held n e cs=some x-> ∃ ps,Cl w cs ps∧KP P n e ps∧Wy ps<=uB x.1)
  (h:(List.range len).mapM (fun i=>(w.cells? base (a.add (i*P.cellsOf e)) (P.cellsOf e)).bind (DataW.trod enc P w base sp held n e))=some xs) :
  ∃ qs:List (List PV),RP (CF w) (.slice (some a) len cap) (.sl (P.cellsOf e) false (qs.map (CW P e)))∧qs.length<=maxLen∧(∀ q∈qs,q.length=P.cellsOf e∧KP P n e q)∧Wy (qs.map (CW P e))<=uBs (xs.map (·.1)):=by
 obtain⟨T,Z⟩:=Me h
 rw[List.length_range]at T
 have L : ∀ i,i<len-> ∃ q:List PV,(q.length=P.cellsOf e∧KP P n e q∧ ∃ x,xs[i]? = some x∧Wy q<=uB x.1)∧ ∀ (r:Nat) p,q[r]? = some p-> ∃ v,w.cell? (a.add (i*P.cellsOf e+r))=some v∧v.oneCell'=true∧RP (CF w) v p:=by
  intro i hi
  have B:=List.getElem?_eq_getElem (show i<xs.length by omega)
  have:=Z i i _ (by simp[hi]) B
  rw[Option.bind_eq_some_iff]at this
  obtain⟨cs,h1,h2⟩:=this
  obtain⟨q,k1,k2,k3⟩:=W cs _ h2
  obtain⟨Y,V⟩:=a8j h1
  refine⟨q,⟨by rw[<- k1.1.1,Y],k2,_,B,k3⟩,fun r p l=> ?_⟩
  have hr:r<cs.length:=by rw[k1.1.1];exact(List.getElem?_eq_some_iff.1 l).1
  have z:=List.getElem?_eq_getElem hr
  refine⟨_,?_,k1.2 _ (List.getElem_mem hr),k1.1.2 r _ p z l⟩
  rw[<- a7y]
  exact V r _ z
 obtain⟨qs,s,k⟩:=FH len L
 have g : ∀ q∈qs,(CW P e q).cells=q:=by
  intro q u
  obtain⟨i,hi,rfl⟩:=List.getElem_of_mem u
  have:=(k i _ (List.getElem?_eq_getElem hi)).1
  exact a9n D this.1 fun ha=>c3h this.2.1 ha
 refine⟨qs,?_,by omega,fun q u=> ?_,?_⟩
 ·by_cases h0:len=0
  ·subst h0
   have:qs=[]:=List.length_eq_zero_iff.1 s
   subst this
   exact .sl0 _ _ _ _ fun e=>by cases e
  ·-- the first cell tells the block
   obtain⟨b,off,cs,rfl,hb,-⟩ : ∃ b off cs,a=⟨b,off,none⟩∧CF w b=some cs∧True:=by
    have N:=List.getElem?_eq_getElem (show 0<qs.length by omega)
    obtain⟨⟨f1,f2,-⟩,f3⟩:=k 0 _ N
    have l:=List.getElem?_eq_getElem (show 0<(qs[0]'(by omega)).length by omega)
    obtain⟨v,z,_⟩:=f3 0 _ l
    simp[Addr.add]at z
    obtain⟨b,off,cs,O,K,_⟩:=TZ z
    exact⟨b,off,cs,O,K,trivial⟩
   have hs : ∀ x∈qs.map (CW P e),x.cells.length=P.cellsOf e:=by
    intro x B
    obtain⟨q,u,rfl⟩:=List.mem_map.1 B
    rw[g q u]
    obtain⟨i,hi,rfl⟩:=List.getElem_of_mem u
    exact(k i _ (List.getElem?_eq_getElem hi)).1.1
   have E : ∀ (j:Nat) p,(flat (qs.map (CW P e)))[j]? = some p-> ∃ v,cs[off+j]? = some v∧v.oneCell'=true∧RP (CF w) v p:=by
    intro j p l
    have X:j<len*P.cellsOf e:=by
     have:=(List.getElem?_eq_some_iff.1 l).1
     rw[X3 hs]at this
     simpa [s]using this
    have hi:j / P.cellsOf e<qs.length:=by rw[s];exact(Nat.div_lt_iff_lt_mul C).2 X
    have hr:j % P.cellsOf e<P.cellsOf e:=Nat.mod_lt _ C
    have I:=List.getElem?_eq_getElem hi
    have Q:j=j / P.cellsOf e*P.cellsOf e+j % P.cellsOf e:=by rw[Nat.mul_comm];exact(Nat.div_add_mod _ _).symm
    have M:(qs.map (CW P e))[j / P.cellsOf e]? = some (CW P e qs[j / P.cellsOf e]):=by rw[List.getElem?_map,I];rfl
    have F:=MC hs M hr
    rw[<- Q,g _ (List.getElem_mem hi)]at F
    rw[F]at l
    obtain⟨v,z,h1,h2⟩:=(k _ _ I).2 _ p l
    rw[<- Q,Xe]at z
    obtain⟨b',off',cs',O,K,e3⟩:=TZ z
    cases O
    rw[hb]at K
    cases K
    exact⟨v,e3,h1,h2⟩
   have A:len=(qs.map (CW P e)).length:=by simp[s]
   rw[A]
   refine .sl b off cs cap _ false _ (fun j=>(cs[off+j]?).getD default) hb (by rw[<- A];exact J) (fun e=>by cases e) hs (fun j p l=> ?_) (fun j p l=> ?_)
   ·obtain⟨v,h1,h2,h3⟩:=E j p l
    rw[h1]
    exact⟨rfl,h2⟩
   ·obtain⟨v,h1,h2,h3⟩:=E j p l
    rw[h1]
    exact h3
 ·obtain⟨i,hi,rfl⟩:=List.getElem_of_mem u
  have:=(k i _ (List.getElem?_eq_getElem hi)).1
  exact⟨this.1,this.2.1⟩
 ·refine a5c (by rw[s,T]) fun i q x u B=> ?_
  have:=(k i q u).1
  obtain⟨y,U,hw⟩:=this.2.2
  rw[B]at U
  cases U
  have hm:=e3i (P:=P) (e:=e) (q:=q) D this.1
  omega
theorem EG(y:PU P S=true)(s:b1q P S=true): ∀ (n:Nat) (t:TypeId) (cs:List Value) (x:DataW H×List MemPlace),t∈S->DataW.trod enc P w base sp held n t cs=some x-> ∃ ps,Cl w cs ps∧KP P n t ps∧Wy ps<=uB x.1:=by
  intro n
  induction n with
  | zero=>intro t cs x _ h;simp[DataW.trod]at h
  | succ n ih=>
    intro t cs x ht h
    have b:=Tz y ht
    have g:=List.all_eq_true.1 s t ht
    unfold DataW.trod at h
    unfold KP
    split at h <;> (try rename_i hu) <;> (try simp only[hu]at b g ⊢) <;> try (cases b;done)
    all_goals first
      | (exact⟨_,Cl.one (.bool _) rfl,⟨_,rfl⟩,a0j _⟩)
      | (split at h
         · rename_i hc
           obtain⟨rfl,A⟩:=hc
           exact⟨_,Cl.one (.int _ _) rfl,⟨_,rfl,A⟩,a0j _⟩
         · cases h)
      | (split at h
         · rename_i hc
           cases h
           refine⟨_,Cl.one (.str _) rfl,⟨_,rfl,hc⟩,?_⟩
           show Wy [PV.str _]<=Go.Proofs.YtapeiomhajfpgaaGreatDoor.Rows.uptoBulk (DataW.lit (.string _))
           rw[Go.Proofs.YtapeiomhajfpgaaGreatDoor.Rows.uptoBulk,Wy,Wy,pvW]
           omega
         · cases h)
      | (cases h;done)
      | (cases g;done)
      | skip
    · exact⟨_,Cl.one (.sl0 _ _ _ false (fun e=>by cases e)) rfl,⟨[],rfl,by simp,fun q z=>by simp at z⟩,a0j _⟩
    · rename_i e a len cap
      simp only[Bool.and_eq_true,Bool.or_eq_true,beq_iff_eq,decide_eq_true_eq]at b
      simp only at h
      split at h
      · rename_i hc
        obtain⟨xs,h1,h3⟩:=Option.bind_eq_some_iff.1 h
        obtain⟨ys,h4,rfl⟩:=Option.map_eq_some_iff.1 h3
        obtain⟨qs,k1,j,k3,r⟩:=Le b.1.2 b.2 hc.2.1 hc.2.2 (fun cs x u=>ih e cs x (by simpa using b.1.1.2) u) h1
        refine⟨_,Cl.one k1 rfl,⟨qs,rfl,j,k3⟩,?_⟩
        show Wy [PV.sl _ false (qs.map (CW P e))]<=Go.Proofs.YtapeiomhajfpgaaGreatDoor.Rows.uptoBulk (DataW.slice (xs.map (·.1)) (ys.map (·.1)))
        rw[Go.Proofs.YtapeiomhajfpgaaGreatDoor.Rows.uptoBulk,Wy,Wy,pvW]
        have:Wy (qs.map (CW P e))<=Go.Proofs.YtapeiomhajfpgaaGreatDoor.Rows.uptoBulkAll (xs.map (·.1)):=r
        omega
      · cases h
    · rename_i cs2 l
      simp only[Bool.and_eq_true]at b
      split at h
      · rename_i hc
        rw[Option.map_eq_some_iff]at h
        obtain⟨xs,h1,rfl⟩:=h
        obtain⟨ps,k1,k3,j⟩:=Nn ih l.toList 0 (P.cellsOf t) xs b.1 (fun f k=>by simpa using List.all_eq_true.1 b.2 f k) hc (Nat.zero_le _) h1
        rw[List.drop_zero]at k1
        refine⟨ps,k1,⟨by rw[<- k1.1.1,hc],fun f k=>by simpa using j [] rfl f k⟩,?_⟩
        show Wy ps<=Go.Proofs.YtapeiomhajfpgaaGreatDoor.Rows.uptoBulk (DataW.agg (xs.map (·.1)))
        rw[Go.Proofs.YtapeiomhajfpgaaGreatDoor.Rows.uptoBulk]
        have:Wy ps<=Go.Proofs.YtapeiomhajfpgaaGreatDoor.Rows.uptoBulkAll (xs.map (·.1)):=k3
        omega
      · cases h
theorem a7n(s:PU P S=true)(B:b1q P S=true){t:TypeId}(ht:t∈S){r:Reach}{b0:Nat}{v:Value}{d:DataW H}{p:List MemPlace}(e:Value.okWide P w r b0 t v)(h:DataW.Trod enc P w base sp held t v d p):
  ∃ n q,RP (CF w) v (CW P t q)∧KP P n t q∧Wy q<=uB d:=by
 obtain⟨n,h⟩:=h
 obtain⟨q,k1,C,k3⟩:=EG s B n t _ _ ht h
 refine⟨n,q,?_,C,k3⟩
 have u:=Tz s ht
 have g:v.cells = #[v]->Xn P t=false->RP (CF w) v (CW P t q):=by
  intro hc ha
  rw[hc]at k1
  have A:=k1.1.1
  match q,A with
  | [x],_=>simp only[CW,ha,List.headD_cons];exact k1.1.2 0 v x rfl rfl
 have agg : ∀ cs,v = .agg cs->Xn P t=true->RP (CF w) v (CW P t q):=by
  rintro cs rfl ha
  simp only[CW,ha]
  exact .agg cs q (by have:=k1.1.1;simpa [Value.cells]using this) (fun x k=>k1.2 x (by simpa [Value.cells]using k)) fun j x y k z=>k1.1.2 j x y (by simpa [Value.cells]using k) z
 split at u
 ·rename_i hu
  obtain⟨b,rfl⟩:=okWide_bool hu e
  exact g rfl (by simp[Xn,hu])
 ·rename_i hu
  obtain⟨b,rfl⟩:=okWide_int hu e
  exact g rfl (by simp[Xn,hu])
 ·rename_i hu
  obtain⟨b,rfl⟩:=okWide_string hu e
  exact g rfl (by simp[Xn,hu])
 ·rename_i hu
  obtain⟨a,l,c,rfl⟩:=okWide_slice hu e
  exact g rfl (by simp[Xn,hu])
 ·rename_i hu
  simp only[Value.okWide,hu]at e
  obtain⟨cs,rfl,_⟩:=e
  exact agg cs rfl (by simp[Xn,hu])
 ·rename_i hu
  simp only[Value.okWide,hu]at e
  obtain⟨cs,rfl,_⟩:=e
  exact agg cs rfl (by simp[Xn,hu])
 ·cases u
end
end
end Go.Pl
namespace Go.Proofs.YtapeiomhajfpgaaGreatDoor
open Go.Pl
section
set_option maxRecDepth 100000
open Enc (enc dec is)
open EncL (encL decL isL)
theorem c4o:Tryz.prog.underlying 9=some .string:=by kernel_rfl
theorem d4h:Xn Tryz.prog 9=false:=by kernel_rfl
theorem c1x{n:Nat}{q:List PV}(h:KP Tryz.prog n 9 q): ∃ s:Str,CW Tryz.prog 9 q=enc s:=by
 obtain⟨s,a,_⟩:=b8h c4o h
 exact⟨⟨s⟩,by rw[a,CW,d4h];rfl⟩
theorem d0p{n0:Nat}{a:List PV}(e:KP Tryz.prog n0 9 a):
  preT (fun _:Str×Unit=>true) [CW Tryz.prog 9 a]=true:=by
 obtain⟨s,b⟩:=c1x e
 rw[b]
 exact Zf (s,()) rfl rfl
end
end Go.Proofs.YtapeiomhajfpgaaGreatDoor
namespace Go.Proofs.YtapeiomhajfpgaaGreatDoor
open Go.Shelf
def Tryz.lays145_ren:Go.Shelf.Ren:=⟨fun|145=>171|220=>198|219=>160|217=>159|225=>190|224=>191|267=>192|266=>189|314=>219|n=>n,fun|9=>9|4=>4|59=>183|3=>3|5=>5|46=>196|146=>221|51=>220|n=>n,fun|1=>0|n=>n⟩
theorem Tryz.lays145:Go.Proofs.Lays.n145 Tryz.prog Tryz.lays145_ren:={
 mixed:=by kernel_rfl
 f145:=Tryz.func171.trans (congrArg some (by kernel_rfl))
 f217:=Tryz.func159.trans (congrArg some (by kernel_rfl))
 f219:=Tryz.func160.trans (congrArg some (by kernel_rfl))
 f220:=Tryz.func198.trans (congrArg some (by kernel_rfl))
 f224:=Tryz.func191.trans (congrArg some (by kernel_rfl))
 f225:=Tryz.func190.trans (congrArg some (by kernel_rfl))
 f266:=Tryz.func189.trans (congrArg some (by kernel_rfl))
 f267:=Tryz.func192.trans (congrArg some (by kernel_rfl))
 f314:=Tryz.func219.trans (congrArg some (by kernel_rfl))
 t3:=Tryz.underlying3
 a3:=Tryz.isAgg3
 z3:=Tryz.sizeOf3
 v3:=Tryz.zeroValue3
 t4:=Tryz.underlying4
 a4:=Tryz.isAgg4
 z4:=Tryz.sizeOf4
 v4:=Tryz.zeroValue4
 t5:=Tryz.underlying5
 a5:=Tryz.isAgg5
 z5:=Tryz.sizeOf5
 v5:=Tryz.zeroValue5
 t9:=Tryz.underlying9
 a9:=Tryz.isAgg9
 z9:=Tryz.sizeOf9
 v9:=Tryz.zeroValue9
 t46:=Tryz.underlying196
 a46:=Tryz.isAgg196
 z46:=Tryz.sizeOf196
 v46:=Tryz.zeroValue196
 t51:=Tryz.underlying220
 a51:=Tryz.isAgg220
 z51:=Tryz.sizeOf220
 v51:=Tryz.zeroValue220
 t59:=Tryz.underlying183
 a59:=Tryz.isAgg183
 z59:=Tryz.sizeOf183
 v59:=Tryz.zeroValue183
 t146:=Tryz.underlying221
 a146:=Tryz.isAgg221
 z146:=Tryz.sizeOf221
 v146:=Tryz.zeroValue221
 g1:=by kernel_rfl}
def Tryz.lays137_ren:Go.Shelf.Ren:=⟨fun|137=>117|217=>159|266=>189|n=>n,fun|9=>9|5=>5|3=>3|n=>n,fun|n=>n⟩
theorem Tryz.lays137:Go.Proofs.Lays.n137 Tryz.prog Tryz.lays137_ren:={
 mixed:=by kernel_rfl
 f137:=Tryz.func117.trans (congrArg some (by kernel_rfl))
 f217:=Tryz.func159.trans (congrArg some (by kernel_rfl))
 f266:=Tryz.func189.trans (congrArg some (by kernel_rfl))
 t3:=Tryz.underlying3
 a3:=Tryz.isAgg3
 z3:=Tryz.sizeOf3
 v3:=Tryz.zeroValue3
 t5:=Tryz.underlying5
 a5:=Tryz.isAgg5
 z5:=Tryz.sizeOf5
 v5:=Tryz.zeroValue5
 t9:=Tryz.underlying9
 a9:=Tryz.isAgg9
 z9:=Tryz.sizeOf9
 v9:=Tryz.zeroValue9}
def Tryz.lays138_ren:Go.Shelf.Ren:=⟨fun|138=>80|195=>118|218=>119|143=>120|219=>160|217=>159|225=>190|224=>191|267=>192|266=>189|314=>219|n=>n,fun|9=>9|3=>3|4=>4|5=>5|0=>0|46=>196|146=>221|51=>220|n=>n,fun|1=>0|n=>n⟩
theorem Tryz.lays138:Go.Proofs.Lays.n138 Tryz.prog Tryz.lays138_ren:={
 mixed:=by kernel_rfl
 f138:=Tryz.func80.trans (congrArg some (by kernel_rfl))
 f143:=Tryz.func120.trans (congrArg some (by kernel_rfl))
 f195:=Tryz.func118.trans (congrArg some (by kernel_rfl))
 f217:=Tryz.func159.trans (congrArg some (by kernel_rfl))
 f218:=Tryz.func119.trans (congrArg some (by kernel_rfl))
 f219:=Tryz.func160.trans (congrArg some (by kernel_rfl))
 f224:=Tryz.func191.trans (congrArg some (by kernel_rfl))
 f225:=Tryz.func190.trans (congrArg some (by kernel_rfl))
 f266:=Tryz.func189.trans (congrArg some (by kernel_rfl))
 f267:=Tryz.func192.trans (congrArg some (by kernel_rfl))
 f314:=Tryz.func219.trans (congrArg some (by kernel_rfl))
 t0:=Tryz.underlying0
 a0:=Tryz.isAgg0
 z0:=Tryz.sizeOf0
 v0:=Tryz.zeroValue0
 t3:=Tryz.underlying3
 a3:=Tryz.isAgg3
 z3:=Tryz.sizeOf3
 v3:=Tryz.zeroValue3
 t4:=Tryz.underlying4
 a4:=Tryz.isAgg4
 z4:=Tryz.sizeOf4
 v4:=Tryz.zeroValue4
 t5:=Tryz.underlying5
 a5:=Tryz.isAgg5
 z5:=Tryz.sizeOf5
 v5:=Tryz.zeroValue5
 t9:=Tryz.underlying9
 a9:=Tryz.isAgg9
 z9:=Tryz.sizeOf9
 v9:=Tryz.zeroValue9
 t46:=Tryz.underlying196
 a46:=Tryz.isAgg196
 z46:=Tryz.sizeOf196
 v46:=Tryz.zeroValue196
 t51:=Tryz.underlying220
 a51:=Tryz.isAgg220
 z51:=Tryz.sizeOf220
 v51:=Tryz.zeroValue220
 t146:=Tryz.underlying221
 a146:=Tryz.isAgg221
 z146:=Tryz.sizeOf221
 v146:=Tryz.zeroValue221
 g1:=by kernel_rfl}
def Tryz.lays172_ren:Go.Shelf.Ren:=⟨fun|172=>109|244=>154|245=>155|247=>183|279=>184|280=>185|281=>186|282=>187|287=>212|316=>213|171=>110|205=>214|321=>236|322=>237|243=>156|246=>188|283=>215|284=>216|285=>217|286=>218|129=>235|317=>238|318=>239|319=>240|320=>241|337=>251|338=>252|n=>n,fun|9=>9|3=>3|75=>142|76=>143|4=>4|5=>5|167=>189|37=>146|0=>0|85=>190|2=>2|168=>192|53=>209|175=>210|46=>196|210=>213|127=>236|145=>239|143=>237|21=>21|171=>215|173=>218|212=>241|51=>220|20=>20|213=>242|232=>258|233=>259|80=>75|n=>n,fun|15=>1|16=>2|17=>3|18=>6|19=>7|n=>n⟩
theorem Tryz.lays172:Go.Proofs.LaysC.n172 Tryz.prog Tryz.lays172_ren:={
 mixed:=by kernel_rfl
 f129:=Tryz.func235.trans (congrArg some (by kernel_rfl))
 f171:=Tryz.func110.trans (congrArg some (by kernel_rfl))
 f172:=Tryz.func109.trans (congrArg some (by kernel_rfl))
 f205:=Tryz.func214.trans (congrArg some (by kernel_rfl))
 f243:=Tryz.func156.trans (congrArg some (by kernel_rfl))
 f244:=Tryz.func154.trans (congrArg some (by kernel_rfl))
 f245:=Tryz.func155.trans (congrArg some (by kernel_rfl))
 f246:=Tryz.func188.trans (congrArg some (by kernel_rfl))
 f247:=Tryz.func183.trans (congrArg some (by kernel_rfl))
 f279:=Tryz.func184.trans (congrArg some (by kernel_rfl))
 f280:=Tryz.func185.trans (congrArg some (by kernel_rfl))
 f281:=Tryz.func186.trans (congrArg some (by kernel_rfl))
 f282:=Tryz.func187.trans (congrArg some (by kernel_rfl))
 f283:=Tryz.func215.trans (congrArg some (by kernel_rfl))
 f284:=Tryz.func216.trans (congrArg some (by kernel_rfl))
 f285:=Tryz.func217.trans (congrArg some (by kernel_rfl))
 f286:=Tryz.func218.trans (congrArg some (by kernel_rfl))
 f287:=Tryz.func212.trans (congrArg some (by kernel_rfl))
 f316:=Tryz.func213.trans (congrArg some (by kernel_rfl))
 f317:=Tryz.func238.trans (congrArg some (by kernel_rfl))
 f318:=Tryz.func239.trans (congrArg some (by kernel_rfl))
 f319:=Tryz.func240.trans (congrArg some (by kernel_rfl))
 f320:=Tryz.func241.trans (congrArg some (by kernel_rfl))
 f321:=Tryz.func236.trans (congrArg some (by kernel_rfl))
 f322:=Tryz.func237.trans (congrArg some (by kernel_rfl))
 f337:=Tryz.func251.trans (congrArg some (by kernel_rfl))
 f338:=Tryz.func252.trans (congrArg some (by kernel_rfl))
 t0:=Tryz.underlying0
 a0:=Tryz.isAgg0
 z0:=Tryz.sizeOf0
 v0:=Tryz.zeroValue0
 t2:=Tryz.underlying2
 a2:=Tryz.isAgg2
 z2:=Tryz.sizeOf2
 v2:=Tryz.zeroValue2
 t3:=Tryz.underlying3
 a3:=Tryz.isAgg3
 z3:=Tryz.sizeOf3
 v3:=Tryz.zeroValue3
 t4:=Tryz.underlying4
 a4:=Tryz.isAgg4
 z4:=Tryz.sizeOf4
 v4:=Tryz.zeroValue4
 t5:=Tryz.underlying5
 a5:=Tryz.isAgg5
 z5:=Tryz.sizeOf5
 v5:=Tryz.zeroValue5
 t9:=Tryz.underlying9
 a9:=Tryz.isAgg9
 z9:=Tryz.sizeOf9
 v9:=Tryz.zeroValue9
 t20:=Tryz.underlying20
 a20:=Tryz.isAgg20
 z20:=Tryz.sizeOf20
 v20:=Tryz.zeroValue20
 t21:=Tryz.underlying21
 a21:=Tryz.isAgg21
 z21:=Tryz.sizeOf21
 v21:=Tryz.zeroValue21
 t37:=Tryz.underlying146
 a37:=Tryz.isAgg146
 z37:=Tryz.sizeOf146
 v37:=Tryz.zeroValue146
 t46:=Tryz.underlying196
 a46:=Tryz.isAgg196
 z46:=Tryz.sizeOf196
 v46:=Tryz.zeroValue196
 t51:=Tryz.underlying220
 a51:=Tryz.isAgg220
 z51:=Tryz.sizeOf220
 v51:=Tryz.zeroValue220
 t53:=Tryz.underlying209
 a53:=Tryz.isAgg209
 z53:=Tryz.sizeOf209
 v53:=Tryz.zeroValue209
 t75:=Tryz.underlying142
 a75:=Tryz.isAgg142
 z75:=Tryz.sizeOf142
 v75:=Tryz.zeroValue142
 t76:=Tryz.underlying143
 a76:=Tryz.isAgg143
 z76:=Tryz.sizeOf143
 v76:=Tryz.zeroValue143
 t85:=Tryz.underlying190
 a85:=Tryz.isAgg190
 z85:=Tryz.sizeOf190
 v85:=Tryz.zeroValue190
 t127:=Tryz.underlying236
 a127:=Tryz.isAgg236
 z127:=Tryz.sizeOf236
 v127:=Tryz.zeroValue236
 t143:=Tryz.underlying237
 a143:=Tryz.isAgg237
 z143:=Tryz.sizeOf237
 v143:=Tryz.zeroValue237
 t145:=Tryz.underlying239
 a145:=Tryz.isAgg239
 z145:=Tryz.sizeOf239
 v145:=Tryz.zeroValue239
 t167:=Tryz.underlying189
 a167:=Tryz.isAgg189
 z167:=Tryz.sizeOf189
 v167:=Tryz.zeroValue189
 t168:=Tryz.underlying192
 a168:=Tryz.isAgg192
 z168:=Tryz.sizeOf192
 v168:=Tryz.zeroValue192
 t171:=Tryz.underlying215
 a171:=Tryz.isAgg215
 z171:=Tryz.sizeOf215
 v171:=Tryz.zeroValue215
 t173:=Tryz.underlying218
 a173:=Tryz.isAgg218
 z173:=Tryz.sizeOf218
 v173:=Tryz.zeroValue218
 t175:=Tryz.underlying210
 a175:=Tryz.isAgg210
 z175:=Tryz.sizeOf210
 v175:=Tryz.zeroValue210
 t210:=Tryz.underlying213
 a210:=Tryz.isAgg213
 z210:=Tryz.sizeOf213
 v210:=Tryz.zeroValue213
 t212:=Tryz.underlying241
 a212:=Tryz.isAgg241
 z212:=Tryz.sizeOf241
 v212:=Tryz.zeroValue241
 t213:=Tryz.underlying242
 a213:=Tryz.isAgg242
 z213:=Tryz.sizeOf242
 t232:=Tryz.underlying258
 a232:=Tryz.isAgg258
 z232:=Tryz.sizeOf258
 v232:=Tryz.zeroValue258
 t233:=Tryz.underlying259
 a233:=Tryz.isAgg259
 z233:=Tryz.sizeOf259
 v233:=Tryz.zeroValue259
 g15:=by kernel_rfl
 g16:=by kernel_rfl
 g17:=by kernel_rfl
 g18:=by kernel_rfl
 g19:=by kernel_rfl
 t80:=Tryz.underlying75
 a80:=Tryz.isAgg75
 z80:=Tryz.sizeOf75
 v80:=Tryz.zeroValue75
 i0:=by kernel_rfl
 i2:=by kernel_rfl
 i3:=by kernel_rfl
 i4:=by kernel_rfl
 i5:=by kernel_rfl
 i9:=by kernel_rfl
 i20:=by kernel_rfl
 i21:=by kernel_rfl
 i37:=by kernel_rfl
 i46:=by kernel_rfl
 i51:=by kernel_rfl
 i53:=by kernel_rfl
 i75:=by kernel_rfl
 i76:=by kernel_rfl
 i80:=by kernel_rfl
 i85:=by kernel_rfl
 i127:=by kernel_rfl
 i143:=by kernel_rfl
 i145:=by kernel_rfl
 i167:=by kernel_rfl
 i168:=by kernel_rfl
 i171:=by kernel_rfl
 i173:=by kernel_rfl
 i175:=by kernel_rfl
 i210:=by kernel_rfl
 i212:=by kernel_rfl
 i232:=by kernel_rfl
 i233:=by kernel_rfl
 m15:=by kernel_rfl
 m16:=by kernel_rfl
 m17:=by kernel_rfl
 m18:=by kernel_rfl
 m19:=by kernel_rfl
 c0:=by kernel_rfl
 c2:=by kernel_rfl
 c3:=by kernel_rfl
 c4:=by kernel_rfl
 c5:=by kernel_rfl
 c9:=by kernel_rfl
 c20:=by kernel_rfl
 c21:=by kernel_rfl
 c37:=by kernel_rfl
 c46:=by kernel_rfl
 c51:=by kernel_rfl
 c53:=by kernel_rfl
 c75:=by kernel_rfl
 c76:=by kernel_rfl
 c80:=by kernel_rfl
 c85:=by kernel_rfl
 c127:=by kernel_rfl
 c143:=by kernel_rfl
 c145:=by kernel_rfl
 c167:=by kernel_rfl
 c168:=by kernel_rfl
 c171:=by kernel_rfl
 c173:=by kernel_rfl
 c175:=by kernel_rfl
 c210:=by kernel_rfl
 c212:=by kernel_rfl
 c213:=by kernel_rfl
 c232:=by kernel_rfl
 c233:=by kernel_rfl}
def Tryz.lays171_ren:Go.Shelf.Ren:=⟨fun|171=>110|243=>156|246=>188|283=>215|284=>216|285=>217|286=>218|129=>235|317=>238|318=>239|319=>240|320=>241|337=>251|338=>252|n=>n,fun|3=>3|9=>9|2=>2|4=>4|171=>215|0=>0|53=>209|37=>146|5=>5|173=>218|212=>241|51=>220|20=>20|213=>242|46=>196|232=>258|233=>259|n=>n,fun|17=>3|18=>6|19=>7|n=>n⟩
theorem Tryz.lays171:Go.Proofs.LaysM.n171 Tryz.prog Tryz.lays171_ren:={
 mixed:=by kernel_rfl
 f129:=Tryz.func235.trans (congrArg some (by kernel_rfl))
 f171:=Tryz.func110.trans (congrArg some (by kernel_rfl))
 f243:=Tryz.func156.trans (congrArg some (by kernel_rfl))
 f246:=Tryz.func188.trans (congrArg some (by kernel_rfl))
 f283:=Tryz.func215.trans (congrArg some (by kernel_rfl))
 f284:=Tryz.func216.trans (congrArg some (by kernel_rfl))
 f285:=Tryz.func217.trans (congrArg some (by kernel_rfl))
 f286:=Tryz.func218.trans (congrArg some (by kernel_rfl))
 f317:=Tryz.func238.trans (congrArg some (by kernel_rfl))
 f318:=Tryz.func239.trans (congrArg some (by kernel_rfl))
 f319:=Tryz.func240.trans (congrArg some (by kernel_rfl))
 f320:=Tryz.func241.trans (congrArg some (by kernel_rfl))
 f337:=Tryz.func251.trans (congrArg some (by kernel_rfl))
 f338:=Tryz.func252.trans (congrArg some (by kernel_rfl))
 t0:=Tryz.underlying0
 a0:=Tryz.isAgg0
 z0:=Tryz.sizeOf0
 v0:=Tryz.zeroValue0
 t2:=Tryz.underlying2
 a2:=Tryz.isAgg2
 z2:=Tryz.sizeOf2
 v2:=Tryz.zeroValue2
 t3:=Tryz.underlying3
 a3:=Tryz.isAgg3
 z3:=Tryz.sizeOf3
 v3:=Tryz.zeroValue3
 t4:=Tryz.underlying4
 a4:=Tryz.isAgg4
 z4:=Tryz.sizeOf4
 v4:=Tryz.zeroValue4
 t5:=Tryz.underlying5
 a5:=Tryz.isAgg5
 z5:=Tryz.sizeOf5
 v5:=Tryz.zeroValue5
 t9:=Tryz.underlying9
 a9:=Tryz.isAgg9
 z9:=Tryz.sizeOf9
 v9:=Tryz.zeroValue9
 t20:=Tryz.underlying20
 a20:=Tryz.isAgg20
 z20:=Tryz.sizeOf20
 v20:=Tryz.zeroValue20
 t37:=Tryz.underlying146
 a37:=Tryz.isAgg146
 z37:=Tryz.sizeOf146
 v37:=Tryz.zeroValue146
 t46:=Tryz.underlying196
 a46:=Tryz.isAgg196
 z46:=Tryz.sizeOf196
 v46:=Tryz.zeroValue196
 t51:=Tryz.underlying220
 a51:=Tryz.isAgg220
 z51:=Tryz.sizeOf220
 v51:=Tryz.zeroValue220
 t53:=Tryz.underlying209
 a53:=Tryz.isAgg209
 z53:=Tryz.sizeOf209
 v53:=Tryz.zeroValue209
 t171:=Tryz.underlying215
 a171:=Tryz.isAgg215
 z171:=Tryz.sizeOf215
 v171:=Tryz.zeroValue215
 t173:=Tryz.underlying218
 a173:=Tryz.isAgg218
 z173:=Tryz.sizeOf218
 v173:=Tryz.zeroValue218
 t212:=Tryz.underlying241
 a212:=Tryz.isAgg241
 z212:=Tryz.sizeOf241
 v212:=Tryz.zeroValue241
 t213:=Tryz.underlying242
 a213:=Tryz.isAgg242
 z213:=Tryz.sizeOf242
 t232:=Tryz.underlying258
 a232:=Tryz.isAgg258
 z232:=Tryz.sizeOf258
 v232:=Tryz.zeroValue258
 t233:=Tryz.underlying259
 a233:=Tryz.isAgg259
 z233:=Tryz.sizeOf259
 v233:=Tryz.zeroValue259
 g17:=by kernel_rfl
 g18:=by kernel_rfl
 g19:=by kernel_rfl
 i0:=by kernel_rfl
 i2:=by kernel_rfl
 i3:=by kernel_rfl
 i4:=by kernel_rfl
 i5:=by kernel_rfl
 i9:=by kernel_rfl
 i20:=by kernel_rfl
 i37:=by kernel_rfl
 i46:=by kernel_rfl
 i51:=by kernel_rfl
 i53:=by kernel_rfl
 i171:=by kernel_rfl
 i173:=by kernel_rfl
 i212:=by kernel_rfl
 i232:=by kernel_rfl
 i233:=by kernel_rfl
 m17:=by kernel_rfl
 m18:=by kernel_rfl
 m19:=by kernel_rfl}
def Tryz.lays99_ren:Go.Shelf.Ren:=⟨fun|99=>108|206=>153|n=>n,fun|9=>9|4=>4|3=>3|n=>n,fun|n=>n⟩
theorem Tryz.lays99:Go.Proofs.Lays.n99 Tryz.prog Tryz.lays99_ren:={
 mixed:=by kernel_rfl
 f99:=Tryz.func108.trans (congrArg some (by kernel_rfl))
 f206:=Tryz.func153.trans (congrArg some (by kernel_rfl))
 t3:=Tryz.underlying3
 a3:=Tryz.isAgg3
 z3:=Tryz.sizeOf3
 v3:=Tryz.zeroValue3
 t4:=Tryz.underlying4
 a4:=Tryz.isAgg4
 z4:=Tryz.sizeOf4
 v4:=Tryz.zeroValue4
 t9:=Tryz.underlying9
 a9:=Tryz.isAgg9
 z9:=Tryz.sizeOf9
 v9:=Tryz.zeroValue9}
def Tryz.lays190_ren:Go.Shelf.Ren:=⟨fun|190=>182|125=>211|258=>210|128=>234|129=>235|302=>225|303=>226|304=>227|305=>228|306=>229|307=>230|308=>231|309=>232|310=>233|333=>245|329=>246|330=>247|334=>248|335=>249|336=>250|344=>254|n=>n,fun|31=>35|9=>9|3=>3|46=>196|0=>0|51=>220|53=>209|4=>4|183=>229|182=>228|131=>152|5=>5|218=>244|222=>248|228=>255|229=>256|n=>n,fun|n=>n⟩
theorem Tryz.lays190:Go.Proofs.Lays.n190 Tryz.prog Tryz.lays190_ren:={
 mixed:=by kernel_rfl
 f125:=Tryz.func211.trans (congrArg some (by kernel_rfl))
 f128:=Tryz.func234.trans (congrArg some (by kernel_rfl))
 f129:=Tryz.func235.trans (congrArg some (by kernel_rfl))
 f190:=Tryz.func182.trans (congrArg some (by kernel_rfl))
 f258:=Tryz.func210.trans (congrArg some (by kernel_rfl))
 f302:=Tryz.func225.trans (congrArg some (by kernel_rfl))
 f303:=Tryz.func226.trans (congrArg some (by kernel_rfl))
 f304:=Tryz.func227.trans (congrArg some (by kernel_rfl))
 f305:=Tryz.func228.trans (congrArg some (by kernel_rfl))
 f306:=Tryz.func229.trans (congrArg some (by kernel_rfl))
 f307:=Tryz.func230.trans (congrArg some (by kernel_rfl))
 f308:=Tryz.func231.trans (congrArg some (by kernel_rfl))
 f309:=Tryz.func232.trans (congrArg some (by kernel_rfl))
 f310:=Tryz.func233.trans (congrArg some (by kernel_rfl))
 f329:=Tryz.func246.trans (congrArg some (by kernel_rfl))
 f330:=Tryz.func247.trans (congrArg some (by kernel_rfl))
 f333:=Tryz.func245.trans (congrArg some (by kernel_rfl))
 f334:=Tryz.func248.trans (congrArg some (by kernel_rfl))
 f335:=Tryz.func249.trans (congrArg some (by kernel_rfl))
 f336:=Tryz.func250.trans (congrArg some (by kernel_rfl))
 f344:=Tryz.func254.trans (congrArg some (by kernel_rfl))
 t0:=Tryz.underlying0
 a0:=Tryz.isAgg0
 z0:=Tryz.sizeOf0
 v0:=Tryz.zeroValue0
 t3:=Tryz.underlying3
 a3:=Tryz.isAgg3
 z3:=Tryz.sizeOf3
 v3:=Tryz.zeroValue3
 t4:=Tryz.underlying4
 a4:=Tryz.isAgg4
 z4:=Tryz.sizeOf4
 v4:=Tryz.zeroValue4
 t5:=Tryz.underlying5
 a5:=Tryz.isAgg5
 z5:=Tryz.sizeOf5
 v5:=Tryz.zeroValue5
 t9:=Tryz.underlying9
 a9:=Tryz.isAgg9
 z9:=Tryz.sizeOf9
 v9:=Tryz.zeroValue9
 t31:=Tryz.underlying35
 a31:=Tryz.isAgg35
 z31:=Tryz.sizeOf35
 v31:=Tryz.zeroValue35
 t46:=Tryz.underlying196
 a46:=Tryz.isAgg196
 z46:=Tryz.sizeOf196
 v46:=Tryz.zeroValue196
 t51:=Tryz.underlying220
 a51:=Tryz.isAgg220
 z51:=Tryz.sizeOf220
 v51:=Tryz.zeroValue220
 t53:=Tryz.underlying209
 a53:=Tryz.isAgg209
 z53:=Tryz.sizeOf209
 v53:=Tryz.zeroValue209
 t131:=Tryz.underlying152
 a131:=Tryz.isAgg152
 z131:=Tryz.sizeOf152
 v131:=Tryz.zeroValue152
 t182:=Tryz.underlying228
 a182:=Tryz.isAgg228
 z182:=Tryz.sizeOf228
 v182:=Tryz.zeroValue228
 t183:=Tryz.underlying229
 a183:=Tryz.isAgg229
 z183:=Tryz.sizeOf229
 v183:=Tryz.zeroValue229
 t218:=Tryz.underlying244
 a218:=Tryz.isAgg244
 z218:=Tryz.sizeOf244
 v218:=Tryz.zeroValue244
 t222:=Tryz.underlying248
 a222:=Tryz.isAgg248
 z222:=Tryz.sizeOf248
 v222:=Tryz.zeroValue248
 t228:=Tryz.underlying255
 a228:=Tryz.isAgg255
 z228:=Tryz.sizeOf255
 v228:=Tryz.zeroValue255
 t229:=Tryz.underlying256
 a229:=Tryz.isAgg256
 z229:=Tryz.sizeOf256
 v229:=Tryz.zeroValue256}
end Go.Proofs.YtapeiomhajfpgaaGreatDoor
namespace Go.Proofs.YtapeiomhajfpgaaGreatDoor
open Go.Pl Go.RowKit
open Enc (enc dec is)
open EncL (encL decL isL)
set_option maxRecDepth 100000
theorem Vv:ZO Tryz.prog 108 (fun _:Str×Str×Unit=>true) (fun x:Str×Str×Unit=>x.2.1.s.isPrefixOf x.1.s):=Xj (by
  rintro⟨⟨s⟩,⟨p⟩,⟨⟩⟩ hps Φ w vs hL hΦ hv
  obtain⟨u,v,rfl,h1,h2⟩:=c4d hv
  rw[Qy h1,Qy h2]
  refine(Any.strings_HasPrefix Tryz.lays99 ⟨s.toArray⟩ ⟨p.toArray⟩ w).mono ?_
  rintro e w' ⟨rfl,rfl⟩
  exact⟨_,rfl,.bool _,.refl _ _⟩)
theorem b2y:ZO Tryz.prog 109 (fun x:Str×Unit=>decide (x.1.s.length<=1000000)) (fun x:Str×Unit=>Yg x.1):=Xj (by
  rintro⟨⟨s⟩,⟨⟩⟩ hps Φ w vs hL hΦ a
  have hs:s.length<=1000000:=by simpa using hps
  obtain⟨v,rfl,h1⟩:=d8s a
  rw[Qy h1]
  have k:(⟨s.toArray⟩:ByteArray).size=s.length:=rfl
  cases h:Lib.atoiAll s
  ·rename_i n
   have l:Yg ⟨s⟩=(n,⟨false⟩):=by simp only[Yg,h]
   rw[l]
   refine(Any.strconv_Atoi_ok Tryz.lays172 ⟨s.toArray⟩ (by rw[k];omega) n h w).mono ?_
   rintro e w' ⟨rfl,r⟩
   refine⟨_,rfl,.tup _ _ rfl ?_,?_⟩
   ·intro j v x a b
    match j with
    | 0=>cases a;cases b;exact .int _ _
    | 1=>cases a;cases b;exact .nili
    | j+2=>simp at a
   ·rcases r with rfl|⟨t,rfl⟩
    ·exact .refl _ _
    ·exact DI _ _ 0 _
  ·skip
   have l:Yg ⟨s⟩=(0,⟨true⟩):=by simp only[Yg,h]
   rw[l]
   obtain⟨cs,hc,ev,q,g⟩:=hL.syn
   refine(Any.strconv_Atoi_syntax Tryz.lays172 ⟨s.toArray⟩ (by rw[k];omega) h ev w (Qk hΦ hc q) g).mono ?_
   rintro e w' ⟨N,rfl,_,_,hb⟩
   refine⟨_,rfl,.tup _ _ rfl ?_,hb⟩
   intro j v x a b
   match j with
   | 0=>cases a;cases b;exact .int _ _
   | 1=>cases a;cases b;exact .ifc _ _
   | j+2=>simp at a
  ·skip
   have l:Yg ⟨s⟩=(Lib.atoiSat s,⟨true⟩):=by simp only[Yg,h]
   rw[l]
   obtain⟨cs,hc,ev,q,g⟩:=hL.rng
   refine(Any.strconv_Atoi_range Tryz.lays172 ⟨s.toArray⟩ (by rw[k];omega) h ev w (Qk hΦ hc q) g).mono ?_
   rintro e w' ⟨N,rfl,_,_,hb⟩
   refine⟨_,rfl,.tup _ _ rfl ?_,hb⟩
   intro j v x a b
   match j with
   | 0=>cases a;cases b;exact .int _ _
   | 1=>cases a;cases b;exact .ifc _ _
   | j+2=>simp at a)
theorem L8:ZO Tryz.prog 110 (fun x:Int×Unit=>decide (-9223372036854775808<=x.1)&&decide (x.1<=9223372036854775807)) (fun x:Int×Unit=>DR x.1):=Xj (by
  rintro⟨n,⟨⟩⟩ hps Φ w vs hL hΦ hv
  obtain⟨v,rfl,h1⟩:=d8s hv
  have h1:RP Φ v (.int .i64 n):=h1
  rw[b7w h1]
  have hn : -9223372036854775808<=n∧n<=9223372036854775807:=by simpa using hps
  have hg:=hL.pow
  obtain⟨T,fz,hh⟩:=hΦ _ _ hg
  refine(Any.strconv_Itoa Tryz.lays171 n hn.1 hn.2 w ?_).mono ?_
  ·unfold Lib.TabIs World.var?
   rw[show Program.globalNamed Tryz.prog "internal/strconv.uint64pow10" = some 3 by kernel_rfl]
   simp only[Option.bind_some,hh]
   rfl
  ·rintro e w' ⟨rfl,k,os,rfl⟩
   refine⟨_,rfl,.str _,?_⟩
   exact⟨rfl,rfl,rfl,by show w.heap.size<=(w.heap++os).size;simp,fun j hj=>by show(w.heap++os)[j]? = _;rw[Array.getElem?_append_left hj]⟩)
theorem d3d: ∀ s:List UInt8,((s.dropWhile fun c=>c != 46)=[]->Lib.index s [46] = -1) ∧
  ∀ (c:UInt8) (r:List UInt8),(s.dropWhile fun c=>c != 46)=c::r->Lib.index s [46]=((s.takeWhile fun c=>c != 46).length:Nat)∧s.drop ((s.takeWhile fun c=>c != 46).length+1)=r∧s.take (s.takeWhile fun c=>c != 46).length=s.takeWhile fun c=>c != 46
 | []=>⟨fun _=>rfl,fun _ _ h=>by cases h⟩
 | b::l=>by
  obtain⟨h1,h2⟩:=d3d l
  by_cases hb:b=46
  ·subst hb
   refine⟨fun h=>by simp at h,fun c r h=> ?_⟩
   have h:(46:UInt8)::l=c::r:=by simpa using h
   cases h
   exact⟨rfl,rfl,rfl⟩
  ·have a:(b != 46)=true:=by simpa using hb
   have k:([46]:List UInt8).isPrefixOf (b::l)=false:=by simp[List.isPrefixOf];exact fun e=>hb e.symm
   have g:Lib.index (b::l) [46]=if Lib.index l [46] == -1 then -1 else Lib.index l [46]+1:=by rw[Lib.index,k];rfl
   rw[List.dropWhile_cons,if_pos a,List.takeWhile_cons,if_pos a]
   refine⟨fun h=>by rw[g,h1 h];rfl,fun c r h=> ?_⟩
   obtain⟨k1,j,k3⟩:=h2 c r h
   rw[g,k1]
   refine⟨?_,?_,?_⟩
   ·rw[if_neg (by simp),List.length_cons];rfl
   ·rw[List.length_cons,List.drop_succ_cons];exact j
   ·rw[List.length_cons,List.take_succ_cons,k3]
theorem c4s(s:List UInt8):Lib.cut s [46]=((Ug ⟨s⟩).a.s,(Ug ⟨s⟩).b.s,(Ug ⟨s⟩).c):=by
 obtain⟨h1,h2⟩:=d3d s
 unfold Lib.cut Ug
 cases hd:s.dropWhile fun c=>c != 46 with
 | nil=>
  rw[h1 hd]
  rfl
 | cons c r=>
  obtain⟨k1,e,k3⟩:=h2 c r hd
  rw[k1,if_pos (by omega),Int.toNat_natCast,k3]
  show(_,s.drop ((s.takeWhile fun c=>c != 46).length+1),true)=_
  rw[e]
theorem b9k:ZO Tryz.prog 171 (fun x:Str×Str×Unit=>decide (x.1.s.length<=1048576)&&decide (x.2.1.s=[46])) (fun x:Str×Str×Unit=>Ug x.1):=Xj (by
  rintro⟨⟨s⟩,⟨p⟩,⟨⟩⟩ hps Φ w vs hL hΦ a
  simp only[Bool.and_eq_true,decide_eq_true_eq]at hps
  obtain⟨hs,g⟩:=hps
  have g:p=[46]:=g
  subst g
  obtain⟨u,v,rfl,h1,h2⟩:=c4d a
  rw[Qy h1,Qy h2]
  obtain⟨cs,m,hc,hm⟩:=hL.mx
  have h:(⟨s.toArray⟩:ByteArray).size=s.length:=rfl
  refine(Any.strings_Cut Tryz.lays145 ⟨s.toArray⟩ ⟨#[46]⟩ m w (by rw[h];have hs:s.length<=1048576:=hs;omega) (Qk hΦ hc hm)).mono ?_
  rintro e w' ⟨rfl,k,rfl⟩
  refine⟨_,rfl,.tup _ _ rfl ?_,?_⟩
  ·rw[show(⟨s.toArray⟩:ByteArray).data.toList=s from rfl,show(⟨#[46]⟩:ByteArray).data.toList=[46]from rfl,c4s]
   intro j v x a b
   match j with
   | 0=>cases a;cases b;exact .str _
   | 1=>cases a;cases b;exact .str _
   | 2=>cases a;cases b;exact .bool _
   | j+3=>simp at a
  ·exact⟨rfl,rfl,rfl,Nat.le_refl _,fun _ _=>rfl⟩)
theorem c5e:ZO Tryz.prog 117 (fun x:Str×UInt8×Unit=>decide (x.1.s.length<=1048576)) (fun x:Str×UInt8×Unit=>Lib.indexByte x.1.s x.2.1):=Xj (by
  rintro⟨⟨s⟩,c,⟨⟩⟩ hps Φ w vs hL hΦ hv
  obtain⟨u,v,rfl,h1,h2⟩:=c4d hv
  rw[Qy h1,b7w h2]
  refine(Any.strings_IndexByte Tryz.lays137 ⟨s.toArray⟩ (c.toNat:Int) w).mono ?_
  rintro e w' ⟨rfl,rfl⟩
  have hc:((c.toNat:Int)).toNat.toUInt8=c:=by
   rw[Int.toNat_natCast]
   exact UInt8.ofNat_toNat
  rw[hc]
  exact⟨_,rfl,.int _ _,.refl _ _⟩)
theorem b9x:ZO Tryz.prog 80 (fun x:Str×Str×Unit=>decide (x.1.s.length<=1048576)&&decide (x.2.1.s=[10])) (fun x:Str×Str×Unit=>(Lib.countByte x.1.s 10:Int)):=Xj (by
  rintro⟨⟨s⟩,⟨p⟩,⟨⟩⟩ hps Φ w vs hL hΦ hv
  obtain⟨-,rfl⟩:s.length<=1048576∧p=[10]:=by simpa using hps
  obtain⟨u,v,rfl,h1,h2⟩:=c4d hv
  rw[Qy h1,Qy h2]
  refine(Any.strings_Count_one Tryz.lays138 ⟨s.toArray⟩ 10 w).mono ?_
  rintro e w' ⟨rfl,rfl⟩
  exact⟨_,rfl,.int _ _,.refl _ _⟩)
end Go.Proofs.YtapeiomhajfpgaaGreatDoor
namespace Go.Proofs.YtapeiomhajfpgaaGreatDoor
open Go.RowKit Go.Lib Go.Pl
theorem b7i:(Tryz.prog.info? 3).map (fun i=>(i.zero,i.size,i.bytes))=some (some (.int .i64 0),1,8):=by kernel_rfl
theorem H9:Tryz.prog.underlying 23=some (.slice 3):=by kernel_rfl
theorem Oe(n c:Nat)(w:World):Calls Tryz.prog 169 #[.slice none n c] w fun e w'=>e = .returned (.slice none 0 0)∧w'=w:=by
 have q22 : ∀ (w:World) (a:Option Addr) (n c b g:Nat),(binOp .eql 23 (.slice a n c) (.slice none b g)).run Tryz.prog w = .ok (.bool a.isNone) w:=fun w a n c b g=>Lib.run_eql_slice_nil w _ _ a n c b g H9
 go_enter Tryz.func169,Tryz.ntmps169
 go_wp2
 go_ret
 exact⟨rfl,rfl⟩
theorem Mr(a:Addr)(c:Nat)(w:World):Calls Tryz.prog 169 #[.slice (some a) 0 c] w fun e w'=>(∃ g,e = .returned (.slice (some g) 0 0))∧Below w.heap.size w w':=by
 have q22 : ∀ (w:World) (a:Option Addr) (n c h b:Nat),(binOp .eql 23 (.slice a n c) (.slice none h b)).run Tryz.prog w = .ok (.bool a.isNone) w:=fun w a n c h b=>Lib.run_eql_slice_nil w _ _ a n c h b H9
 obtain⟨i0,hi,hz0,hz1,hz2⟩:=info_parts b7i
 go_enter Tryz.func169,Tryz.ntmps169
 go_wp2_with (at_builtin;refine Lib.wpList_append_run _ rfl _ _ _ _ rfl _ _ rfl rfl _ _ (WB H9 hi (Nat.le_refl _)) ?_)
 go_ret
 exact⟨⟨_,rfl⟩,(Below.refl _ w).alloc (Nat.le_refl _) _⟩
theorem FY(a:Addr)(n c:Nat)(news:List Value)(w:World)(h0:0<n)(hn:n<=2000000)(z:news.length=n*1)(hc : ∀ j u,news[j]? = some u->w.cell? (a.add j)=some u)(h1 : ∀ u∈news,u.oneCell'=true):
  Calls Tryz.prog 169 #[.slice (some a) n c] w fun e w'=> ∃ v',e = .returned v'∧w'.ownsRow w.heap.size 3 1 v' n news∧Below w.heap.size w w':=by
 have q22 : ∀ (w:World) (a:Option Addr) (n c s h:Nat),(binOp .eql 23 (.slice a n c) (.slice none s h)).run Tryz.prog w = .ok (.bool a.isNone) w:=fun w a n c s h=>Lib.run_eql_slice_nil w _ _ a n c s h H9
 obtain⟨C,hi,l,r,q⟩:=info_parts b7i
 have A:Aside (∀ j u,news[j]? = some u->w.cell? (a.add j)=some u):=hc
 clear hc
 go_enter Tryz.func169,Tryz.ntmps169
 go_wp2_with (at_builtin;refine wpList_append_own _ rfl _ _ 23 rfl w.heap.size 3 C (.int .i64 0) 1 8 H9 hi l r q rfl (by decide) _ _ _ rfl (World.ownsRow_made w #[] 0 (Nat.le_refl _) (Nat.zero_le _) rfl) a n c news rfl ?qc1 ?qc2 ?qc3 ?qc4 ?qc5 ?qc6 ?_)
 case qc1=>exact z
 case qc2=>intro j u y;exact Lib.cell?_alloc_some _ (A.out j u y)
 case qc3=>exact h1
 case qc4=>unfold maxLen;omega
 case qc5=>omega
 case qc6=>simp
 intro v' w1 g b hnil
 go_wp2
 go_ret
 refine⟨v',rfl,by simpa using g,?_⟩
 exact((Below.refl _ w).alloc (Nat.le_refl _) _).grown b (by simp) (by intro k B;simp[Value.ownBlock]at B;omega)
theorem d6z:CloneC Tryz.prog 169 3 1:=⟨Oe,Mr,FY⟩
end Go.Proofs.YtapeiomhajfpgaaGreatDoor
namespace Go.Proofs.YtapeiomhajfpgaaGreatDoor
open Go.Pl
open Enc (enc dec is)
open EncL (encL decL isL)
set_option maxRecDepth 100000
theorem Ut:Tryz.prog.follows .mixedOrders=true:=by kernel_rfl
theorem tq{f:Nat}{D:Den}{l:List (Nat×Den)}{fn:Func}(hf:Tryz.prog.funcs[f]? = some fn)(h:a2z Tryz.prog f D)(k:Z8 Tryz.prog (YG l))(hb:(fn.body.isSome&& !(fn.name == "runtime.NumGoroutine"))=true:=by kernel_rfl):Z8 Tryz.prog (YG ((f,D)::l)):=NR (ent hf hb h) k
theorem dq{f nt:Nat}{α β:Type}[EncL α][Enc β]{fn:Func}{T:ZC}{ic:IC}{rs:List IRes}{pre:α->Bool}{F:α->β}(h : ∀ a,pre a=true->Zb T 0 (Za rs (Zk (F a))) ic [] (Yh nt (encL a)))(j:Z8 Tryz.prog T)(k:Tryz.prog.funcs[f]? = some fn)(e:Ck Tryz.prog fn=some ic:=by kernel_rfl)(b:Y0 (YE Tryz.prog) fn.results.toList=some rs:=by kernel_rfl)(g:fn.ntmps=nt:=by kernel_rfl):ZO Tryz.prog f pre F:=ZO.of j Ut k e b g h
theorem NH{α β S:Type}[EncL α][Enc β][EncL S]{T:ZC}{f:Nat}{fn:Func}{ic:IC}{rs:List IRes}{mk:α->List AV}{b e:List AObj}{pre:S->α->Bool}{un:List AV->α}{F:S->α->β×S}{nt k:Nat}(h : ∀ s a,pre s a=true->Zb T k (Zz k rs (Z9 b e (F s a).1 (F s a).2)) ic [] (Ya nt (mk a) (b++ZJ s::e)))(hm:Oj mk un)(r:Z8 Tryz.prog T)(u:Tryz.prog.funcs[f]? = some fn)(q:b.length+1+e.length=k:=by exact rfl)(l:Ck Tryz.prog fn=some ic:=by kernel_rfl)(g:Y0 (YE Tryz.prog) fn.results.toList=some rs:=by kernel_rfl)(j:fn.ntmps=nt:=by kernel_rfl):X4 Tryz.prog f mk un b e pre F:=X4.of hm r Ut u l g j q h
theorem SV:ZO Tryz.prog 109 (fun x:Str×Unit=>decide (x.1.s.length<=281474976710656)) (fun x:Str×Unit=>Yg x.1):=Xj (by
  rintro⟨⟨s⟩,⟨⟩⟩ hps Φ w vs hL hΦ a
  have hs:s.length<=281474976710656:=by simpa using hps
  obtain⟨v,rfl,h1⟩:=d8s a
  rw[Qy h1]
  have k:(⟨s.toArray⟩:ByteArray).size=s.length:=rfl
  cases h:Lib.atoiAll s
  ·rename_i n
   have l:Yg ⟨s⟩=(n,⟨false⟩):=by simp only[Yg,h]
   rw[l]
   refine(Any.strconv_Atoi_ok Tryz.lays172 ⟨s.toArray⟩ (by rw[k];omega) n h w).mono ?_
   rintro e w' ⟨rfl,r⟩
   refine⟨_,rfl,.tup _ _ rfl ?_,?_⟩
   ·intro j v x a b
    match j with
    | 0=>cases a;cases b;exact .int _ _
    | 1=>cases a;cases b;exact .nili
    | j+2=>simp at a
   ·rcases r with rfl|⟨t,rfl⟩
    ·exact .refl _ _
    ·exact DI _ _ 0 _
  ·skip
   have l:Yg ⟨s⟩=(0,⟨true⟩):=by simp only[Yg,h]
   rw[l]
   obtain⟨cs,hc,ev,q,g⟩:=hL.syn
   refine(Any.strconv_Atoi_syntax Tryz.lays172 ⟨s.toArray⟩ (by rw[k];omega) h ev w (Qk hΦ hc q) g).mono ?_
   rintro e w' ⟨N,rfl,_,_,hb⟩
   refine⟨_,rfl,.tup _ _ rfl ?_,hb⟩
   intro j v x a b
   match j with
   | 0=>cases a;cases b;exact .int _ _
   | 1=>cases a;cases b;exact .ifc _ _
   | j+2=>simp at a
  ·skip
   have l:Yg ⟨s⟩=(Lib.atoiSat s,⟨true⟩):=by simp only[Yg,h]
   rw[l]
   obtain⟨cs,hc,ev,q,g⟩:=hL.rng
   refine(Any.strconv_Atoi_range Tryz.lays172 ⟨s.toArray⟩ (by rw[k];omega) h ev w (Qk hΦ hc q) g).mono ?_
   rintro e w' ⟨N,rfl,_,_,hb⟩
   refine⟨_,rfl,.tup _ _ rfl ?_,hb⟩
   intro j v x a b
   match j with
   | 0=>cases a;cases b;exact .int _ _
   | 1=>cases a;cases b;exact .ifc _ _
   | j+2=>simp at a)
theorem b7p:Ym Tryz.prog 182 Vq Uj:=a9e (Any.slices_Sort_string Tryz.lays190) (Any.slices_Sort_string_none Tryz.lays190)
theorem TW:ZO Tryz.prog 74 (fun _:Int×Unit=>true) (fun x:Int×Unit=>ZT x.1):=dq c8k Ze Tryz.func74
theorem NW:ZO Tryz.prog 73 (fun x:Str×Unit=>decide (x.1.s.length<=1000000)) (fun x:Str×Unit=>Yo x.1):=dq b0d (tq Tryz.func108 Vv (tq Tryz.func109 b2y (tq Tryz.func110 L8 Ze))) Tryz.func73
theorem MB:ZO Tryz.prog 73 (fun x:Str×Unit=>decide (x.1.s.length<=281474976710656)) (fun x:Str×Unit=>Yo x.1):=dq a0h (tq Tryz.func108 Vv (tq Tryz.func109 SV (tq Tryz.func110 L8 Ze))) Tryz.func73
theorem Ua:ZO Tryz.prog 43 (fun x:Lin×Unit=>Zp x.1) (fun x:Lin×Unit=>Zd x.1):=dq a0m (tq Tryz.func74 TW (tq Tryz.func73 NW Ze)) Tryz.func43
theorem Ha:ZO Tryz.prog 43 (fun x:Lin×Unit=>U6 x.1) (fun x:Lin×Unit=>Zd x.1):=dq a6x (tq Tryz.func74 TW (tq Tryz.func73 MB Ze)) Tryz.func43
theorem QI:ZO Tryz.prog 121 (fun _:UInt8×Unit=>true) (fun x:UInt8×Unit=>lowB x.1):=dq EP Ze Tryz.func121
theorem Ho:ZO Tryz.prog 124 (fun _:UInt8×Unit=>true) (fun x:UInt8×Unit=>digB x.1):=dq a1g Ze Tryz.func124
theorem Jy:ZO Tryz.prog 122 (fun x:Str×Bool×Unit=>decide (x.1.s.length<=1048576)) (fun x:Str×Bool×Unit=>Yr x.1 x.2.1):=dq c3m (tq Tryz.func124 Ho (tq Tryz.func121 QI Ze)) Tryz.func122
theorem Q6:ZO Tryz.prog 123 (fun _:Str×Unit=>true) (fun x:Str×Unit=>Wu.contains x.1.s):=dq c2i Ze Tryz.func123
theorem Vz:ZO Tryz.prog 87 (fun x:Str×Unit=>decide (x.1.s.length<=1048576)) (fun x:Str×Unit=>nameI x.1.s):=dq a8w (tq Tryz.func121 QI (tq Tryz.func122 Jy (tq Tryz.func123 Q6 Ze))) Tryz.func87
theorem Jj:ZO Tryz.prog 134 (fun x:Str×Unit=>decide (x.1.s.length<=1048576)) (fun x:Str×Unit=>fullI x.1.s):=dq b0q (tq Tryz.func171 b9k (tq Tryz.func87 Vz Ze)) Tryz.func134
theorem Q5:ZO Tryz.prog 92 (fun x:Str×Unit=>decide (x.1.s.length<=1048576)) (fun x:Str×Unit=>fnI x.1.s):=dq b9i (tq Tryz.func87 Vz (tq Tryz.func134 Jj Ze)) Tryz.func92
theorem Bn:ZO Tryz.prog 89 (fun x:Tm×Unit=>nW x.1) (fun x:Tm×Unit=>GM x.1.nd):=dq b2g Ze Tryz.func89
theorem Sr:ZO Tryz.prog 130 (fun x:Lin×Unit=>U6 x.1) (fun x:Lin×Unit=> !(Zd x.1)):=dq b8m (tq Tryz.func43 Ha Ze) Tryz.func130
theorem c9i:ZO Tryz.prog 166 (fun x:List Lin×FnV 130×Unit=>decide (x.1.length<=1048576)&&x.1.all U6) (fun x:List Lin×FnV 130×Unit=>Ws (fun l:Lin=> !(Zd l)) x.1):=dq d0q (tq Tryz.func130 Sr Ze) Tryz.func166
theorem c8w:ZO Tryz.prog 129 (fun x:List Lin×FnV 130×Unit=>decide (x.1.length<=1048576)&&x.1.all U6) (fun x:List Lin×FnV 130×Unit=>x.1.any fun l:Lin=> !(Zd l)):=dq c5d (tq Tryz.func166 c9i Ze) Tryz.func129
theorem Gp:ZO Tryz.prog 88 (fun x:Tm×Int×Int×Unit=>nW x.1) (fun x:Tm×Int×Int×Unit=>YV x.1.nd x.2.1 x.2.2.1):=dq a0s (tq Tryz.func129 c8w Ze) Tryz.func88
theorem RH:ZO Tryz.prog 133 (fun _:Int×Unit=>true) (fun x:Int×Unit=>Yi x.1):=dq c4b Ze Tryz.func133
theorem c6i:ZO Tryz.prog 170 (fun x:List Int×FnV 133×Unit=>decide (x.1.length<=1048576)) (fun x:List Int×FnV 133×Unit=>Ws Yi x.1):=dq d0s (tq Tryz.func133 RH Ze) Tryz.func170
theorem c4n:ZO Tryz.prog 132 (fun x:List Int×FnV 133×Unit=>decide (x.1.length<=1048576)) (fun x:List Int×FnV 133×Unit=>x.1.any Yi):=dq c5v (tq Tryz.func170 c6i Ze) Tryz.func132
theorem M6:ZO Tryz.prog 91 (fun x:Tm×Unit=>nW x.1) (fun x:Tm×Unit=>callB x.1.nd x.1.ks.length):=dq a9k (tq Tryz.func92 Q5 (tq Tryz.func88 Gp (tq Tryz.func132 c4n Ze))) Tryz.func91
theorem c0g:Xh Tryz.prog 220 Yj KY:=Jd (T:=V9) (ic:=WS) (rs:=Va) Ze Ut Tryz.func220 (by kernel_rfl) (by kernel_rfl) (by kernel_rfl) a9f
theorem Lb:Xh Tryz.prog 195 Yj Uf:=Jd (T:=Jw) (ic:=Kl) (rs:=KN) (tq Tryz.func220 c0g Ze) Ut Tryz.func195 (by kernel_rfl) (by kernel_rfl) (by kernel_rfl) Pi
theorem c6a:Xh Tryz.prog 167 BU VN:=Jd (T:=XT) (ic:=YY) (rs:=YX) (tq Tryz.func195 Lb Ze) Ut Tryz.func167 (by kernel_rfl) (by kernel_rfl) (by kernel_rfl) b3w
theorem b5w:ZO Tryz.prog 167 (fun _:List Int×Unit=>true) (fun x:List Int×Unit=>V7 x.1):=ZO.ofPure c6a fun⟨l,_⟩ h=>⟨by show(nums l).all PV.isNum=true;simp,by show Zk _ (.tup [.int .i64 (V7 ((nums l).map PV.asInt)).1,.int .i64 (V7 ((nums l).map PV.asInt)).2]);rw[Vl];exact ZX (x:=V7 l) rfl⟩
theorem a8z:ZO Tryz.prog 169 (fun x:List Int×Unit=>decide (x.1.length<=2000000)) (fun x:List Int×Unit=>x.1):=EX (α:=Int) (by decide) (b1a d6z (by decide))
theorem NM:ZO Tryz.prog 197 (fun _:Str×Int×Unit=>true) (fun x:Str×Int×Unit=>Vg x.1 x.2.1):=dq c7w Ze Tryz.func197
theorem d3z:Ym Tryz.prog 196 CU Px:=Gv (T:=b5i) (ic:=EO) (rs:=a2d) (tq Tryz.func197 NM Ze) Ut Tryz.func196 (by kernel_rfl) (by kernel_rfl) (by kernel_rfl) d1g
theorem d6b:Ym Tryz.prog 170 WZ Cw:=Gv (T:=BN) (ic:=Jr) (rs:=Jv) (tq Tryz.func196 d3z Ze) Ut Tryz.func170 (by kernel_rfl) (by kernel_rfl) (by kernel_rfl) d1a
theorem d4s:Ym Tryz.prog 132 WZ R6:=Gv (T:=b2r) (ic:=OO) (rs:=E9) (tq Tryz.func170 d6b Ze) Ut Tryz.func132 (by kernel_rfl) (by kernel_rfl) (by kernel_rfl) c6v
theorem Fx:ZO Tryz.prog 168 (fun x:Str×List Int×Unit=>decide (x.2.1.length<=2000000)) (fun x:Str×List Int×Unit=>x.2.1.all (Vg x.1)):=dq RO (tq Tryz.func132 d4s Ze) Tryz.func168
theorem a9z:ZO Tryz.prog 131 (fun x:Str×List Int×List Int×Unit=>decide (x.2.1.length<=2000000)&&decide (x.2.2.1.length<=2000000)) (fun x:Str×List Int×List Int×Unit=>a6z x.1 x.2.1 x.2.2.1):=dq c0x (tq Tryz.func167 b5w (tq Tryz.func168 Fx (tq Tryz.func169 a8z Ze))) Tryz.func131
theorem NA:ZO Tryz.prog 90 (fun x:Arr×Unit=>b0m x.1) (fun x:Arr×Unit=>b4f x.1):=dq c9h (tq Tryz.func131 a9z Ze) Tryz.func90
theorem Oa:ZO Tryz.prog 52 (fun x:Tm×Unit=>nW x.1) (fun x:Tm×Unit=>A8 x.1):=dq a9i (tq Tryz.func87 Vz (tq Tryz.func88 Gp (tq Tryz.func89 Bn (tq Tryz.func90 NA (tq Tryz.func91 M6 (tq Tryz.func92 Q5 Ze)))))) Tryz.func52
theorem d8c:Ym Tryz.prog 51 Qz (H6 85):=Gv (T:=ES) (ic:=RZ) (rs:=NL) Ze Ut Tryz.func51 (by kernel_rfl) (by kernel_rfl) (by kernel_rfl) b6j
theorem a6q{cd:Code}(h:Jk Tryz.prog c2q Tryz.f23 0=some cd):Hg Tryz.prog cd=some (.t 7,[8,9],BX,Ak):=by
 have:(Jk Tryz.prog c2q Tryz.f23 0).bind (Hg Tryz.prog)=some (.t 7,[8,9],BX,Ak):=by kernel_rfl
 rw[h]at this
 exact this
theorem c8p(e:Z8 Tryz.prog Jg): ∀ (B:Nat) (c:Ctx),c.w0.heap.size=B->(∀ i m,0<=i->c.μ0 i m=none)->b7f (Av B 4 e Ut) (fun n cd=>Jk Tryz.prog c2q Tryz.f23 n=some cd) tvE c:=by
 rintro B c g h n cd b st a w q hr ⟨rfl,j⟩
 exact a8u e Ut b5b (fun x=>by obtain⟨t,l⟩:=x;rfl) (a6q b) g h hr j
theorem a4n:Z8 Tryz.prog Jg:=(tq Tryz.func51 d8c (tq Tryz.func52 Oa Ze))
theorem Sw:ZO Tryz.prog 23 (fun x:Tm×Unit=>gW x.1) (fun x:Tm×Unit=>Kq x.1):=ZO.ofM (T:=Jg) (ic:=G6) (rs:=JN) (E:=tvE) (sel:=c2q) a4n Ut Tryz.func23 (by kernel_rfl) (by kernel_rfl) (by kernel_rfl) (c8p a4n) c4h
theorem Al:Z8 Tryz.prog Xy:=(tq Tryz.func182 b7p (tq Tryz.func43 Ua Ze))
theorem a8h{cd:Code}(h:Jk Tryz.prog b1r Tryz.f152 0=some cd):H5 Tryz.prog cd=some c3s:=by
 have:(Jk Tryz.prog b1r Tryz.f152 0).bind (H5 Tryz.prog)=some c3s:=by kernel_rfl
 rw[h]at this
 exact this
theorem c7e(args:List AV)(os:List AObj)(h:XX args os=true)(c:Ctx)(e : ∀ i m,os.length<=i->c.μ0 i m=none):b7f (CS Al Ut) (fun n cd=>Jk Tryz.prog b1r Tryz.f152 n=some cd) PZ c:=by
 rintro n cd b st a w q hr ⟨rfl,g⟩
 have h2:os.length=2:=by
  unfold XX at h
  split at h
  ·rfl
  ·cases h
 rw[h2]at e
 exact c9v Al Ut (a8h b) e hr g
theorem c7c:Ym Tryz.prog 152 XX Qg:=e4w (T:=Xy) (ic:=Xl) (rs:=Xm) (E:=PZ) (sel:=b1r) Al Ut Tryz.func152 (by kernel_rfl) (by kernel_rfl) (by kernel_rfl) c7e b2e b7x
theorem d8v:Ym Tryz.prog 152 XX CL:=c5o c7c
theorem d5l:Ym Tryz.prog 151 UY CV:=Gv (T:=Kn) (ic:=UQ) (rs:=UM) Ze Ut Tryz.func151 (by kernel_rfl) (by kernel_rfl) (by kernel_rfl) c7f
theorem Kt:ZO Tryz.prog 107 (fun x:Lin×Lin×Int×Unit=>Zp x.1&&Zp x.2.1) (fun x:Lin×Lin×Int×Unit=>Zi x.1 x.2.1 x.2.2.1):=dq Mm (tq Tryz.func43 Ua (tq Tryz.func151 d5l (tq Tryz.func152 d8v Ze))) Tryz.func107
theorem TN:ZO Tryz.prog 71 (fun x:Lin×Lin×Unit=>Zp x.1&&Zp x.2.1) (fun x:Lin×Lin×Unit=>Zi x.1 x.2.1 1):=dq a9m (tq Tryz.func107 Kt Ze) Tryz.func71
theorem DV:ZO Tryz.prog 70 (fun x:Lin×Int×Unit=>Zp x.1) (fun x:Lin×Int×Unit=>YL x.1 x.2.1):=dq EE (tq Tryz.func107 Kt Ze) Tryz.func70
theorem a6r:ZO Tryz.prog 106 (fun _:Int×Unit=>true) (fun x:Int×Unit=>(⟨x.1,[]⟩:Lin)):=dq c4t Ze Tryz.func106
theorem SN:ZO Tryz.prog 72 (fun x:Lin×Lin×Unit=>Zp x.1&&Zp x.2.1) (fun x:Lin×Lin×Unit=>Zi x.1 x.2.1 (-1)):=dq a7d (tq Tryz.func107 Kt Ze) Tryz.func72
theorem OL:ZO Tryz.prog 104 (fun _:Str×Unit=>true) (fun x:Str×Unit=>Ui x.1):=dq c8g Ze Tryz.func104
theorem QO:ZO Tryz.prog 125 (fun x:Str×Unit=>decide (x.1.s.length<=1048576)) (fun x:Str×Unit=>Yx x.1):=dq c7m (tq Tryz.func122 Jy (tq Tryz.func109 SV Ze)) Tryz.func125
theorem e0d:Xh Tryz.prog 126 Cx PP:=Jd (T:=b2s) (ic:=El) (rs:=EU) Ze Ut Tryz.func126 (by kernel_rfl) (by kernel_rfl) (by kernel_rfl) fun ps h=>a4r (c8i ps h)
theorem NI:ZO Tryz.prog 79 (fun x:Str×Unit=>decide (x.1.s.length<=1048576)) (fun x:Str×Unit=>VZ x.1):=dq c7h (tq Tryz.func108 Vv (tq Tryz.func117 c5e Ze)) Tryz.func79
theorem Pb:ZO Tryz.prog 81 (fun x:Str×Unit=>decide (x.1.s.length<=1048576)) (fun x:Str×Unit=>ZB x.1):=dq c8h (tq Tryz.func121 QI (tq Tryz.func122 Jy (tq Tryz.func123 Q6 (tq Tryz.func87 Vz (tq Tryz.func124 Ho (tq Tryz.func125 QO (tq Tryz.func108 Vv (tq Tryz.func126 e0d Ze)))))))) Tryz.func81
theorem BO:ZO Tryz.prog 48 (fun x:Str×Unit=>decide (x.1.s.length<=1048576)) (fun x:Str×Unit=>Wj x.1):=dq c5a (tq Tryz.func79 NI (tq Tryz.func80 b9x (tq Tryz.func81 Pb Ze))) Tryz.func48
theorem d8p:Xh Tryz.prog 161 Pk ND:=Jd (T:=OA) (ic:=R7) (rs:=RG) Ze Ut Tryz.func161 (by kernel_rfl) (by kernel_rfl) (by kernel_rfl) fun ps h=>a4r (b2c ps h)
theorem c6m:ZO Tryz.prog 127 (fun _:Str×Bool×Unit=>true) (fun x:Str×Bool×Unit=>MV x.1 x.2.1):=dq b6r (tq Tryz.func161 d8p Ze) Tryz.func127
theorem UE: X4 Tryz.prog 33 ZH Xb [] [] (fun(s:PS) (a:Int×Unit)=>ZV s&&(decide (0<=a.1)&&decide (a.1<=1000))) Q7:=NH (c8y) ZQ Ze Tryz.func33
theorem JQ: X4 Tryz.prog 50 ZH Xb [] [] (fun(s:PS) (_:Unit)=>ZV s) Jl:=NH (c6r) ZQ (tq Tryz.func33 UE Ze) Tryz.func50
theorem a0k: X4 Tryz.prog 32 ZH Xb [] [] (fun(s:PS) (_:Str×Unit)=>ZV s) Di:=NH (c7n) ZQ (tq Tryz.func33 UE Ze) Tryz.func32
theorem EM: X4 Tryz.prog 30 ZH Xb [] [] (fun(s:PS) (_:Str×Unit)=>ZV s) TQ:=NH (c9r) ZQ (tq Tryz.func32 a0k Ze) Tryz.func30
theorem a0x: X4 Tryz.prog 29 ZH Xb [] [] (fun(s:PS) (_:Unit)=>ZV s) Ri:=NH (d0y) ZQ (tq Tryz.func33 UE (tq Tryz.func50 JQ Ze)) Tryz.func29
theorem R5: X4 Tryz.prog 105 ZH Xb [] [] (fun(s:PS) (_:Int×Unit)=>ZV s) a9j:=NH (d1b) ZQ (tq Tryz.func33 UE (tq Tryz.func125 QO (tq Tryz.func50 JQ Ze))) Tryz.func105
theorem Sd: X4 Tryz.prog 69 ZH Xb [] [] (fun(s:PS) (_:Lin×Int×Unit)=>ZV s) Aa:=NH (c4u) ZQ Ze Tryz.func69
theorem Ef: X4 Tryz.prog 68 ZH Xb [] [] (fun(s:PS) (_:Unit)=>ZV s) TI:=NH (c5h) ZQ (tq Tryz.func33 UE (tq Tryz.func29 a0x (tq Tryz.func104 OL (tq Tryz.func105 R5 (tq Tryz.func69 Sd (tq Tryz.func70 DV (tq Tryz.func106 a6r Ze))))))) Tryz.func68
theorem Ng: X4 Tryz.prog 42 ZH Xb [] [] (fun(s:PS) (_:Unit)=>ZV s) a6u:=NH (d0b) ZQ (tq Tryz.func30 EM (tq Tryz.func68 Ef (tq Tryz.func69 Sd (tq Tryz.func70 DV (tq Tryz.func71 TN (tq Tryz.func72 SN (tq Tryz.func43 Ua Ze))))))) Tryz.func42
theorem b0f: X4 Tryz.prog 22 ZH Xb [] [] (fun(s:PS) (_:Unit)=>ZV s) Re:=NH (c8n) ZQ (tq Tryz.func50 JQ Ze) Tryz.func22
theorem e2p:Ym Tryz.prog 20 U1 PK:=Gv (T:=a3m) (ic:=R4) (rs:=RX) (tq Tryz.func48 BO Ze) Ut Tryz.func20 (by kernel_rfl) (by kernel_rfl) (by kernel_rfl) c6j
theorem EZ:ZO Tryz.prog 14 (fun x:Str×Unit=>decide (x.1.s.length<=1048576)) (fun x:Str×Unit=>Vh x.1):=dq c7b (tq Tryz.func20 e2p (tq Tryz.func42 Ng (tq Tryz.func22 b0f (tq Tryz.func43 Ua Ze)))) Tryz.func14
theorem Ni:ZO Tryz.prog 180 (fun _:UInt8×Unit=>true) (fun x:UInt8×Unit=>digB x.1):=dq b5r Ze Tryz.func180
theorem Sn:ZO Tryz.prog 181 (fun _:UInt8×Unit=>true) (fun x:UInt8×Unit=>lowB x.1):=dq b1n Ze Tryz.func181
theorem GA:ZO Tryz.prog 157 (fun _:Int×Unit=>true) (fun x:Int×Unit=>ZT x.1):=dq EF Ze Tryz.func157
theorem MS:ZO Tryz.prog 150 (fun _:Str×Unit=>true) (fun x:Str×Unit=>Yo x.1):=dq a9s (tq Tryz.func180 Ni (tq Tryz.func181 Sn Ze)) Tryz.func150
theorem WT:ZO Tryz.prog 114 (fun x:Lin×Unit=>Yn x.1) (fun x:Lin×Unit=>Zd x.1):=dq OU (tq Tryz.func157 GA (tq Tryz.func150 MS Ze)) Tryz.func114
theorem a0u:ZO Tryz.prog 113 (fun _:Str×Unit=>true) (fun x:Str×Unit=>(⟨0,[⟨x.1,1⟩]⟩:Lin)):=dq c5b Ze Tryz.func113
theorem b7m:Ym Tryz.prog 158 Qo Qr:=Gv (T:=ZY) (ic:=ZP) (rs:=ZL) Ze Ut Tryz.func158 (by kernel_rfl) (by kernel_rfl) (by kernel_rfl) a8n
theorem c1p:Ym Tryz.prog 158 Qm K4:=a7v b7m
theorem a9d:Ym Tryz.prog 116 QT KT:=Gv (T:=VJ) (ic:=WQ) (rs:=WN) (tq Tryz.func158 c1p Ze) Ut Tryz.func116 (by kernel_rfl) (by kernel_rfl) (by kernel_rfl) a1z
theorem QM:ZO Tryz.prog 116 (fun x:Lin×Lin×Int×Unit=>decide (x.1.t.length<=500000)&&decide (x.2.1.t.length<=500000)) (fun x:Lin×Lin×Int×Unit=>ZR x.1 x.2.1 x.2.2.1):=a0g a9d
theorem Uo:ZO Tryz.prog 115 (fun x:Lin×Unit=>Yn x.1) (fun x:Lin×Unit=>UG x.1):=dq NC (tq Tryz.func114 WT Ze) Tryz.func115
theorem Ox:ZO Tryz.prog 77 (fun x:Lin×Lin×Unit=>Zp x.1&&Zp x.2.1) (fun x:Lin×Lin×Unit=>Zi x.1 x.2.1 (1)):=dq a6v (tq Tryz.func114 WT (tq Tryz.func116 QM (tq Tryz.func115 Uo Ze))) Tryz.func77
theorem a2a:ZO Tryz.prog 76 (fun x:Lin×Lin×Unit=>Zp x.1&&Zp x.2.1) (fun x:Lin×Lin×Unit=>Zi x.1 x.2.1 (-1)):=dq a7f (tq Tryz.func114 WT (tq Tryz.func116 QM (tq Tryz.func115 Uo Ze))) Tryz.func76
theorem NE:ZO Tryz.prog 112 (fun x:Lin×Int×Unit=>Zp x.1) (fun x:Lin×Int×Unit=>YL x.1 x.2.1):=dq NY (tq Tryz.func114 WT (tq Tryz.func157 GA (tq Tryz.func116 QM (tq Tryz.func115 Uo Ze)))) Tryz.func112
theorem Gx:ZO Tryz.prog 135 (fun _:UInt8×Unit=>true) (fun x:UInt8×Unit=>lowB x.1):=dq EA Ze Tryz.func135
theorem QN:ZO Tryz.prog 136 (fun _:UInt8×Unit=>true) (fun x:UInt8×Unit=>digB x.1):=dq a1u Ze Tryz.func136
theorem Q4:ZO Tryz.prog 137 (fun _:Str×Unit=>true) (fun x:Str×Unit=>Wu.contains x.1.s):=dq b1o Ze Tryz.func137
theorem Sl:ZO Tryz.prog 138 (fun x:Str×Unit=>decide (x.1.s.length<=1048576)) (fun x:Str×Unit=>nameI x.1.s):=dq b0c (tq Tryz.func135 Gx (tq Tryz.func136 QN (tq Tryz.func137 Q4 Ze))) Tryz.func138
theorem Jp:ZO Tryz.prog 139 (fun x:Str×Unit=>decide (x.1.s.length<=1048576)) (fun x:Str×Unit=>Yx x.1):=dq c6b (tq Tryz.func136 QN Ze) Tryz.func139
theorem AL:ZO Tryz.prog 140 (fun x:Str×Unit=>decide (x.1.s.length<=1048576)) (fun x:Str×Unit=>(Zl Zg x.1.s).2):=dq c8u Ze Tryz.func140
theorem Rz:ZO Tryz.prog 94 (fun x:Str×Unit=>decide (x.1.s.length<=1048576)&& !x.1.s.isEmpty) (fun x:Str×Unit=>(⟨(ZB x.1).1,(ZB x.1).2,0,0⟩:Tok)):=dq c6x (tq Tryz.func135 Gx (tq Tryz.func136 QN (tq Tryz.func137 Q4 (tq Tryz.func138 Sl (tq Tryz.func139 Jp (tq Tryz.func140 AL Ze)))))) Tryz.func94
theorem Nw:ZO Tryz.prog 93 (fun x:Str×Int×Unit=>decide (x.1.s.length<=1048576)&&(decide (0<=x.2.1)&&decide (x.2.1<=x.1.s.length))) (fun x:Str×Int×Unit=>((ZF (x.1.s.length+1) x.1.s x.2.1.toNat:Nat):Int)):=dq c8s Ze Tryz.func93
theorem FV:ZO Tryz.prog 53 (fun x:Str×Unit=>decide (x.1.s.length<=1048576)) (fun x:Str×Unit=>Wj x.1):=dq c6w (tq Tryz.func93 Nw (tq Tryz.func94 Rz Ze)) Tryz.func53
theorem c2m: X4 Tryz.prog 63 ZH Xb [] [] (fun(s:RS) (_:Str×Unit)=>Yd s) b0s:=NH (d1h) ZQ Ze Tryz.func63
theorem O1: X4 Tryz.prog 37 ZH Xb [] [] (fun(s:RS) (_:Str×Unit)=>Yd s) Kk:=NH (c6y) ZQ (tq Tryz.func63 c2m Ze) Tryz.func37
theorem Ju: X4 Tryz.prog 62 ZH Xb [] [] (fun(s:RS) (_:Int×Unit)=>Yd s) Ku:=NH (d0i) ZQ Ze Tryz.func62
theorem a1e: X4 Tryz.prog 36 ZH Xb [] [] (fun(s:RS) (_:Unit)=>Yd s) GI:=NH (c8f) ZQ (tq Tryz.func62 Ju Ze) Tryz.func36
theorem NB: X4 Tryz.prog 111 ZH Xb [] [] (fun(s:RS) (_:Int×Unit)=>Yd s) TV:=NH (c8v) ZQ (tq Tryz.func62 Ju (tq Tryz.func139 Jp Ze)) Tryz.func111
theorem Jm: X4 Tryz.prog 78 mkC unC [] [] (fun(s:RS) (a:Bool×Lin×Int×Unit)=>Yd s&&(Zp a.2.1&&(!a.1||a.2.1.t.isEmpty))) DK:=NH (c7x) E5 (tq Tryz.func114 WT Ze) Tryz.func78
theorem Ei: X4 Tryz.prog 75 ZH Xb [] [] (fun(s:RS) (_:Unit)=>Yd s) Dx:=NH (c7j) ZQ (tq Tryz.func62 Ju (tq Tryz.func111 NB (tq Tryz.func78 Jm (tq Tryz.func36 a1e (tq Tryz.func113 a0u (tq Tryz.func112 NE Ze)))))) Tryz.func75
theorem a0e: X4 Tryz.prog 44 ZH Xb [] [] (fun(s:RS) (_:Unit)=>Yd s) Dt:=NH (c9l) ZQ (tq Tryz.func37 O1 (tq Tryz.func75 Ei (tq Tryz.func76 a2a (tq Tryz.func77 Ox (tq Tryz.func78 Jm Ze))))) Tryz.func44
theorem a8v: X4 Tryz.prog 26 ZH Xb [] [] (fun(s:RS) (a:Str×Unit)=>Yd s&&decide (a.1.s.length<=1048576)) Rq:=NH (c6l) ZQ Ze Tryz.func26
theorem d8w:Ym Tryz.prog 24 U1 RY:=Gv (T:=a2w) (ic:=Po) (rs:=PL) (tq Tryz.func53 FV Ze) Ut Tryz.func24 (by kernel_rfl) (by kernel_rfl) (by kernel_rfl) c4p
theorem Pn:ZO Tryz.prog 15 (fun x:Str×Unit=>decide (x.1.s.length<=1048576)) (fun x:Str×Unit=>QR x.1):=dq c5p (tq Tryz.func24 d8w (tq Tryz.func44 a0e (tq Tryz.func26 a8v Ze))) Tryz.func15
theorem Sb:ZO Tryz.prog 45 (fun x:Lin×Lin×Unit=>Yn x.1) (fun x:Lin×Lin×Unit=>Ch x.1 x.2.1):=dq b7k Ze Tryz.func45
theorem Nq:ZO Tryz.prog 16 (fun x:Lin×Lin×Unit=>Yn x.1) (fun x:Lin×Lin×Unit=>Ch x.1 x.2.1==0):=dq c6c (tq Tryz.func45 Sb Ze) Tryz.func16
noncomputable def ivC(f:Nat):Option (IC×Nat×List IRes):=a7q Tryz.prog f
theorem R9:ZO Tryz.prog 7 (fun _:Unit=>true) (fun _:Unit=>true):=ZO.iv (C:=ivC) (fun _ _ h=>h) (DW BO Tryz.func48 (by kernel_rfl) (DW QO Tryz.func125 (by kernel_rfl) (DW Jj Tryz.func134 (by kernel_rfl) (DW c6m Tryz.func127 (by kernel_rfl) (DW TN Tryz.func71 (by kernel_rfl) (DW SN Tryz.func72 (by kernel_rfl) (DW Ha Tryz.func43 (by kernel_rfl) (DW Sw Tryz.func23 (by kernel_rfl) Ze)))))))) Ut 50 60 (fun _ _=>⟨.bool true,by kernel_rfl,rfl,rfl⟩)
theorem Gt:ZO Tryz.prog 6 (fun _:Str×Unit=>true) (fun _:Str×Unit=>true):=dq b0u (tq Tryz.func7 R9 (tq Tryz.func14 EZ (tq Tryz.func15 Pn (tq Tryz.func16 Nq Ze)))) Tryz.func6
end Go.Proofs.YtapeiomhajfpgaaGreatDoor
