/-
  Texts of mine that belong together (packed by pack.py), for every input: Post, LaidZ, PlGb, OpYa, ShV, Sh, ShB, ShN, ShW, Cl, OkYa, OkJp.
-/
import Derived.Test.YtgclceacfcdigaaGreatDoorChecked
import Derived.Test.YtgclceacfcdigaaGreatDoorRows
import Derived.Test.YtgclceacfcdigaaGreatDoorKP2
import Derived.Test.YtgclceacfcdigaaGreatDoorKP3
import Derived.Test.YtgclceacfcdigaaGreatDoorKP4
import Derived.Test.YtgclceacfcdigaaGreatDoorKP5
import Derived.Below
import Derived.ChangeSame
import Derived.Stop.LaidErr
import Derived.Lib.LaidTab
import Derived.Shelf.Vars
import Derived.KernelRfl
import Derived.Shelf.Strings.Cut
import Derived.Shelf.Strings.Count
import Derived.Shelf.Small.Strs
import Derived.Shelf.Strconv.AtoiAll
import Derived.Shelf.Strconv.Itoa3
import Derived.Shelf.Strings.Prefix
import Derived.Shelf.Sort.Plain
import Derived.Shelf.Slices.In.SortNone
import Derived.Shelf.Strings.SlTrimAscii
import Derived.WalkKit
import Derived.Deep.LoopGhost
import Derived.Lib.Walk
import Derived.Lib.SliceRun
set_option linter.unusedVariables false
set_option linter.unusedSimpArgs false
namespace Go.Proofs.YtgclceacfcdigaaGreatDoor
open Go.RowKit Go.WideShapes Go.ChangeShapes
section
section
variable {H:Type} {enc:TypeId×Value->H} {P:Program}
theorem SS{f:Func}{s:ChangeSpec}{apart fresh h u:Bool}{W W':World}{args:Array Value}{v:Value}{ds z:List (DataW H)}{e pa pv:List MemPlace}
  (C:DataW.Whole enc P f.params.toList s.vars apart W args.toList ds z e)
  (k : ∀ (b:Nat) (q:Nat->Bool) (hd:Bool),DataW.TrodAll enc P W' b q hd f.resultTypes.toList (v.resultList f.resultTypes.size) (s.fn H (ds++z)).results [])
  (i : ∀ q:Nat->Bool,(∀ p∈e,q p.block=true)->DataW.TrodAll enc P W' 0 q true f.params.toList args.toList (s.fn H (ds++z)).args pa)
  (g : ∀ q:Nat->Bool,(∀ p∈e,q p.block=true)->DataW.TrodVars enc P W' q s.vars (s.fn H (ds++z)).vars pv)
  (hps:e=pa++pv) (hb:Below W.heap.size W W')
  (B : ∀ (j:Nat) (t:TypeId) (r:Value),f.resultTypes[j]? = some t->(v.resultList f.resultTypes.size)[j]? = some r->Value.okWide P W' .any 0 t r) :
  s.post enc P f apart fresh h u W args v W':=by
 have y : ∀ p∈e,p.block<W.heap.size:=fun p hp=>C.lt p hp
 have l : ∀ p∈e,(fun b=>decide (b<W.heap.size)) p.block=true:=fun p hp=>by simpa using y p hp
 refine⟨ds,z,e,[],pa,pv,C,k _ _ _,i _ l,g _ l,World.keptBut_mono (fun p hp=>⟨hp,?_⟩) (hb.frame (· ∈ e)),fun _=> ?_⟩
 ·rw[hps,List.mem_append]at hp
  exact Or.inr hp
 ·obtain⟨_,_,_,_,_,D,hn⟩:=C
  refine⟨B,_,_,([]++pa)++pv,⟨[]++pa,pv,trodAll_append (i _ (fun _ _=>rfl)) (k _ _ _),g _ (fun _ _=>rfl),rfl,?_,?_⟩,?_⟩
  ·intro b off hp
   have A:MemPlace.cell b off∈e:=by rw[hps];simpa using hp
   rw[hb.frozen (y _ A)]
   exact D b off A
  ·intro ha
   have:=hn ha
   rw[hps]at this
   simpa using this
  ·intro p hp _
   rw[hps]
   simpa using hp
end
end
end Go.Proofs.YtgclceacfcdigaaGreatDoor
namespace Go.Proofs.YtgclceacfcdigaaGreatDoor
open Go.Pl Go.RowKit Go.ChangeShapes
set_option maxRecDepth 100000
theorem a2l{P:Program}{W:World}{n:String}{g:Nat}{cs:Array Value}(e:P.globalNamed n=some g)(h:W.var? P n=some cs):Cq W g=some cs:=by
 unfold World.var? at h
 rw[e]at h
 simp only[Option.bind_some]at h
 unfold Cq
 exact h
theorem d3c:Tryz.prog.globalNamed "internal/strconv.uint64pow10" = some 5:=by kernel_rfl
theorem e4e:Tryz.prog.globalNamed "strconv.ErrRange" = some 2:=by kernel_rfl
theorem e2v:Tryz.prog.globalNamed "strconv.ErrSyntax" = some 1:=by kernel_rfl
theorem a7x:Tryz.prog.underlying 141=some (.interface ((match Tryz.prog.underlying 141 with|some (.interface ms)=>ms|_=>#[]))):=by kernel_rfl
theorem d8o{W:World}{r:List (String×DataW Unit)}(h:laidMet Tryz.prog (("internal/strconv.uint64pow10",Rows.laid_internal_strconv_uint64pow10)::r) W):Cq W 5=some Bp:=by
 have h1:Lib.TabIs Tryz.prog W "internal/strconv.uint64pow10" .u64 ((List.range 20).map fun i=>((10 ^ i:Nat):Int)):=Lib.tabIs_of_head (e:=198) (t:=232) d3c (by kernel_rfl) (n:=20) (by kernel_rfl) (by kernel_rfl) (by kernel_rfl) (by kernel_rfl) h
 exact(a2l d3c h1).trans rfl
theorem b8m{W:World}{n:String}{g:Nat}{text:List UInt8}{r:List (String×DataW Unit)}(hg:Tryz.prog.globalNamed n=some g)(ht:(Tryz.prog.globals[g]?).map (·.type)=some 141)(h:laidMet Tryz.prog ((n,.iface "*errors.errorString" (.ptr (.agg [.lit (.string text)])))::r) W): ∃ cs,Cq W g=some cs∧Sl cs:=by
 obtain⟨ps,⟨g0,t0,cs0,f0,p0,q0,hg0,ht0,hv0,hd0,_,e0⟩,_,hrows⟩:=h
 obtain rfl:=Option.some.inj (hg.symm.trans hg0)
 obtain rfl:=Option.some.inj (ht.symm.trans ht0)
 subst e0
 refine⟨cs0,a2l hg hv0,?_⟩
 obtain⟨f1,u,v,e,_⟩:=iface_of_trod a7x hd0
 obtain⟨l0⟩:=cs0
 have e:l0=[.iface u v]:=e
 subst e
 exact⟨_,rfl,.inr ⟨u,v,rfl⟩⟩
theorem e1c{W:World}(h:W.ShapedOpen Tryz.prog): ∃ cs m,Cq W 0=some cs∧cs[0]? = some (Value.int .i64 m):=by
 obtain⟨m,hm⟩:=cell_of_shapedOpen_int (g:=0) (t:=3) (zero:=#[.int .i64 0]) (k:=.i64) h (of_decide_eq_true (by kernel_rfl)) (by kernel_rfl) rfl (by kernel_rfl) (by kernel_rfl) (by kernel_rfl)
 unfold World.cell? at hm
 unfold Cq
 split at hm
 ·rename_i cs T fz e
  exact⟨cs,m,by simp only[e],by simpa using hm⟩
 ·cases hm
theorem c9h{W:World}{x y z:String×DataW Unit}{r:List (String×DataW Unit)}(h:laidMet Tryz.prog (x::y::("internal/strconv.uint64pow10",Rows.laid_internal_strconv_uint64pow10)::z::("strconv.ErrRange",Rows.laid_strconv_ErrRange)::("strconv.ErrSyntax",Rows.laid_strconv_ErrSyntax)::r) W)(hs:W.ShapedOpen Tryz.prog):GlobOK (Cq W):=
 ⟨b8m e2v (by kernel_rfl) h.tail.tail.tail.tail.tail,b8m e4e (by kernel_rfl) h.tail.tail.tail.tail,d8o h.tail.tail,e1c hs⟩
noncomputable def e1w:DataW Unit->Value
 | .lit (.int k n)=>.int k n
 | _=>.int .i64 0
noncomputable def Af:DataW Unit->Array Value
 | .agg ds=>(ds.flatMap fun | .agg es=>es.map e1w|d=>[e1w d]).toArray
 | _=>#[]
noncomputable def b9l:DataW Unit->ByteArray
 | .iface _ (.ptr (.agg [.lit (.string bs)]))=>⟨bs.toArray⟩
 | _=>⟨#[]⟩
noncomputable def low:Nat:=(World.holding Tryz.prog default ⟨#[],#[],[]⟩).heap.size
noncomputable def a0g(cs:Array Value):Obj->Obj
 | .cells _ t frozen=>.cells cs t frozen
 | o=>o
noncomputable def GQ(os:Os):World:=
 let w0:=World.holding Tryz.prog os ⟨#[.cells #[.string (b9l Rows.laid_strconv_ErrRange)] 212,.cells #[.string (b9l Rows.laid_strconv_ErrSyntax)] 212],#[],[]⟩
 {w0 with heap:=((((((w0.heap.modify 2 (a0g #[.iface 210 (.pointer (some ⟨low,0,none⟩))])).modify 1 (a0g #[.iface 210 (.pointer (some ⟨low+1,0,none⟩))])).modify 5 (a0g (Af Rows.laid_internal_strconv_uint64pow10))).modify 6 (a0g (Af Rows.laid_math_bits_deBruijn32tab))).modify 7 (a0g (Af Rows.laid_math_bits_deBruijn64tab))).modify 4 (a0g (Af Rows.laid_unicode_utf8_acceptRanges))).modify 3 (a0g (Af Rows.laid_unicode_utf8_first))}
end Go.Proofs.YtgclceacfcdigaaGreatDoor
namespace Go.Pl
open Go.RowKit Go.WideShapes Go.ChangeShapes
section
abbrev uB{H:Type}(d:DataW H):Nat:=Go.Proofs.YtgclceacfcdigaaGreatDoor.Rows.uptoBulk d
abbrev uBs{H:Type}(l:List (DataW H)):Nat:=Go.Proofs.YtgclceacfcdigaaGreatDoor.Rows.uptoBulkAll l
theorem Fb{H:Type}(d:DataW H)(l:List (DataW H)):uBs (d::l)=uB d+uBs l:=by unfold uBs uB;rw[Go.Proofs.YtgclceacfcdigaaGreatDoor.Rows.uptoBulkAll]
theorem Eb{H:Type}(d:DataW H):1<=uB d:=by
 cases d with
 | lit l=>cases l <;> simp[uB,Go.Proofs.YtgclceacfcdigaaGreatDoor.Rows.uptoBulk]
 | _=>simp[uB,Go.Proofs.YtgclceacfcdigaaGreatDoor.Rows.uptoBulk]
mutual
def pvW:PV->Nat
 | .str s=>s.length+1
 | .sl _ _ xs=>WF xs+1
 | .agg xs=>WF xs
 | _=>1
def WF:List PV->Nat
 | []=>0
 | p::ps=>pvW p+WF ps
end
theorem b2l(a b:List PV):WF (a++b)=WF a+WF b:=by
 induction a with
 | nil=>simp[WF]
 | cons x a ih=>rw[List.cons_append,WF,ih,WF];omega
theorem e5p{P:Program}{e:TypeId}{q:List PV}(g:XF P e=true∨P.cellsOf e=1)(h:q.length=P.cellsOf e):pvW (CV P e q)<=WF q:=by
 cases ha:XF P e with
 | true=>simp only[CV,ha];rw[pvW];exact Nat.le_refl _
 | false=>
  have h1:P.cellsOf e=1:=by simpa [ha]using g
  rw[h1]at h
  match q,h with
  | [x],_=>simp only[CV,ha,List.headD_cons];rw[WF,WF];exact Nat.le_refl _
theorem a4t{H:Type}{f:List PV->PV}: ∀ {qs:List (List PV)} {xs:List (DataW H×List MemPlace)},qs.length=xs.length->(∀ (i:Nat) (q:List PV) (x:DataW H×List MemPlace),qs[i]? = some q->xs[i]? = some x->pvW (f q)<=uB x.1)->WF (qs.map f)<=uBs (xs.map (·.1))
 | [],[],_,_=>by simp[WF]
 | q::qs,x::xs,hl,h=>by
  have h0:=h 0 q x rfl rfl
  have h1:=a4t (qs:=qs) (xs:=xs) (by simpa using hl) fun i q x hq e=>h (i+1) q x (by simpa using hq) (by simpa using e)
  rw[List.map_cons,WF,List.map_cons,Fb]
  omega
 | [],_::_,hl,_=>by cases hl
 | _::_,[],hl,_=>by cases hl
def b8l(P:Program)(S:List TypeId):Bool:=S.all fun t=>match P.underlying t with|some (.array _ _)=>false|_=>true
section
variable {H:Type} {enc:TypeId×Value->H} {P:Program} {w:World} {base:Nat} {sp:Nat->Bool} {held:Bool} {S:List TypeId}
theorem Pn{n:Nat}{cs:List Value}(y : ∀ (t:TypeId) (cs:List Value) (x:DataW H×List MemPlace),t∈S->DataW.trod enc P w base sp held n t cs=some x-> ∃ ps,Cl w cs ps∧KR P n t ps∧WF ps<=uB x.1):
  ∀ (i:List Field) (o N:Nat) (xs:List (DataW H×List MemPlace)),QU P o i N=true->(∀ f∈i,f.type∈S)->cs.length=N->o<=N ->
   i.mapM (fun f=>DataW.trod enc P w base sp held n f.type ((cs.drop f.offset).take (P.cellsOf f.type)))=some xs ->
   ∃ ps,Cl w (cs.drop o) ps∧WF ps<=uBs (xs.map (·.1))∧ ∀ qs:List PV,qs.length=o->(∀ f∈i,KR P n f.type (((qs++ps).drop f.offset).take (P.cellsOf f.type))):=by
 intro i
 induction i with
 | nil=>
  intro o N xs hc _ A ho _
  simp[QU]at hc
  refine⟨[],?_,by simp[WF],fun qs _ f E=>by simp at E⟩
  rw[List.drop_of_length_le (by omega)]
  exact Cl.nil
 | cons f i ihf=>
  intro o N xs hc hm A ho h
  simp only[QU,Bool.and_eq_true,beq_iff_eq]at hc
  obtain⟨j,hc⟩:=hc
  simp only[List.mapM_cons,Option.bind_eq_bind,Option.bind_eq_some_iff]at h
  obtain⟨x,I,s,r,e⟩:=h
  cases e
  obtain⟨u,z,B,w1⟩:=y _ _ x (hm f List.mem_cons_self) I
  have q:o+P.cellsOf f.type<=N:=by
   have : ∀ (i:List Field) (a:Nat),QU P a i N=true->a<=N:=by
    intro i
    induction i with
    | nil=>intro a h;simp[QU]at h;omega
    | cons g i y=>intro a h;simp only[QU,Bool.and_eq_true]at h;have:=y _ h.2;omega
   exact this _ _ hc
  obtain⟨C,F,w2,D⟩:=ihf (o+P.cellsOf f.type) N s hc (fun g k=>hm g (List.mem_cons_of_mem _ k)) A q r
  have l:u.length=P.cellsOf f.type:=by
   rw[<- z.1.1,List.length_take,List.length_drop,j]
   omega
  refine⟨u++C,?_,by rw[b2l,List.map_cons,Fb];omega,fun qs hq g k=> ?_⟩
  ·have:=z.append F
   rw[j]at this
   have e:cs.drop o=(cs.drop o).take (P.cellsOf f.type)++cs.drop (o+P.cellsOf f.type):=by rw[<- List.drop_drop,List.take_append_drop]
   rw[e]
   exact this
  ·rcases List.mem_cons.1 k with rfl|k
   ·rw[j,<- hq,List.drop_left,<- l,List.take_left]
    exact B
   ·have:=D (qs++u) (by simp[hq,l]) g k
    rwa [List.append_assoc]at this
theorem OB{n:Nat}{e:TypeId}{a:Addr}{len cap:Nat}{xs:List (DataW H×List MemPlace)}(C:0<P.cellsOf e)(A:XF P e=true∨P.cellsOf e=1)(E:len<=cap)(hmax:cap<=maxLen)
  (ih : ∀ (cs:List Value) (x:DataW H×List MemPlace),DataW.trod enc P w base sp held n e cs=some x-> ∃ ps,Cl w cs ps∧KR P n e ps∧WF ps<=uB x.1)
  (h:(List.range len).mapM (fun i=>(w.cells? base (a.add (i*P.cellsOf e)) (P.cellsOf e)).bind (DataW.trod enc P w base sp held n e))=some xs) :
  ∃ qs:List (List PV),RP (Cq w) (.slice (some a) len cap) (.sl (P.cellsOf e) false (qs.map (CV P e)))∧qs.length<=maxLen∧(∀ q∈qs,q.length=P.cellsOf e∧KR P n e q)∧WF (qs.map (CV P e))<=uBs (xs.map (·.1)):=by
 obtain⟨Q,V⟩:=M3 h
 rw[List.length_range]at Q
 have L : ∀ i,i<len-> ∃ q:List PV,(q.length=P.cellsOf e∧KR P n e q∧ ∃ x,xs[i]? = some x∧WF q<=uB x.1)∧ ∀ (r:Nat) p,q[r]? = some p-> ∃ v,w.cell? (a.add (i*P.cellsOf e+r))=some v∧v.oneCell'=true∧RP (Cq w) v p:=by
  intro i hi
  have z:=List.getElem?_eq_getElem (show i<xs.length by omega)
  have:=V i i _ (by simp[hi]) z
  rw[Option.bind_eq_some_iff]at this
  obtain⟨cs,h1,h2⟩:=this
  obtain⟨q,I,U,Z⟩:=ih cs _ h2
  obtain⟨c1,X⟩:=a7p h1
  refine⟨q,⟨by rw[<- I.1.1,c1],U,_,z,Z⟩,fun r p hp=> ?_⟩
  have hr:r<cs.length:=by rw[I.1.1];exact(List.getElem?_eq_some_iff.1 hp).1
  have s:=List.getElem?_eq_getElem hr
  refine⟨_,?_,I.2 _ (List.getElem_mem hr),I.1.2 r _ p s hp⟩
  rw[<- a8a]
  exact X r _ s
 obtain⟨qs,l,k⟩:=Ld len L
 have g : ∀ q∈qs,(CV P e q).cells=q:=by
  intro q hq
  obtain⟨i,hi,rfl⟩:=List.getElem_of_mem hq
  have:=(k i _ (List.getElem?_eq_getElem hi)).1
  exact a8m A this.1 fun ha=>c1f this.2.1 ha
 refine⟨qs,?_,by omega,fun q hq=> ?_,?_⟩
 ·by_cases h0:len=0
  ·subst h0
   have:qs=[]:=List.length_eq_zero_iff.1 l
   subst this
   exact .sl0 _ _ _ _ fun e=>by cases e
  ·-- the first cell tells the block
   obtain⟨b,off,cs,rfl,hb,-⟩ : ∃ b off cs,a=⟨b,off,none⟩∧Cq w b=some cs∧True:=by
    have M:=List.getElem?_eq_getElem (show 0<qs.length by omega)
    obtain⟨⟨f1,f2,-⟩,f3⟩:=k 0 _ M
    have hp:=List.getElem?_eq_getElem (show 0<(qs[0]'(by omega)).length by omega)
    obtain⟨v,s,_⟩:=f3 0 _ hp
    simp[Addr.add]at s
    obtain⟨b,off,cs,K,J,_⟩:=TY s
    exact⟨b,off,cs,K,J,trivial⟩
   have hs : ∀ x∈qs.map (CV P e),x.cells.length=P.cellsOf e:=by
    intro x z
    obtain⟨q,hq,rfl⟩:=List.mem_map.1 z
    rw[g q hq]
    obtain⟨i,hi,rfl⟩:=List.getElem_of_mem hq
    exact(k i _ (List.getElem?_eq_getElem hi)).1.1
   have D : ∀ (j:Nat) p,(flat (qs.map (CV P e)))[j]? = some p-> ∃ v,cs[off+j]? = some v∧v.oneCell'=true∧RP (Cq w) v p:=by
    intro j p hp
    have W:j<len*P.cellsOf e:=by
     have:=(List.getElem?_eq_some_iff.1 hp).1
     rw[X8 hs]at this
     simpa [l]using this
    have hi:j / P.cellsOf e<qs.length:=by rw[l];exact(Nat.div_lt_iff_lt_mul C).2 W
    have hr:j % P.cellsOf e<P.cellsOf e:=Nat.mod_lt _ C
    have B:=List.getElem?_eq_getElem hi
    have T:j=j / P.cellsOf e*P.cellsOf e+j % P.cellsOf e:=by rw[Nat.mul_comm];exact(Nat.div_add_mod _ _).symm
    have N:(qs.map (CV P e))[j / P.cellsOf e]? = some (CV P e qs[j / P.cellsOf e]):=by rw[List.getElem?_map,B];rfl
    have F:=Oj hs N hr
    rw[<- T,g _ (List.getElem_mem hi)]at F
    rw[F]at hp
    obtain⟨v,s,h1,h2⟩:=(k _ _ B).2 _ p hp
    rw[<- T,X4]at s
    obtain⟨b',off',cs',K,J,Y⟩:=TY s
    cases K
    rw[hb]at J
    cases J
    exact⟨v,Y,h1,h2⟩
   have u:len=(qs.map (CV P e)).length:=by simp[l]
   rw[u]
   refine .sl b off cs cap _ false _ (fun j=>(cs[off+j]?).getD default) hb (by rw[<- u];exact E) (fun e=>by cases e) hs (fun j p hp=> ?_) (fun j p hp=> ?_)
   ·obtain⟨v,h1,h2,h3⟩:=D j p hp
    rw[h1]
    exact⟨rfl,h2⟩
   ·obtain⟨v,h1,h2,h3⟩:=D j p hp
    rw[h1]
    exact h3
 ·obtain⟨i,hi,rfl⟩:=List.getElem_of_mem hq
  have:=(k i _ (List.getElem?_eq_getElem hi)).1
  exact⟨this.1,this.2.1⟩
 ·refine a4t (by rw[l,Q]) fun i q x hq z=> ?_
  have:=(k i q hq).1
  obtain⟨y,O,hw⟩:=this.2.2
  rw[z]at O
  cases O
  have hm:=e5p (P:=P) (e:=e) (q:=q) A this.1
  omega
theorem Ea(y:PY P S=true)(s:b8l P S=true): ∀ (n:Nat) (t:TypeId) (cs:List Value) (x:DataW H×List MemPlace),t∈S->DataW.trod enc P w base sp held n t cs=some x-> ∃ ps,Cl w cs ps∧KR P n t ps∧WF ps<=uB x.1:=by
  intro n
  induction n with
  | zero=>intro t cs x _ h;simp[DataW.trod]at h
  | succ n ih=>
    intro t cs x ht h
    have hp:=Rp y ht
    have g:=List.all_eq_true.1 s t ht
    unfold DataW.trod at h
    unfold KR
    split at h <;> (try rename_i hu) <;> (try simp only[hu]at hp g ⊢) <;> try (cases hp;done)
    all_goals first
      | (exact⟨_,Cl.one (.bool _) rfl,⟨_,rfl⟩,Eb _⟩)
      | (split at h
         · rename_i hc
           obtain⟨rfl,u⟩:=hc
           exact⟨_,Cl.one (.int _ _) rfl,⟨_,rfl,u⟩,Eb _⟩
         · cases h)
      | (split at h
         · rename_i hc
           cases h
           refine⟨_,Cl.one (.str _) rfl,⟨_,rfl,hc⟩,?_⟩
           show WF [PV.str _]<=Go.Proofs.YtgclceacfcdigaaGreatDoor.Rows.uptoBulk (DataW.lit (.string _))
           rw[Go.Proofs.YtgclceacfcdigaaGreatDoor.Rows.uptoBulk,WF,WF,pvW]
           omega
         · cases h)
      | (cases h;done)
      | (cases g;done)
      | skip
    · exact⟨_,Cl.one (.sl0 _ _ _ false (fun e=>by cases e)) rfl,⟨[],rfl,by simp,fun q hq=>by simp at hq⟩,Eb _⟩
    · rename_i e a len cap
      simp only[Bool.and_eq_true,Bool.or_eq_true,beq_iff_eq,decide_eq_true_eq]at hp
      simp only at h
      split at h
      · rename_i hc
        obtain⟨xs,h1,h3⟩:=Option.bind_eq_some_iff.1 h
        obtain⟨ys,h4,rfl⟩:=Option.map_eq_some_iff.1 h3
        obtain⟨qs,i,j,l,r⟩:=OB hp.1.2 hp.2 hc.2.1 hc.2.2 (fun cs x z=>ih e cs x (by simpa using hp.1.1.2) z) h1
        refine⟨_,Cl.one i rfl,⟨qs,rfl,j,l⟩,?_⟩
        show WF [PV.sl _ false (qs.map (CV P e))]<=Go.Proofs.YtgclceacfcdigaaGreatDoor.Rows.uptoBulk (DataW.slice (xs.map (·.1)) (ys.map (·.1)))
        rw[Go.Proofs.YtgclceacfcdigaaGreatDoor.Rows.uptoBulk,WF,WF,pvW]
        have:WF (qs.map (CV P e))<=Go.Proofs.YtgclceacfcdigaaGreatDoor.Rows.uptoBulkAll (xs.map (·.1)):=r
        omega
      · cases h
    · rename_i cs2 A
      simp only[Bool.and_eq_true]at hp
      split at h
      · rename_i hc
        rw[Option.map_eq_some_iff]at h
        obtain⟨xs,h1,rfl⟩:=h
        obtain⟨ps,i,l,j⟩:=Pn ih A.toList 0 (P.cellsOf t) xs hp.1 (fun f k=>by simpa using List.all_eq_true.1 hp.2 f k) hc (Nat.zero_le _) h1
        rw[List.drop_zero]at i
        refine⟨ps,i,⟨by rw[<- i.1.1,hc],fun f k=>by simpa using j [] rfl f k⟩,?_⟩
        show WF ps<=Go.Proofs.YtgclceacfcdigaaGreatDoor.Rows.uptoBulk (DataW.agg (xs.map (·.1)))
        rw[Go.Proofs.YtgclceacfcdigaaGreatDoor.Rows.uptoBulk]
        have:WF ps<=Go.Proofs.YtgclceacfcdigaaGreatDoor.Rows.uptoBulkAll (xs.map (·.1)):=l
        omega
      · cases h
theorem b0u(s:PY P S=true)(z:b8l P S=true){t:TypeId}(ht:t∈S){r:Reach}{b0:Nat}{v:Value}{d:DataW H}{p:List MemPlace}(e:Value.okWide P w r b0 t v)(h:DataW.Trod enc P w base sp held t v d p):
  ∃ n q,RP (Cq w) v (CV P t q)∧KR P n t q∧WF q<=uB d:=by
 obtain⟨n,h⟩:=h
 obtain⟨q,i,u,C⟩:=Ea s z n t _ _ ht h
 refine⟨n,q,?_,u,C⟩
 have hp:=Rp s ht
 have g:v.cells = #[v]->XF P t=false->RP (Cq w) v (CV P t q):=by
  intro hc ha
  rw[hc]at i
  have B:=i.1.1
  match q,B with
  | [x],_=>simp only[CV,ha,List.headD_cons];exact i.1.2 0 v x rfl rfl
 have agg : ∀ cs,v = .agg cs->XF P t=true->RP (Cq w) v (CV P t q):=by
  rintro cs rfl ha
  simp only[CV,ha]
  exact .agg cs q (by have:=i.1.1;simpa [Value.cells]using this) (fun x k=>i.2 x (by simpa [Value.cells]using k)) fun j x y k A=>i.1.2 j x y (by simpa [Value.cells]using k) A
 split at hp
 ·rename_i hu
  obtain⟨b,rfl⟩:=okWide_bool hu e
  exact g rfl (by simp[XF,hu])
 ·rename_i hu
  obtain⟨b,rfl⟩:=okWide_int hu e
  exact g rfl (by simp[XF,hu])
 ·rename_i hu
  obtain⟨b,rfl⟩:=okWide_string hu e
  exact g rfl (by simp[XF,hu])
 ·rename_i hu
  obtain⟨a,l,c,rfl⟩:=okWide_slice hu e
  exact g rfl (by simp[XF,hu])
 ·rename_i hu
  simp only[Value.okWide,hu]at e
  obtain⟨cs,rfl,_⟩:=e
  exact agg cs rfl (by simp[XF,hu])
 ·rename_i hu
  simp only[Value.okWide,hu]at e
  obtain⟨cs,rfl,_⟩:=e
  exact agg cs rfl (by simp[XF,hu])
 ·cases hp
end
end
end Go.Pl
namespace Go.Proofs.YtgclceacfcdigaaGreatDoor
open Go.Pl
section
set_option maxRecDepth 100000
open Enc (enc dec is)
open EncL (encL decL isL)
theorem c5b:Tryz.prog.underlying 9=some .string:=by kernel_rfl
theorem d6t:XF Tryz.prog 9=false:=by kernel_rfl
theorem c4a{n:Nat}{q:List PV}(h:KR Tryz.prog n 9 q): ∃ s:Str,CV Tryz.prog 9 q=enc s:=by
 obtain⟨s,e,_⟩:=b8w c5b h
 exact⟨⟨s⟩,by rw[e,CV,d6t];rfl⟩
theorem c4y{n0:Nat}{e:List PV}(g:KR Tryz.prog n0 9 e):
  preT (fun _:Str×Unit=>true) [CV Tryz.prog 9 e]=true:=by
 obtain⟨s,h⟩:=c4a g
 rw[h]
 exact Zt (s,()) rfl rfl
end
end Go.Proofs.YtgclceacfcdigaaGreatDoor
namespace Go.Proofs.YtgclceacfcdigaaGreatDoor
open Go.Shelf
def Tryz.lays145_ren:Go.Shelf.Ren:=⟨fun|145=>136|220=>158|219=>122|217=>121|225=>147|224=>148|267=>149|266=>146|314=>168|n=>n,fun|9=>9|4=>4|59=>156|3=>3|5=>5|46=>164|146=>184|51=>183|n=>n,fun|1=>0|n=>n⟩
theorem Tryz.lays145:Go.Proofs.Lays.n145 Tryz.prog Tryz.lays145_ren:={
 mixed:=by kernel_rfl
 f145:=Tryz.func136.trans (congrArg some (by kernel_rfl))
 f217:=Tryz.func121.trans (congrArg some (by kernel_rfl))
 f219:=Tryz.func122.trans (congrArg some (by kernel_rfl))
 f220:=Tryz.func158.trans (congrArg some (by kernel_rfl))
 f224:=Tryz.func148.trans (congrArg some (by kernel_rfl))
 f225:=Tryz.func147.trans (congrArg some (by kernel_rfl))
 f266:=Tryz.func146.trans (congrArg some (by kernel_rfl))
 f267:=Tryz.func149.trans (congrArg some (by kernel_rfl))
 f314:=Tryz.func168.trans (congrArg some (by kernel_rfl))
 t3:=Tryz.underlying3
 a3:=Tryz.isAgg3
 z3:=Tryz.sizeOf3
 v3:=Tryz.zeroValue3
 t4:=Tryz.underlying4
 a4:=Tryz.isAgg4
 z4:=Tryz.sizeOf4
 v4:=Tryz.zeroValue4
 t5:=Tryz.underlying5
 a5:=Tryz.isAgg5
 z5:=Tryz.sizeOf5
 v5:=Tryz.zeroValue5
 t9:=Tryz.underlying9
 a9:=Tryz.isAgg9
 z9:=Tryz.sizeOf9
 v9:=Tryz.zeroValue9
 t46:=Tryz.underlying164
 a46:=Tryz.isAgg164
 z46:=Tryz.sizeOf164
 v46:=Tryz.zeroValue164
 t51:=Tryz.underlying183
 a51:=Tryz.isAgg183
 z51:=Tryz.sizeOf183
 v51:=Tryz.zeroValue183
 t59:=Tryz.underlying156
 a59:=Tryz.isAgg156
 z59:=Tryz.sizeOf156
 v59:=Tryz.zeroValue156
 t146:=Tryz.underlying184
 a146:=Tryz.isAgg184
 z146:=Tryz.sizeOf184
 v146:=Tryz.zeroValue184
 g1:=by kernel_rfl}
def Tryz.lays137_ren:Go.Shelf.Ren:=⟨fun|137=>90|217=>121|266=>146|n=>n,fun|9=>9|5=>5|3=>3|n=>n,fun|n=>n⟩
theorem Tryz.lays137:Go.Proofs.Lays.n137 Tryz.prog Tryz.lays137_ren:={
 mixed:=by kernel_rfl
 f137:=Tryz.func90.trans (congrArg some (by kernel_rfl))
 f217:=Tryz.func121.trans (congrArg some (by kernel_rfl))
 f266:=Tryz.func146.trans (congrArg some (by kernel_rfl))
 t3:=Tryz.underlying3
 a3:=Tryz.isAgg3
 z3:=Tryz.sizeOf3
 v3:=Tryz.zeroValue3
 t5:=Tryz.underlying5
 a5:=Tryz.isAgg5
 z5:=Tryz.sizeOf5
 v5:=Tryz.zeroValue5
 t9:=Tryz.underlying9
 a9:=Tryz.isAgg9
 z9:=Tryz.sizeOf9
 v9:=Tryz.zeroValue9}
def Tryz.lays138_ren:Go.Shelf.Ren:=⟨fun|138=>65|195=>91|218=>92|143=>93|219=>122|217=>121|225=>147|224=>148|267=>149|266=>146|314=>168|n=>n,fun|9=>9|3=>3|4=>4|5=>5|0=>0|46=>164|146=>184|51=>183|n=>n,fun|1=>0|n=>n⟩
theorem Tryz.lays138:Go.Proofs.Lays.n138 Tryz.prog Tryz.lays138_ren:={
 mixed:=by kernel_rfl
 f138:=Tryz.func65.trans (congrArg some (by kernel_rfl))
 f143:=Tryz.func93.trans (congrArg some (by kernel_rfl))
 f195:=Tryz.func91.trans (congrArg some (by kernel_rfl))
 f217:=Tryz.func121.trans (congrArg some (by kernel_rfl))
 f218:=Tryz.func92.trans (congrArg some (by kernel_rfl))
 f219:=Tryz.func122.trans (congrArg some (by kernel_rfl))
 f224:=Tryz.func148.trans (congrArg some (by kernel_rfl))
 f225:=Tryz.func147.trans (congrArg some (by kernel_rfl))
 f266:=Tryz.func146.trans (congrArg some (by kernel_rfl))
 f267:=Tryz.func149.trans (congrArg some (by kernel_rfl))
 f314:=Tryz.func168.trans (congrArg some (by kernel_rfl))
 t0:=Tryz.underlying0
 a0:=Tryz.isAgg0
 z0:=Tryz.sizeOf0
 v0:=Tryz.zeroValue0
 t3:=Tryz.underlying3
 a3:=Tryz.isAgg3
 z3:=Tryz.sizeOf3
 v3:=Tryz.zeroValue3
 t4:=Tryz.underlying4
 a4:=Tryz.isAgg4
 z4:=Tryz.sizeOf4
 v4:=Tryz.zeroValue4
 t5:=Tryz.underlying5
 a5:=Tryz.isAgg5
 z5:=Tryz.sizeOf5
 v5:=Tryz.zeroValue5
 t9:=Tryz.underlying9
 a9:=Tryz.isAgg9
 z9:=Tryz.sizeOf9
 v9:=Tryz.zeroValue9
 t46:=Tryz.underlying164
 a46:=Tryz.isAgg164
 z46:=Tryz.sizeOf164
 v46:=Tryz.zeroValue164
 t51:=Tryz.underlying183
 a51:=Tryz.isAgg183
 z51:=Tryz.sizeOf183
 v51:=Tryz.zeroValue183
 t146:=Tryz.underlying184
 a146:=Tryz.isAgg184
 z146:=Tryz.sizeOf184
 v146:=Tryz.zeroValue184
 g1:=by kernel_rfl}
def Tryz.lays172_ren:Go.Shelf.Ren:=⟨fun|172=>123|244=>150|245=>151|247=>169|279=>170|280=>171|281=>172|282=>173|287=>181|316=>182|171=>154|205=>183|321=>190|322=>191|243=>174|246=>184|283=>192|284=>193|285=>194|286=>195|129=>206|317=>208|318=>209|319=>210|320=>211|337=>218|338=>219|n=>n,fun|9=>9|3=>3|75=>141|76=>142|4=>4|5=>5|167=>186|37=>169|0=>0|85=>187|2=>2|168=>189|53=>198|175=>199|46=>164|210=>202|127=>209|145=>212|143=>210|21=>21|171=>213|173=>216|212=>232|51=>183|20=>20|213=>233|232=>243|233=>244|80=>82|n=>n,fun|15=>1|16=>2|17=>5|18=>6|19=>7|n=>n⟩
theorem Tryz.lays172:Go.Proofs.LaysC.n172 Tryz.prog Tryz.lays172_ren:={
 mixed:=by kernel_rfl
 f129:=Tryz.func206.trans (congrArg some (by kernel_rfl))
 f171:=Tryz.func154.trans (congrArg some (by kernel_rfl))
 f172:=Tryz.func123.trans (congrArg some (by kernel_rfl))
 f205:=Tryz.func183.trans (congrArg some (by kernel_rfl))
 f243:=Tryz.func174.trans (congrArg some (by kernel_rfl))
 f244:=Tryz.func150.trans (congrArg some (by kernel_rfl))
 f245:=Tryz.func151.trans (congrArg some (by kernel_rfl))
 f246:=Tryz.func184.trans (congrArg some (by kernel_rfl))
 f247:=Tryz.func169.trans (congrArg some (by kernel_rfl))
 f279:=Tryz.func170.trans (congrArg some (by kernel_rfl))
 f280:=Tryz.func171.trans (congrArg some (by kernel_rfl))
 f281:=Tryz.func172.trans (congrArg some (by kernel_rfl))
 f282:=Tryz.func173.trans (congrArg some (by kernel_rfl))
 f283:=Tryz.func192.trans (congrArg some (by kernel_rfl))
 f284:=Tryz.func193.trans (congrArg some (by kernel_rfl))
 f285:=Tryz.func194.trans (congrArg some (by kernel_rfl))
 f286:=Tryz.func195.trans (congrArg some (by kernel_rfl))
 f287:=Tryz.func181.trans (congrArg some (by kernel_rfl))
 f316:=Tryz.func182.trans (congrArg some (by kernel_rfl))
 f317:=Tryz.func208.trans (congrArg some (by kernel_rfl))
 f318:=Tryz.func209.trans (congrArg some (by kernel_rfl))
 f319:=Tryz.func210.trans (congrArg some (by kernel_rfl))
 f320:=Tryz.func211.trans (congrArg some (by kernel_rfl))
 f321:=Tryz.func190.trans (congrArg some (by kernel_rfl))
 f322:=Tryz.func191.trans (congrArg some (by kernel_rfl))
 f337:=Tryz.func218.trans (congrArg some (by kernel_rfl))
 f338:=Tryz.func219.trans (congrArg some (by kernel_rfl))
 t0:=Tryz.underlying0
 a0:=Tryz.isAgg0
 z0:=Tryz.sizeOf0
 v0:=Tryz.zeroValue0
 t2:=Tryz.underlying2
 a2:=Tryz.isAgg2
 z2:=Tryz.sizeOf2
 v2:=Tryz.zeroValue2
 t3:=Tryz.underlying3
 a3:=Tryz.isAgg3
 z3:=Tryz.sizeOf3
 v3:=Tryz.zeroValue3
 t4:=Tryz.underlying4
 a4:=Tryz.isAgg4
 z4:=Tryz.sizeOf4
 v4:=Tryz.zeroValue4
 t5:=Tryz.underlying5
 a5:=Tryz.isAgg5
 z5:=Tryz.sizeOf5
 v5:=Tryz.zeroValue5
 t9:=Tryz.underlying9
 a9:=Tryz.isAgg9
 z9:=Tryz.sizeOf9
 v9:=Tryz.zeroValue9
 t20:=Tryz.underlying20
 a20:=Tryz.isAgg20
 z20:=Tryz.sizeOf20
 v20:=Tryz.zeroValue20
 t21:=Tryz.underlying21
 a21:=Tryz.isAgg21
 z21:=Tryz.sizeOf21
 v21:=Tryz.zeroValue21
 t37:=Tryz.underlying169
 a37:=Tryz.isAgg169
 z37:=Tryz.sizeOf169
 v37:=Tryz.zeroValue169
 t46:=Tryz.underlying164
 a46:=Tryz.isAgg164
 z46:=Tryz.sizeOf164
 v46:=Tryz.zeroValue164
 t51:=Tryz.underlying183
 a51:=Tryz.isAgg183
 z51:=Tryz.sizeOf183
 v51:=Tryz.zeroValue183
 t53:=Tryz.underlying198
 a53:=Tryz.isAgg198
 z53:=Tryz.sizeOf198
 v53:=Tryz.zeroValue198
 t75:=Tryz.underlying141
 a75:=Tryz.isAgg141
 z75:=Tryz.sizeOf141
 v75:=Tryz.zeroValue141
 t76:=Tryz.underlying142
 a76:=Tryz.isAgg142
 z76:=Tryz.sizeOf142
 v76:=Tryz.zeroValue142
 t85:=Tryz.underlying187
 a85:=Tryz.isAgg187
 z85:=Tryz.sizeOf187
 v85:=Tryz.zeroValue187
 t127:=Tryz.underlying209
 a127:=Tryz.isAgg209
 z127:=Tryz.sizeOf209
 v127:=Tryz.zeroValue209
 t143:=Tryz.underlying210
 a143:=Tryz.isAgg210
 z143:=Tryz.sizeOf210
 v143:=Tryz.zeroValue210
 t145:=Tryz.underlying212
 a145:=Tryz.isAgg212
 z145:=Tryz.sizeOf212
 v145:=Tryz.zeroValue212
 t167:=Tryz.underlying186
 a167:=Tryz.isAgg186
 z167:=Tryz.sizeOf186
 v167:=Tryz.zeroValue186
 t168:=Tryz.underlying189
 a168:=Tryz.isAgg189
 z168:=Tryz.sizeOf189
 v168:=Tryz.zeroValue189
 t171:=Tryz.underlying213
 a171:=Tryz.isAgg213
 z171:=Tryz.sizeOf213
 v171:=Tryz.zeroValue213
 t173:=Tryz.underlying216
 a173:=Tryz.isAgg216
 z173:=Tryz.sizeOf216
 v173:=Tryz.zeroValue216
 t175:=Tryz.underlying199
 a175:=Tryz.isAgg199
 z175:=Tryz.sizeOf199
 v175:=Tryz.zeroValue199
 t210:=Tryz.underlying202
 a210:=Tryz.isAgg202
 z210:=Tryz.sizeOf202
 v210:=Tryz.zeroValue202
 t212:=Tryz.underlying232
 a212:=Tryz.isAgg232
 z212:=Tryz.sizeOf232
 v212:=Tryz.zeroValue232
 t213:=Tryz.underlying233
 a213:=Tryz.isAgg233
 z213:=Tryz.sizeOf233
 t232:=Tryz.underlying243
 a232:=Tryz.isAgg243
 z232:=Tryz.sizeOf243
 v232:=Tryz.zeroValue243
 t233:=Tryz.underlying244
 a233:=Tryz.isAgg244
 z233:=Tryz.sizeOf244
 v233:=Tryz.zeroValue244
 g15:=by kernel_rfl
 g16:=by kernel_rfl
 g17:=by kernel_rfl
 g18:=by kernel_rfl
 g19:=by kernel_rfl
 t80:=Tryz.underlying82
 a80:=Tryz.isAgg82
 z80:=Tryz.sizeOf82
 v80:=Tryz.zeroValue82
 i0:=by kernel_rfl
 i2:=by kernel_rfl
 i3:=by kernel_rfl
 i4:=by kernel_rfl
 i5:=by kernel_rfl
 i9:=by kernel_rfl
 i20:=by kernel_rfl
 i21:=by kernel_rfl
 i37:=by kernel_rfl
 i46:=by kernel_rfl
 i51:=by kernel_rfl
 i53:=by kernel_rfl
 i75:=by kernel_rfl
 i76:=by kernel_rfl
 i80:=by kernel_rfl
 i85:=by kernel_rfl
 i127:=by kernel_rfl
 i143:=by kernel_rfl
 i145:=by kernel_rfl
 i167:=by kernel_rfl
 i168:=by kernel_rfl
 i171:=by kernel_rfl
 i173:=by kernel_rfl
 i175:=by kernel_rfl
 i210:=by kernel_rfl
 i212:=by kernel_rfl
 i232:=by kernel_rfl
 i233:=by kernel_rfl
 m15:=by kernel_rfl
 m16:=by kernel_rfl
 m17:=by kernel_rfl
 m18:=by kernel_rfl
 m19:=by kernel_rfl
 c0:=by kernel_rfl
 c2:=by kernel_rfl
 c3:=by kernel_rfl
 c4:=by kernel_rfl
 c5:=by kernel_rfl
 c9:=by kernel_rfl
 c20:=by kernel_rfl
 c21:=by kernel_rfl
 c37:=by kernel_rfl
 c46:=by kernel_rfl
 c51:=by kernel_rfl
 c53:=by kernel_rfl
 c75:=by kernel_rfl
 c76:=by kernel_rfl
 c80:=by kernel_rfl
 c85:=by kernel_rfl
 c127:=by kernel_rfl
 c143:=by kernel_rfl
 c145:=by kernel_rfl
 c167:=by kernel_rfl
 c168:=by kernel_rfl
 c171:=by kernel_rfl
 c173:=by kernel_rfl
 c175:=by kernel_rfl
 c210:=by kernel_rfl
 c212:=by kernel_rfl
 c213:=by kernel_rfl
 c232:=by kernel_rfl
 c233:=by kernel_rfl}
def Tryz.lays171_ren:Go.Shelf.Ren:=⟨fun|171=>154|243=>174|246=>184|283=>192|284=>193|285=>194|286=>195|129=>206|317=>208|318=>209|319=>210|320=>211|337=>218|338=>219|n=>n,fun|3=>3|9=>9|2=>2|4=>4|171=>213|0=>0|53=>198|37=>169|5=>5|173=>216|212=>232|51=>183|20=>20|213=>233|46=>164|232=>243|233=>244|n=>n,fun|17=>5|18=>6|19=>7|n=>n⟩
theorem Tryz.lays171:Go.Proofs.LaysM.n171 Tryz.prog Tryz.lays171_ren:={
 mixed:=by kernel_rfl
 f129:=Tryz.func206.trans (congrArg some (by kernel_rfl))
 f171:=Tryz.func154.trans (congrArg some (by kernel_rfl))
 f243:=Tryz.func174.trans (congrArg some (by kernel_rfl))
 f246:=Tryz.func184.trans (congrArg some (by kernel_rfl))
 f283:=Tryz.func192.trans (congrArg some (by kernel_rfl))
 f284:=Tryz.func193.trans (congrArg some (by kernel_rfl))
 f285:=Tryz.func194.trans (congrArg some (by kernel_rfl))
 f286:=Tryz.func195.trans (congrArg some (by kernel_rfl))
 f317:=Tryz.func208.trans (congrArg some (by kernel_rfl))
 f318:=Tryz.func209.trans (congrArg some (by kernel_rfl))
 f319:=Tryz.func210.trans (congrArg some (by kernel_rfl))
 f320:=Tryz.func211.trans (congrArg some (by kernel_rfl))
 f337:=Tryz.func218.trans (congrArg some (by kernel_rfl))
 f338:=Tryz.func219.trans (congrArg some (by kernel_rfl))
 t0:=Tryz.underlying0
 a0:=Tryz.isAgg0
 z0:=Tryz.sizeOf0
 v0:=Tryz.zeroValue0
 t2:=Tryz.underlying2
 a2:=Tryz.isAgg2
 z2:=Tryz.sizeOf2
 v2:=Tryz.zeroValue2
 t3:=Tryz.underlying3
 a3:=Tryz.isAgg3
 z3:=Tryz.sizeOf3
 v3:=Tryz.zeroValue3
 t4:=Tryz.underlying4
 a4:=Tryz.isAgg4
 z4:=Tryz.sizeOf4
 v4:=Tryz.zeroValue4
 t5:=Tryz.underlying5
 a5:=Tryz.isAgg5
 z5:=Tryz.sizeOf5
 v5:=Tryz.zeroValue5
 t9:=Tryz.underlying9
 a9:=Tryz.isAgg9
 z9:=Tryz.sizeOf9
 v9:=Tryz.zeroValue9
 t20:=Tryz.underlying20
 a20:=Tryz.isAgg20
 z20:=Tryz.sizeOf20
 v20:=Tryz.zeroValue20
 t37:=Tryz.underlying169
 a37:=Tryz.isAgg169
 z37:=Tryz.sizeOf169
 v37:=Tryz.zeroValue169
 t46:=Tryz.underlying164
 a46:=Tryz.isAgg164
 z46:=Tryz.sizeOf164
 v46:=Tryz.zeroValue164
 t51:=Tryz.underlying183
 a51:=Tryz.isAgg183
 z51:=Tryz.sizeOf183
 v51:=Tryz.zeroValue183
 t53:=Tryz.underlying198
 a53:=Tryz.isAgg198
 z53:=Tryz.sizeOf198
 v53:=Tryz.zeroValue198
 t171:=Tryz.underlying213
 a171:=Tryz.isAgg213
 z171:=Tryz.sizeOf213
 v171:=Tryz.zeroValue213
 t173:=Tryz.underlying216
 a173:=Tryz.isAgg216
 z173:=Tryz.sizeOf216
 v173:=Tryz.zeroValue216
 t212:=Tryz.underlying232
 a212:=Tryz.isAgg232
 z212:=Tryz.sizeOf232
 v212:=Tryz.zeroValue232
 t213:=Tryz.underlying233
 a213:=Tryz.isAgg233
 z213:=Tryz.sizeOf233
 t232:=Tryz.underlying243
 a232:=Tryz.isAgg243
 z232:=Tryz.sizeOf243
 v232:=Tryz.zeroValue243
 t233:=Tryz.underlying244
 a233:=Tryz.isAgg244
 z233:=Tryz.sizeOf244
 v233:=Tryz.zeroValue244
 g17:=by kernel_rfl
 g18:=by kernel_rfl
 g19:=by kernel_rfl
 i0:=by kernel_rfl
 i2:=by kernel_rfl
 i3:=by kernel_rfl
 i4:=by kernel_rfl
 i5:=by kernel_rfl
 i9:=by kernel_rfl
 i20:=by kernel_rfl
 i37:=by kernel_rfl
 i46:=by kernel_rfl
 i51:=by kernel_rfl
 i53:=by kernel_rfl
 i171:=by kernel_rfl
 i173:=by kernel_rfl
 i212:=by kernel_rfl
 i232:=by kernel_rfl
 i233:=by kernel_rfl
 m17:=by kernel_rfl
 m18:=by kernel_rfl
 m19:=by kernel_rfl}
def Tryz.lays99_ren:Go.Shelf.Ren:=⟨fun|99=>89|206=>120|n=>n,fun|9=>9|4=>4|3=>3|n=>n,fun|n=>n⟩
theorem Tryz.lays99:Go.Proofs.Lays.n99 Tryz.prog Tryz.lays99_ren:={
 mixed:=by kernel_rfl
 f99:=Tryz.func89.trans (congrArg some (by kernel_rfl))
 f206:=Tryz.func120.trans (congrArg some (by kernel_rfl))
 t3:=Tryz.underlying3
 a3:=Tryz.isAgg3
 z3:=Tryz.sizeOf3
 v3:=Tryz.zeroValue3
 t4:=Tryz.underlying4
 a4:=Tryz.isAgg4
 z4:=Tryz.sizeOf4
 v4:=Tryz.zeroValue4
 t9:=Tryz.underlying9
 a9:=Tryz.isAgg9
 z9:=Tryz.sizeOf9
 v9:=Tryz.zeroValue9}
def Tryz.lays190_ren:Go.Shelf.Ren:=⟨fun|190=>176|125=>186|258=>185|128=>205|129=>206|302=>196|303=>197|304=>198|305=>199|306=>200|307=>201|308=>202|309=>203|310=>204|333=>212|329=>213|330=>214|334=>215|335=>216|336=>217|344=>220|n=>n,fun|31=>23|9=>9|3=>3|46=>164|0=>0|51=>183|53=>198|4=>4|183=>220|182=>219|131=>100|5=>5|218=>234|222=>238|228=>240|229=>241|n=>n,fun|n=>n⟩
theorem Tryz.lays190:Go.Proofs.Lays.n190 Tryz.prog Tryz.lays190_ren:={
 mixed:=by kernel_rfl
 f125:=Tryz.func186.trans (congrArg some (by kernel_rfl))
 f128:=Tryz.func205.trans (congrArg some (by kernel_rfl))
 f129:=Tryz.func206.trans (congrArg some (by kernel_rfl))
 f190:=Tryz.func176.trans (congrArg some (by kernel_rfl))
 f258:=Tryz.func185.trans (congrArg some (by kernel_rfl))
 f302:=Tryz.func196.trans (congrArg some (by kernel_rfl))
 f303:=Tryz.func197.trans (congrArg some (by kernel_rfl))
 f304:=Tryz.func198.trans (congrArg some (by kernel_rfl))
 f305:=Tryz.func199.trans (congrArg some (by kernel_rfl))
 f306:=Tryz.func200.trans (congrArg some (by kernel_rfl))
 f307:=Tryz.func201.trans (congrArg some (by kernel_rfl))
 f308:=Tryz.func202.trans (congrArg some (by kernel_rfl))
 f309:=Tryz.func203.trans (congrArg some (by kernel_rfl))
 f310:=Tryz.func204.trans (congrArg some (by kernel_rfl))
 f329:=Tryz.func213.trans (congrArg some (by kernel_rfl))
 f330:=Tryz.func214.trans (congrArg some (by kernel_rfl))
 f333:=Tryz.func212.trans (congrArg some (by kernel_rfl))
 f334:=Tryz.func215.trans (congrArg some (by kernel_rfl))
 f335:=Tryz.func216.trans (congrArg some (by kernel_rfl))
 f336:=Tryz.func217.trans (congrArg some (by kernel_rfl))
 f344:=Tryz.func220.trans (congrArg some (by kernel_rfl))
 t0:=Tryz.underlying0
 a0:=Tryz.isAgg0
 z0:=Tryz.sizeOf0
 v0:=Tryz.zeroValue0
 t3:=Tryz.underlying3
 a3:=Tryz.isAgg3
 z3:=Tryz.sizeOf3
 v3:=Tryz.zeroValue3
 t4:=Tryz.underlying4
 a4:=Tryz.isAgg4
 z4:=Tryz.sizeOf4
 v4:=Tryz.zeroValue4
 t5:=Tryz.underlying5
 a5:=Tryz.isAgg5
 z5:=Tryz.sizeOf5
 v5:=Tryz.zeroValue5
 t9:=Tryz.underlying9
 a9:=Tryz.isAgg9
 z9:=Tryz.sizeOf9
 v9:=Tryz.zeroValue9
 t31:=Tryz.underlying23
 a31:=Tryz.isAgg23
 z31:=Tryz.sizeOf23
 v31:=Tryz.zeroValue23
 t46:=Tryz.underlying164
 a46:=Tryz.isAgg164
 z46:=Tryz.sizeOf164
 v46:=Tryz.zeroValue164
 t51:=Tryz.underlying183
 a51:=Tryz.isAgg183
 z51:=Tryz.sizeOf183
 v51:=Tryz.zeroValue183
 t53:=Tryz.underlying198
 a53:=Tryz.isAgg198
 z53:=Tryz.sizeOf198
 v53:=Tryz.zeroValue198
 t131:=Tryz.underlying100
 a131:=Tryz.isAgg100
 z131:=Tryz.sizeOf100
 v131:=Tryz.zeroValue100
 t182:=Tryz.underlying219
 a182:=Tryz.isAgg219
 z182:=Tryz.sizeOf219
 v182:=Tryz.zeroValue219
 t183:=Tryz.underlying220
 a183:=Tryz.isAgg220
 z183:=Tryz.sizeOf220
 v183:=Tryz.zeroValue220
 t218:=Tryz.underlying234
 a218:=Tryz.isAgg234
 z218:=Tryz.sizeOf234
 v218:=Tryz.zeroValue234
 t222:=Tryz.underlying238
 a222:=Tryz.isAgg238
 z222:=Tryz.sizeOf238
 v222:=Tryz.zeroValue238
 t228:=Tryz.underlying240
 a228:=Tryz.isAgg240
 z228:=Tryz.sizeOf240
 v228:=Tryz.zeroValue240
 t229:=Tryz.underlying241
 a229:=Tryz.isAgg241
 z229:=Tryz.sizeOf241
 v229:=Tryz.zeroValue241}
end Go.Proofs.YtgclceacfcdigaaGreatDoor
namespace Go.Proofs.YtgclceacfcdigaaGreatDoor
open Go.Pl Go.RowKit
open Enc (enc dec is)
open EncL (encL decL isL)
set_option maxRecDepth 100000
theorem VP:ZP Tryz.prog 89 (fun _:Str×Str×Unit=>true) (fun x:Str×Str×Unit=>x.2.1.s.isPrefixOf x.1.s):=Xx (by
  rintro⟨⟨s⟩,⟨p⟩,⟨⟩⟩ hps Φ w vs hL hΦ hv
  obtain⟨u,v,rfl,h1,h2⟩:=c5r hv
  rw[QK h1,QK h2]
  refine(Any.strings_HasPrefix Tryz.lays99 ⟨s.toArray⟩ ⟨p.toArray⟩ w).mono ?_
  rintro e w' ⟨rfl,rfl⟩
  exact⟨_,rfl,.bool _,.refl _ _⟩)
theorem b3v:ZP Tryz.prog 123 (fun x:Str×Unit=>decide (x.1.s.length<=1000000)) (fun x:Str×Unit=>Yn x.1):=Xx (by
  rintro⟨⟨s⟩,⟨⟩⟩ hps Φ w vs hL hΦ g
  have hs:s.length<=1000000:=by simpa using hps
  obtain⟨v,rfl,h1⟩:=e0f g
  rw[QK h1]
  have l:(⟨s.toArray⟩:ByteArray).size=s.length:=rfl
  cases h:Lib.atoiAll s
  ·rename_i n
   have q:Yn ⟨s⟩=(n,⟨false⟩):=by simp only[Yn,h]
   rw[q]
   refine(Any.strconv_Atoi_ok Tryz.lays172 ⟨s.toArray⟩ (by rw[l];omega) n h w).mono ?_
   rintro e w' ⟨rfl,u⟩
   refine⟨_,rfl,.tup _ _ rfl ?_,?_⟩
   ·intro j v x g i
    match j with
    | 0=>cases g;cases i;exact .int _ _
    | 1=>cases g;cases i;exact .nili
    | j+2=>simp at g
   ·rcases u with rfl|⟨t,rfl⟩
    ·exact .refl _ _
    ·exact D7 _ _ 0 _
  ·skip
   have q:Yn ⟨s⟩=(0,⟨true⟩):=by simp only[Yn,h]
   rw[q]
   obtain⟨cs,hc,ev,r,k⟩:=hL.syn
   refine(Any.strconv_Atoi_syntax Tryz.lays172 ⟨s.toArray⟩ (by rw[l];omega) h ev w (QC hΦ hc r) k).mono ?_
   rintro e w' ⟨N,rfl,_,_,hb⟩
   refine⟨_,rfl,.tup _ _ rfl ?_,hb⟩
   intro j v x g i
   match j with
   | 0=>cases g;cases i;exact .int _ _
   | 1=>cases g;cases i;exact .ifc _ _
   | j+2=>simp at g
  ·skip
   have q:Yn ⟨s⟩=(Lib.atoiSat s,⟨true⟩):=by simp only[Yn,h]
   rw[q]
   obtain⟨cs,hc,ev,r,k⟩:=hL.rng
   refine(Any.strconv_Atoi_range Tryz.lays172 ⟨s.toArray⟩ (by rw[l];omega) h ev w (QC hΦ hc r) k).mono ?_
   rintro e w' ⟨N,rfl,_,_,hb⟩
   refine⟨_,rfl,.tup _ _ rfl ?_,hb⟩
   intro j v x g i
   match j with
   | 0=>cases g;cases i;exact .int _ _
   | 1=>cases g;cases i;exact .ifc _ _
   | j+2=>simp at g)
theorem MP:ZP Tryz.prog 154 (fun x:Int×Unit=>decide (-9223372036854775808<=x.1)&&decide (x.1<=9223372036854775807)) (fun x:Int×Unit=>D6 x.1):=Xx (by
  rintro⟨n,⟨⟩⟩ hps Φ w vs hL hΦ hv
  obtain⟨v,rfl,h1⟩:=e0f hv
  have h1:RP Φ v (.int .i64 n):=h1
  rw[c1y h1]
  have hn : -9223372036854775808<=n∧n<=9223372036854775807:=by simpa using hps
  have hg:=hL.pow
  obtain⟨T,fz,hh⟩:=hΦ _ _ hg
  refine(Any.strconv_Itoa Tryz.lays171 n hn.1 hn.2 w ?_).mono ?_
  ·unfold Lib.TabIs World.var?
   rw[show Program.globalNamed Tryz.prog "internal/strconv.uint64pow10" = some 5 by kernel_rfl]
   simp only[Option.bind_some,hh]
   rfl
  ·rintro e w' ⟨rfl,k,os,rfl⟩
   refine⟨_,rfl,.str _,?_⟩
   exact⟨rfl,rfl,rfl,by show w.heap.size<=(w.heap++os).size;simp,fun j hj=>by show(w.heap++os)[j]? = _;rw[Array.getElem?_append_left hj]⟩)
theorem d3k: ∀ s:List UInt8,((s.dropWhile fun c=>c != 46)=[]->Lib.index s [46] = -1) ∧
  ∀ (c:UInt8) (r:List UInt8),(s.dropWhile fun c=>c != 46)=c::r->Lib.index s [46]=((s.takeWhile fun c=>c != 46).length:Nat)∧s.drop ((s.takeWhile fun c=>c != 46).length+1)=r∧s.take (s.takeWhile fun c=>c != 46).length=s.takeWhile fun c=>c != 46
 | []=>⟨fun _=>rfl,fun _ _ h=>by cases h⟩
 | b::l=>by
  obtain⟨h1,h2⟩:=d3k l
  by_cases hb:b=46
  ·subst hb
   refine⟨fun h=>by simp at h,fun c r h=> ?_⟩
   have h:(46:UInt8)::l=c::r:=by simpa using h
   cases h
   exact⟨rfl,rfl,rfl⟩
  ·have g:(b != 46)=true:=by simpa using hb
   have hp:([46]:List UInt8).isPrefixOf (b::l)=false:=by simp[List.isPrefixOf];exact fun e=>hb e.symm
   have i:Lib.index (b::l) [46]=if Lib.index l [46] == -1 then -1 else Lib.index l [46]+1:=by rw[Lib.index,hp];rfl
   rw[List.dropWhile_cons,if_pos g,List.takeWhile_cons,if_pos g]
   refine⟨fun h=>by rw[i,h1 h];rfl,fun c r h=> ?_⟩
   obtain⟨k,j,q⟩:=h2 c r h
   rw[i,k]
   refine⟨?_,?_,?_⟩
   ·rw[if_neg (by simp),List.length_cons];rfl
   ·rw[List.length_cons,List.drop_succ_cons];exact j
   ·rw[List.length_cons,List.take_succ_cons,q]
theorem c4z(s:List UInt8):Lib.cut s [46]=((Uh ⟨s⟩).a.s,(Uh ⟨s⟩).b.s,(Uh ⟨s⟩).c):=by
 obtain⟨h1,h2⟩:=d3k s
 unfold Lib.cut Uh
 cases hd:s.dropWhile fun c=>c != 46 with
 | nil=>
  rw[h1 hd]
  rfl
 | cons c r=>
  obtain⟨g,e,h⟩:=h2 c r hd
  rw[g,if_pos (by omega),Int.toNat_natCast,h]
  show(_,s.drop ((s.takeWhile fun c=>c != 46).length+1),true)=_
  rw[e]
theorem b2n:ZP Tryz.prog 136 (fun x:Str×Str×Unit=>decide (x.1.s.length<=1048576)&&decide (x.2.1.s=[46])) (fun x:Str×Str×Unit=>Uh x.1):=Xx (by
  rintro⟨⟨s⟩,⟨p⟩,⟨⟩⟩ hps Φ w vs hL hΦ g
  simp only[Bool.and_eq_true,decide_eq_true_eq]at hps
  obtain⟨hs,hp⟩:=hps
  have hp:p=[46]:=hp
  subst hp
  obtain⟨u,v,rfl,h1,h2⟩:=c5r g
  rw[QK h1,QK h2]
  obtain⟨cs,m,hc,hm⟩:=hL.mx
  have h:(⟨s.toArray⟩:ByteArray).size=s.length:=rfl
  refine(Any.strings_Cut Tryz.lays145 ⟨s.toArray⟩ ⟨#[46]⟩ m w (by rw[h];have hs:s.length<=1048576:=hs;omega) (QC hΦ hc hm)).mono ?_
  rintro e w' ⟨rfl,k,rfl⟩
  refine⟨_,rfl,.tup _ _ rfl ?_,?_⟩
  ·rw[show(⟨s.toArray⟩:ByteArray).data.toList=s from rfl,show(⟨#[46]⟩:ByteArray).data.toList=[46]from rfl,c4z]
   intro j v x g i
   match j with
   | 0=>cases g;cases i;exact .str _
   | 1=>cases g;cases i;exact .str _
   | 2=>cases g;cases i;exact .bool _
   | j+3=>simp at g
  ·exact⟨rfl,rfl,rfl,Nat.le_refl _,fun _ _=>rfl⟩)
theorem d0r:ZP Tryz.prog 90 (fun x:Str×UInt8×Unit=>decide (x.1.s.length<=1048576)) (fun x:Str×UInt8×Unit=>Lib.indexByte x.1.s x.2.1):=Xx (by
  rintro⟨⟨s⟩,c,⟨⟩⟩ hps Φ w vs hL hΦ hv
  obtain⟨u,v,rfl,h1,h2⟩:=c5r hv
  rw[QK h1,c1y h2]
  refine(Any.strings_IndexByte Tryz.lays137 ⟨s.toArray⟩ (c.toNat:Int) w).mono ?_
  rintro e w' ⟨rfl,rfl⟩
  have hc:((c.toNat:Int)).toNat.toUInt8=c:=by
   rw[Int.toNat_natCast]
   exact UInt8.ofNat_toNat
  rw[hc]
  exact⟨_,rfl,.int _ _,.refl _ _⟩)
theorem b5h:ZP Tryz.prog 65 (fun x:Str×Str×Unit=>decide (x.1.s.length<=1048576)&&decide (x.2.1.s=[10])) (fun x:Str×Str×Unit=>(Lib.countByte x.1.s 10:Int)):=Xx (by
  rintro⟨⟨s⟩,⟨p⟩,⟨⟩⟩ hps Φ w vs hL hΦ hv
  obtain⟨-,rfl⟩:s.length<=1048576∧p=[10]:=by simpa using hps
  obtain⟨u,v,rfl,h1,h2⟩:=c5r hv
  rw[QK h1,QK h2]
  refine(Any.strings_Count_one Tryz.lays138 ⟨s.toArray⟩ 10 w).mono ?_
  rintro e w' ⟨rfl,rfl⟩
  exact⟨_,rfl,.int _ _,.refl _ _⟩)
end Go.Proofs.YtgclceacfcdigaaGreatDoor
namespace Go.Proofs.YtgclceacfcdigaaGreatDoor
open Go.RowKit Go.Lib Go.Pl
theorem b6x:(Tryz.prog.info? 3).map (fun i=>(i.zero,i.size,i.bytes))=some (some (.int .i64 0),1,8):=by kernel_rfl
theorem Hf:Tryz.prog.underlying 25=some (.slice 3):=by kernel_rfl
theorem Es(n c:Nat)(w:World):Calls Tryz.prog 134 #[.slice none n c] w fun e w'=>e = .returned (.slice none 0 0)∧w'=w:=by
 have q22 : ∀ (w:World) (a:Option Addr) (n c g h:Nat),(binOp .eql 25 (.slice a n c) (.slice none g h)).run Tryz.prog w = .ok (.bool a.isNone) w:=fun w a n c g h=>Lib.run_eql_slice_nil w _ _ a n c g h Hf
 go_enter Tryz.func134,Tryz.ntmps134
 go_wp2
 go_ret
 exact⟨rfl,rfl⟩
theorem MU(a:Addr)(c:Nat)(w:World):Calls Tryz.prog 134 #[.slice (some a) 0 c] w fun e w'=>(∃ g,e = .returned (.slice (some g) 0 0))∧Below w.heap.size w w':=by
 have q22 : ∀ (w:World) (a:Option Addr) (n c h i:Nat),(binOp .eql 25 (.slice a n c) (.slice none h i)).run Tryz.prog w = .ok (.bool a.isNone) w:=fun w a n c h i=>Lib.run_eql_slice_nil w _ _ a n c h i Hf
 obtain⟨i0,hi,hz0,hz1,hz2⟩:=info_parts b6x
 go_enter Tryz.func134,Tryz.ntmps134
 go_wp2_with (at_builtin;refine Lib.wpList_append_run _ rfl _ _ _ _ rfl _ _ rfl rfl _ _ (WN Hf hi (Nat.le_refl _)) ?_)
 go_ret
 exact⟨⟨_,rfl⟩,(Below.refl _ w).alloc (Nat.le_refl _) _⟩
theorem Lc(a:Addr)(n c:Nat)(news:List Value)(w:World)(h0:0<n)(hn:n<=2000000)(B:news.length=n*1)(hc : ∀ j u,news[j]? = some u->w.cell? (a.add j)=some u)(h1 : ∀ u∈news,u.oneCell'=true):
  Calls Tryz.prog 134 #[.slice (some a) n c] w fun e w'=> ∃ v',e = .returned v'∧w'.ownsRow w.heap.size 3 1 v' n news∧Below w.heap.size w w':=by
 have q22 : ∀ (w:World) (a:Option Addr) (n c i l:Nat),(binOp .eql 25 (.slice a n c) (.slice none i l)).run Tryz.prog w = .ok (.bool a.isNone) w:=fun w a n c i l=>Lib.run_eql_slice_nil w _ _ a n c i l Hf
 obtain⟨z,hi,q,r,s⟩:=info_parts b6x
 have A:Aside (∀ j u,news[j]? = some u->w.cell? (a.add j)=some u):=hc
 clear hc
 go_enter Tryz.func134,Tryz.ntmps134
 go_wp2_with (at_builtin;refine wpList_append_own _ rfl _ _ 25 rfl w.heap.size 3 z (.int .i64 0) 1 8 Hf hi q r s rfl (by decide) _ _ _ rfl (World.ownsRow_made w #[] 0 (Nat.le_refl _) (Nat.zero_le _) rfl) a n c news rfl ?qc1 ?qc2 ?qc3 ?qc4 ?qc5 ?qc6 ?_)
 case qc1=>exact B
 case qc2=>intro j u C;exact Lib.cell?_alloc_some _ (A.out j u C)
 case qc3=>exact h1
 case qc4=>unfold maxLen;omega
 case qc5=>omega
 case qc6=>simp
 intro v' w1 h g hnil
 go_wp2
 go_ret
 refine⟨v',rfl,by simpa using h,?_⟩
 exact((Below.refl _ w).alloc (Nat.le_refl _) _).grown g (by simp) (by intro k y;simp[Value.ownBlock]at y;omega)
theorem d7l:CloneC Tryz.prog 134 3 1:=⟨Es,MU,Lc⟩
end Go.Proofs.YtgclceacfcdigaaGreatDoor
namespace Go.Proofs.YtgclceacfcdigaaGreatDoor
open Go.Pl
open Enc (enc dec is)
open EncL (encL decL isL)
set_option maxRecDepth 100000
theorem Qf:Tryz.prog.follows .mixedOrders=true:=by kernel_rfl
theorem tq{f:Nat}{D:Den}{l:List (Nat×Den)}{fn:Func}(hf:Tryz.prog.funcs[f]? = some fn)(h:a6m Tryz.prog f D)(k:Ye Tryz.prog (Xg l))(hb:(fn.body.isSome&& !(fn.name == "runtime.NumGoroutine"))=true:=by kernel_rfl):Ye Tryz.prog (Xg ((f,D)::l)):=UA (ent hf hb h) k
theorem dq{f nt:Nat}{α β:Type}[EncL α][Enc β]{fn:Func}{T:ZM}{ic:IC}{rs:List IRes}{pre:α->Bool}{F:α->β}(h : ∀ a,pre a=true->Zb T 0 (Za rs (Zh (F a))) ic [] (YT nt (encL a)))(j:Ye Tryz.prog T)(k:Tryz.prog.funcs[f]? = some fn)(i:Cg Tryz.prog fn=some ic:=by kernel_rfl)(e:Xi (YV Tryz.prog) fn.results.toList=some rs:=by kernel_rfl)(g:fn.ntmps=nt:=by kernel_rfl):ZP Tryz.prog f pre F:=ZP.of j Qf k i e g h
theorem Cr{α β S:Type}[EncL α][Enc β][EncL S]{T:ZM}{f:Nat}{fn:Func}{ic:IC}{rs:List IRes}{mk:α->List AV}{g e:List AObj}{pre:S->α->Bool}{un:List AV->α}{F:S->α->β×S}{nt k:Nat}(h : ∀ s a,pre s a=true->Zb T k (Zm k rs (ZQ g e (F s a).1 (F s a).2)) ic [] (Yd nt (mk a) (g++Zn s::e)))(hm:BN mk un)(u:Ye Tryz.prog T)(r:Tryz.prog.funcs[f]? = some fn)(q:g.length+1+e.length=k:=by exact rfl)(j:Cg Tryz.prog fn=some ic:=by kernel_rfl)(i:Xi (YV Tryz.prog) fn.results.toList=some rs:=by kernel_rfl)(l:fn.ntmps=nt:=by kernel_rfl):Ya Tryz.prog f mk un g e pre F:=Ya.of hm u Qf r j i l q h
theorem Ri:ZP Tryz.prog 123 (fun x:Str×Unit=>decide (x.1.s.length<=281474976710656)) (fun x:Str×Unit=>Yn x.1):=Xx (by
  rintro⟨⟨s⟩,⟨⟩⟩ hps Φ w vs hL hΦ g
  have hs:s.length<=281474976710656:=by simpa using hps
  obtain⟨v,rfl,h1⟩:=e0f g
  rw[QK h1]
  have l:(⟨s.toArray⟩:ByteArray).size=s.length:=rfl
  cases h:Lib.atoiAll s
  ·rename_i n
   have q:Yn ⟨s⟩=(n,⟨false⟩):=by simp only[Yn,h]
   rw[q]
   refine(Any.strconv_Atoi_ok Tryz.lays172 ⟨s.toArray⟩ (by rw[l];omega) n h w).mono ?_
   rintro e w' ⟨rfl,u⟩
   refine⟨_,rfl,.tup _ _ rfl ?_,?_⟩
   ·intro j v x g i
    match j with
    | 0=>cases g;cases i;exact .int _ _
    | 1=>cases g;cases i;exact .nili
    | j+2=>simp at g
   ·rcases u with rfl|⟨t,rfl⟩
    ·exact .refl _ _
    ·exact D7 _ _ 0 _
  ·skip
   have q:Yn ⟨s⟩=(0,⟨true⟩):=by simp only[Yn,h]
   rw[q]
   obtain⟨cs,hc,ev,r,k⟩:=hL.syn
   refine(Any.strconv_Atoi_syntax Tryz.lays172 ⟨s.toArray⟩ (by rw[l];omega) h ev w (QC hΦ hc r) k).mono ?_
   rintro e w' ⟨N,rfl,_,_,hb⟩
   refine⟨_,rfl,.tup _ _ rfl ?_,hb⟩
   intro j v x g i
   match j with
   | 0=>cases g;cases i;exact .int _ _
   | 1=>cases g;cases i;exact .ifc _ _
   | j+2=>simp at g
  ·skip
   have q:Yn ⟨s⟩=(Lib.atoiSat s,⟨true⟩):=by simp only[Yn,h]
   rw[q]
   obtain⟨cs,hc,ev,r,k⟩:=hL.rng
   refine(Any.strconv_Atoi_range Tryz.lays172 ⟨s.toArray⟩ (by rw[l];omega) h ev w (QC hΦ hc r) k).mono ?_
   rintro e w' ⟨N,rfl,_,_,hb⟩
   refine⟨_,rfl,.tup _ _ rfl ?_,hb⟩
   intro j v x g i
   match j with
   | 0=>cases g;cases i;exact .int _ _
   | 1=>cases g;cases i;exact .ifc _ _
   | j+2=>simp at g)
theorem b5d:Y3 Tryz.prog 176 VG Us:=b0d (Any.slices_Sort_string Tryz.lays190) (Any.slices_Sort_string_none Tryz.lays190)
theorem RN:ZP Tryz.prog 131 (fun _:Int×Unit=>true) (fun x:Int×Unit=>YX x.1):=dq c7c Zd Tryz.func131
theorem OC:ZP Tryz.prog 130 (fun x:Str×Unit=>decide (x.1.s.length<=1000000)) (fun x:Str×Unit=>nameB x.1):=dq a8x (tq Tryz.func89 VP (tq Tryz.func123 b3v (tq Tryz.func154 MP Zd))) Tryz.func130
theorem FC:ZP Tryz.prog 130 (fun x:Str×Unit=>decide (x.1.s.length<=281474976710656)) (fun x:Str×Unit=>nameB x.1):=dq EB (tq Tryz.func89 VP (tq Tryz.func123 Ri (tq Tryz.func154 MP Zd))) Tryz.func130
theorem QN:ZP Tryz.prog 105 (fun x:Lin×Unit=>ZV x.1) (fun x:Lin×Unit=>ZC x.1):=dq a0h (tq Tryz.func131 RN (tq Tryz.func130 OC Zd)) Tryz.func105
theorem Hz:ZP Tryz.prog 105 (fun x:Lin×Unit=>Qd x.1) (fun x:Lin×Unit=>ZC x.1):=dq a6q (tq Tryz.func131 RN (tq Tryz.func130 FC Zd)) Tryz.func105
theorem Q8:ZP Tryz.prog 94 (fun _:UInt8×Unit=>true) (fun x:UInt8×Unit=>lowB x.1):=dq Ez Zd Tryz.func94
theorem H5:ZP Tryz.prog 97 (fun _:UInt8×Unit=>true) (fun x:UInt8×Unit=>digB x.1):=dq O7 Zd Tryz.func97
theorem JM:ZP Tryz.prog 95 (fun x:Str×Bool×Unit=>decide (x.1.s.length<=1048576)) (fun x:Str×Bool×Unit=>Yp x.1 x.2.1):=dq b9z (tq Tryz.func97 H5 (tq Tryz.func94 Q8 Zd)) Tryz.func95
theorem Kl:ZP Tryz.prog 96 (fun _:Str×Unit=>true) (fun x:Str×Unit=>Jt.contains x.1.s):=dq b2p Zd Tryz.func96
theorem VN:ZP Tryz.prog 72 (fun x:Str×Unit=>decide (x.1.s.length<=1048576)) (fun x:Str×Unit=>nameI x.1.s):=dq a7d (tq Tryz.func94 Q8 (tq Tryz.func95 JM (tq Tryz.func96 Kl Zd))) Tryz.func72
theorem U5:ZP Tryz.prog 109 (fun x:Str×Unit=>decide (x.1.s.length<=1048576)) (fun x:Str×Unit=>fullI x.1.s):=dq a9s (tq Tryz.func136 b2n (tq Tryz.func72 VN Zd)) Tryz.func109
theorem Km:ZP Tryz.prog 77 (fun x:Str×Unit=>decide (x.1.s.length<=1048576)) (fun x:Str×Unit=>fnI x.1.s):=dq b9e (tq Tryz.func72 VN (tq Tryz.func109 U5 Zd)) Tryz.func77
theorem Ao:ZP Tryz.prog 74 (fun x:Tm×Unit=>nW x.1) (fun x:Tm×Unit=>GR x.1.nd):=dq c1k Zd Tryz.func74
theorem SY:ZP Tryz.prog 104 (fun x:Lin×Unit=>Qd x.1) (fun x:Lin×Unit=> !(ZC x.1)):=dq c2v (tq Tryz.func105 Hz Zd) Tryz.func104
theorem c6a:ZP Tryz.prog 129 (fun x:List Lin×FnV 104×Unit=>decide (x.1.length<=1048576)&&x.1.all Qd) (fun x:List Lin×FnV 104×Unit=>WA (fun l:Lin=> !(ZC l)) x.1):=dq c6f (tq Tryz.func104 SY Zd) Tryz.func129
theorem c6n:ZP Tryz.prog 103 (fun x:List Lin×FnV 104×Unit=>decide (x.1.length<=1048576)&&x.1.all Qd) (fun x:List Lin×FnV 104×Unit=>x.1.any fun l:Lin=> !(ZC l)):=dq d0k (tq Tryz.func129 c6a Zd) Tryz.func103
theorem Hq:ZP Tryz.prog 73 (fun x:Tm×Int×Int×Unit=>nW x.1) (fun x:Tm×Int×Int×Unit=>Xa x.1.nd x.2.1 x.2.2.1):=dq ED (tq Tryz.func103 c6n Zd) Tryz.func73
theorem Px:ZP Tryz.prog 108 (fun _:Int×Unit=>true) (fun x:Int×Unit=>Yv x.1):=dq b3c Zd Tryz.func108
theorem c4x:ZP Tryz.prog 135 (fun x:List Int×FnV 108×Unit=>decide (x.1.length<=1048576)) (fun x:List Int×FnV 108×Unit=>WA Yv x.1):=dq c9l (tq Tryz.func108 Px Zd) Tryz.func135
theorem c7o:ZP Tryz.prog 107 (fun x:List Int×FnV 108×Unit=>decide (x.1.length<=1048576)) (fun x:List Int×FnV 108×Unit=>x.1.any Yv):=dq c9g (tq Tryz.func135 c4x Zd) Tryz.func107
theorem Fq:ZP Tryz.prog 76 (fun x:Tm×Unit=>nW x.1) (fun x:Tm×Unit=>callB x.1.nd x.1.ks.length):=dq a8q (tq Tryz.func77 Km (tq Tryz.func73 Hq (tq Tryz.func107 c7o Zd))) Tryz.func76
theorem b6w:Xm Tryz.prog 175 Yt Jo:=Je (T:=Uo) (ic:=Vk) (rs:=Vp) Zd Qf Tryz.func175 (by kernel_rfl) (by kernel_rfl) (by kernel_rfl) a7e
theorem LB:Xm Tryz.prog 155 Yt Um:=Je (T:=JL) (ic:=Kz) (rs:=KX) (tq Tryz.func175 b6w Zd) Qf Tryz.func155 (by kernel_rfl) (by kernel_rfl) (by kernel_rfl) NB
theorem d0t:Xm Tryz.prog 132 BZ VQ:=Je (T:=XY) (ic:=Xh) (rs:=Xf) (tq Tryz.func155 LB Zd) Qf Tryz.func132 (by kernel_rfl) (by kernel_rfl) (by kernel_rfl) c2l
theorem c0g:ZP Tryz.prog 132 (fun _:List Int×Unit=>true) (fun x:List Int×Unit=>Ue x.1):=ZP.ofPure d0t fun⟨l,_⟩ h=>⟨by show(ZK l).all PV.isNum=true;simp,by show Zh _ (.tup [.int .i64 (Ue ((ZK l).map PV.asInt)).1,.int .i64 (Ue ((ZK l).map PV.asInt)).2]);rw[Vz];exact ZJ (x:=Ue l) rfl⟩
theorem a9e:ZP Tryz.prog 134 (fun x:List Int×Unit=>decide (x.1.length<=2000000)) (fun x:List Int×Unit=>x.1):=a1h (α:=Int) (by decide) (a7i d7l (by decide))
theorem Py:ZP Tryz.prog 157 (fun _:Str×Int×Unit=>true) (fun x:Str×Int×Unit=>Vx x.1 x.2.1):=dq c7v Zd Tryz.func157
theorem d7p:Y3 Tryz.prog 156 CK N9:=Td (T:=b7h) (ic:=a0j) (rs:=E5) (tq Tryz.func157 Py Zd) Qf Tryz.func156 (by kernel_rfl) (by kernel_rfl) (by kernel_rfl) c9w
theorem d8i:Y3 Tryz.prog 135 Vh CQ:=Td (T:=Ap) (ic:=Ha) (rs:=J6) (tq Tryz.func156 d7p Zd) Qf Tryz.func135 (by kernel_rfl) (by kernel_rfl) (by kernel_rfl) d0u
theorem d9p:Y3 Tryz.prog 107 Vh Pj:=Td (T:=b1c) (ic:=OX) (rs:=a0k) (tq Tryz.func135 d8i Zd) Qf Tryz.func107 (by kernel_rfl) (by kernel_rfl) (by kernel_rfl) c4e
theorem Oq:ZP Tryz.prog 133 (fun x:Str×List Int×Unit=>decide (x.2.1.length<=2000000)) (fun x:Str×List Int×Unit=>x.2.1.all (Vx x.1)):=dq PE (tq Tryz.func107 d9p Zd) Tryz.func133
theorem a9x:ZP Tryz.prog 106 (fun x:Str×List Int×List Int×Unit=>decide (x.2.1.length<=2000000)&&decide (x.2.2.1.length<=2000000)) (fun x:Str×List Int×List Int×Unit=>a7w x.1 x.2.1 x.2.2.1):=dq b2j (tq Tryz.func132 c0g (tq Tryz.func133 Oq (tq Tryz.func134 a9e Zd))) Tryz.func106
theorem Mj:ZP Tryz.prog 75 (fun x:Arr×Unit=>a8j x.1) (fun x:Arr×Unit=>c2g x.1):=dq c7q (tq Tryz.func106 a9x Zd) Tryz.func75
theorem Ls:ZP Tryz.prog 52 (fun x:Tm×Unit=>nW x.1) (fun x:Tm×Unit=>G8 x.1):=dq a7b (tq Tryz.func72 VN (tq Tryz.func73 Hq (tq Tryz.func74 Ao (tq Tryz.func75 Mj (tq Tryz.func76 Fq (tq Tryz.func77 Km Zd)))))) Tryz.func52
theorem e0u:Y3 Tryz.prog 51 Ke (HV 70):=Td (T:=Em) (ic:=Ni) (rs:=Nn) Zd Qf Tryz.func51 (by kernel_rfl) (by kernel_rfl) (by kernel_rfl) c1w
theorem a9y{cd:Code}(h:Jz Tryz.prog b3t Tryz.f28 0=some cd):Gx Tryz.prog cd=some (.t 7,[8,9],AY,BD):=by
 have:(Jz Tryz.prog b3t Tryz.f28 0).bind (Gx Tryz.prog)=some (.t 7,[8,9],AY,BD):=by kernel_rfl
 rw[h]at this
 exact this
theorem c9n(g:Ye Tryz.prog JC): ∀ (B:Nat) (c:Ctx),c.w0.heap.size=B->(∀ i m,0<=i->c.μ0 i m=none)->b3j (AB B 4 g Qf) (fun n cd=>Jz Tryz.prog b3t Tryz.f28 n=some cd) tvE c:=by
 rintro B c h j n cd e st a w q hr ⟨rfl,k⟩
 exact a8b g Qf b4o (fun x=>by obtain⟨t,l⟩:=x;rfl) (a9y e) h j hr k
theorem a5r:Ye Tryz.prog JC:=(tq Tryz.func51 e0u (tq Tryz.func52 Ls Zd))
theorem Jw:ZP Tryz.prog 28 (fun x:Tm×Unit=>gW x.1) (fun x:Tm×Unit=>Xn x.1):=ZP.ofM (T:=JC) (ic:=Dr) (rs:=J9) (E:=tvE) (sel:=b3t) a5r Qf Tryz.func28 (by kernel_rfl) (by kernel_rfl) (by kernel_rfl) (c9n a5r) c7b
theorem Bo:Ye Tryz.prog XI:=(tq Tryz.func176 b5d (tq Tryz.func105 QN Zd))
theorem a9j{cd:Code}(h:Jz Tryz.prog b3a Tryz.f160 0=some cd):HY Tryz.prog cd=some b2f:=by
 have:(Jz Tryz.prog b3a Tryz.f160 0).bind (HY Tryz.prog)=some b2f:=by kernel_rfl
 rw[h]at this
 exact this
theorem c6j(args:List AV)(os:List AObj)(h:X3 args os=true)(c:Ctx)(g : ∀ i m,os.length<=i->c.μ0 i m=none):b3j (CG Bo Qf) (fun n cd=>Jz Tryz.prog b3a Tryz.f160 n=some cd) NE c:=by
 rintro n cd e st a w q hr ⟨rfl,j⟩
 have h2:os.length=2:=by
  unfold X3 at h
  split at h
  ·rfl
  ·cases h
 rw[h2]at g
 exact c5m Bo Qf (a9j e) g hr j
theorem c4l:Y3 Tryz.prog 160 X3 QA:=e2d (T:=XI) (ic:=XB) (rs:=XA) (E:=NE) (sel:=b3a) Bo Qf Tryz.func160 (by kernel_rfl) (by kernel_rfl) (by kernel_rfl) c6j b9f b9p
theorem d6p:Y3 Tryz.prog 160 X3 Cv:=c5l c4l
theorem d6z:Y3 Tryz.prog 159 UW Be:=Td (T:=KC) (ic:=UM) (rs:=UZ) Zd Qf Tryz.func159 (by kernel_rfl) (by kernel_rfl) (by kernel_rfl) c9t
theorem KU:ZP Tryz.prog 139 (fun x:Lin×Lin×Int×Unit=>ZV x.1&&ZV x.2.1) (fun x:Lin×Lin×Int×Unit=>ZG x.1 x.2.1 x.2.2.1):=dq Lr (tq Tryz.func105 QN (tq Tryz.func159 d6z (tq Tryz.func160 d6p Zd))) Tryz.func139
theorem TZ:ZP Tryz.prog 113 (fun x:Lin×Lin×Unit=>ZV x.1&&ZV x.2.1) (fun x:Lin×Lin×Unit=>ZG x.1 x.2.1 1):=dq b0q (tq Tryz.func139 KU Zd) Tryz.func113
theorem DF:ZP Tryz.prog 112 (fun x:Lin×Int×Unit=>ZV x.1) (fun x:Lin×Int×Unit=>Wz x.1 x.2.1):=dq O0 (tq Tryz.func139 KU Zd) Tryz.func112
theorem b0c:ZP Tryz.prog 138 (fun _:Int×Unit=>true) (fun x:Int×Unit=>(⟨x.1,[]⟩:Lin)):=dq c5x Zd Tryz.func138
theorem TM:ZP Tryz.prog 114 (fun x:Lin×Lin×Unit=>ZV x.1&&ZV x.2.1) (fun x:Lin×Lin×Unit=>ZG x.1 x.2.1 (-1)):=dq b0y (tq Tryz.func139 KU Zd) Tryz.func114
theorem O4:ZP Tryz.prog 137 (fun _:Str×Unit=>true) (fun x:Str×Unit=>Jq x.1):=dq c4n Zd Tryz.func137
theorem QP:ZP Tryz.prog 98 (fun x:Str×Unit=>decide (x.1.s.length<=1048576)) (fun x:Str×Unit=>X5 x.1):=dq d0e (tq Tryz.func95 JM (tq Tryz.func123 Ri Zd)) Tryz.func98
theorem d6f:Xm Tryz.prog 99 C8 Pi:=Je (T:=b6l) (ic:=a1p) (rs:=a1d) Zd Qf Tryz.func99 (by kernel_rfl) (by kernel_rfl) (by kernel_rfl) fun ps h=>a2q (c6t ps h)
theorem ND:ZP Tryz.prog 64 (fun x:Str×Unit=>decide (x.1.s.length<=1048576)) (fun x:Str×Unit=>V3 x.1):=dq c4r (tq Tryz.func89 VP (tq Tryz.func90 d0r Zd)) Tryz.func64
theorem Ps:ZP Tryz.prog 66 (fun x:Str×Unit=>decide (x.1.s.length<=1048576)) (fun x:Str×Unit=>Zx x.1):=dq d0a (tq Tryz.func94 Q8 (tq Tryz.func95 JM (tq Tryz.func96 Kl (tq Tryz.func72 VN (tq Tryz.func97 H5 (tq Tryz.func98 QP (tq Tryz.func89 VP (tq Tryz.func99 d6f Zd)))))))) Tryz.func66
theorem Ay:ZP Tryz.prog 48 (fun _:Str×Unit=>true) (fun x:Str×Unit=>ZR x.1):=dq d0p (tq Tryz.func64 ND (tq Tryz.func65 b5h (tq Tryz.func66 Ps Zd))) Tryz.func48
theorem d4x:Xm Tryz.prog 124 Mg PR:=Je (T:=Ew) (ic:=Np) (rs:=Pe) Zd Qf Tryz.func124 (by kernel_rfl) (by kernel_rfl) (by kernel_rfl) fun ps h=>a2q (b3w ps h)
theorem Nb:ZP Tryz.prog 101 (fun _:Str×Bool×Unit=>true) (fun x:Str×Bool×Unit=>Wy x.1 x.2.1):=dq b7b (tq Tryz.func124 d4x Zd) Tryz.func101
theorem Xb: Ya Tryz.prog 38 Zq Yg [] [] (fun(s:PS) (a:Int×Unit)=>Zc s&&(decide (0<=a.1)&&decide (a.1<=1000))) Vo:=Cr (d1o) ZO Zd Tryz.func38
theorem UE: Ya Tryz.prog 50 Zq Yg [] [] (fun(s:PS) (_:Unit)=>Zc s) QB:=Cr (c5d) ZO (tq Tryz.func38 Xb Zd) Tryz.func50
theorem VE: Ya Tryz.prog 37 Zq Yg [] [] (fun(s:PS) (_:Str×Unit)=>Zc s) V7:=Cr (c9z) ZO (tq Tryz.func38 Xb Zd) Tryz.func37
theorem XO: Ya Tryz.prog 35 Zq Yg [] [] (fun(s:PS) (_:Str×Unit)=>Zc s) Ud:=Cr (c7d) ZO (tq Tryz.func37 VE Zd) Tryz.func35
theorem QR: Ya Tryz.prog 33 Zq Yg [] [] (fun(s:PS) (_:Str×Unit)=>Zc s) JA:=Cr (c7l) ZO (tq Tryz.func35 XO (tq Tryz.func50 UE Zd)) Tryz.func33
theorem J7: Ya Tryz.prog 34 Zq Yg [] [] (fun(s:PS) (_:Unit)=>Zc s) JE:=Cr (c9e) ZO (tq Tryz.func38 Xb (tq Tryz.func50 UE Zd)) Tryz.func34
theorem Ws: Ya Tryz.prog 100 Zq Yg [] [] (fun(s:PS) (_:Int×Unit)=>Zc s) GU:=Cr (c9p) ZO (tq Tryz.func38 Xb (tq Tryz.func98 QP (tq Tryz.func50 UE Zd))) Tryz.func100
theorem Si: Ya Tryz.prog 111 Zq Yg [] [] (fun(s:PS) (_:Lin×Int×Unit)=>Zc s) AZ:=Cr (d0i) ZO Zd Tryz.func111
theorem OL: Ya Tryz.prog 110 Zq Yg [] [] (fun(s:PS) (_:Unit)=>Zc s) TC:=Cr (c6l) ZO (tq Tryz.func38 Xb (tq Tryz.func34 J7 (tq Tryz.func137 O4 (tq Tryz.func100 Ws (tq Tryz.func111 Si (tq Tryz.func112 DF (tq Tryz.func138 b0c Zd))))))) Tryz.func110
theorem H7: Ya Tryz.prog 79 Zq Yg [] [] (fun(s:PS) (_:Unit)=>Zc s) FB:=Cr (d1g) ZO (tq Tryz.func35 XO (tq Tryz.func110 OL (tq Tryz.func111 Si (tq Tryz.func112 DF (tq Tryz.func113 TZ (tq Tryz.func114 TM (tq Tryz.func105 QN Zd))))))) Tryz.func79
theorem LU: Ya Tryz.prog 78 (mkL 79) SG [] [] (fun(s:PS) (_:Unit)=>Zc s) (WK PS.linear):=Cr (c4t) (Mi _) (tq Tryz.func79 H7 (tq Tryz.func35 XO Zd)) Tryz.func78
theorem KY: Ya Tryz.prog 127 Zq Yg [] [] (fun(s:PS) (_:Unit)=>Zc s) BJ:=Cr (d0v) ZO (tq Tryz.func34 J7 (tq Tryz.func35 XO Zd)) Tryz.func127
theorem AU: Ya Tryz.prog 69 Zq Yg [] [] (fun(s:PS) (_:Unit)=>Zc s) Ak:=Cr (c6y) ZO (tq Tryz.func38 Xb (tq Tryz.func101 Nb Zd)) Tryz.func69
theorem Mc: Ya Tryz.prog 153 a9w SG [.box [.ptr 1 0]] [] (fun(s:PS) (_:Unit)=>Zc s) TB:=Cr (c6e) a3e (tq Tryz.func100 Ws Zd) Tryz.func153
theorem FM: Ya Tryz.prog 152 (a9k 153) SG [] [.box [.ptr 0 0]] (fun(s:PS) (_:Unit)=>Zc s) (WK PS.numM):=Cr (c8b) (a5h _) (tq Tryz.func153 Mc (tq Tryz.func35 XO Zd)) Tryz.func152
theorem Bn: Ya Tryz.prog 128 Zq Yg [] [] (fun(s:PS) (_:Unit)=>Zc s) a7v:=Cr (c8d) ZO (tq Tryz.func38 Xb (tq Tryz.func33 QR (tq Tryz.func100 Ws (tq Tryz.func37 VE (tq Tryz.func35 XO Zd))))) Tryz.func128
theorem b0b{N:Nat}(e:Ya Tryz.prog 26 Zq Yg [] [] (fun(s:PS) (_:Unit)=>Zc s&&decide (s.l.length - s.i<N)) (Kk N)):Ya Tryz.prog 126 (mkL 26) SG [] [] (fun(s:PS) (_:Unit)=>Zc s&&decide (s.l.length - s.i<N)) (WK (Zw N)):=Cr (c8v N) (Mi _) (tq Tryz.func26 e (tq Tryz.func35 XO Zd)) Tryz.func126
theorem b0t{N:Nat}(e:Ya Tryz.prog 126 (mkL 26) SG [] [] (fun(s:PS) (_:Unit)=>Zc s&&decide (s.l.length - s.i<N)) (WK (Zw N))):Ya Tryz.prog 125 Zq Yg [] [] (fun(s:PS) (_:Unit)=>Zc s&&decide (s.l.length - s.i<N+1)) (UG N):=Cr ((b1y N)) ZO (tq Tryz.func38 Xb (tq Tryz.func127 KY (tq Tryz.func109 U5 (tq Tryz.func37 VE (tq Tryz.func35 XO (tq Tryz.func78 LU (tq Tryz.func33 QR (tq Tryz.func100 Ws (tq Tryz.func152 FM (tq Tryz.func126 e Zd)))))))))) Tryz.func125
theorem a6x{N:Nat}(g:Ya Tryz.prog 26 Zq Yg [] [] (fun(s:PS) (_:Unit)=>Zc s&&decide (s.l.length - s.i<N)) (Kk N))(e:Ya Tryz.prog 126 (mkL 26) SG [] [] (fun(s:PS) (_:Unit)=>Zc s&&decide (s.l.length - s.i<N)) (WK (Zw N)))(hn:Ya Tryz.prog 125 Zq Yg [] [] (fun(s:PS) (_:Unit)=>Zc s&&decide (s.l.length - s.i<N+1)) (UG N)):Ya Tryz.prog 102 Zq Yg [] [] (fun(s:PS) (_:Unit)=>Zc s&&decide (s.l.length - s.i<N+1)) (Bl N):=Cr ((c6r N)) ZO (tq Tryz.func38 Xb (tq Tryz.func100 Ws (tq Tryz.func125 hn (tq Tryz.func37 VE (tq Tryz.func35 XO (tq Tryz.func26 g (tq Tryz.func33 QR (tq Tryz.func126 e (tq Tryz.func127 KY (tq Tryz.func79 H7 (tq Tryz.func128 Bn (tq Tryz.func50 UE Zd)))))))))))) Tryz.func102
theorem a9n{N:Nat}(hu:Ya Tryz.prog 68 Zq Yg [] [] (fun(s:PS) (_:Unit)=>Zc s&&decide (s.l.length - s.i<N)) (unF N))(hp:Ya Tryz.prog 102 Zq Yg [] [] (fun(s:PS) (_:Unit)=>Zc s&&decide (s.l.length - s.i<N+1)) (Bl N)):Ya Tryz.prog 68 Zq Yg [] [] (fun(s:PS) (_:Unit)=>Zc s&&decide (s.l.length - s.i<N+1)) (unF (N+1)):=Cr ((c7w N)) ZO (tq Tryz.func38 Xb (tq Tryz.func37 VE (tq Tryz.func100 Ws (tq Tryz.func101 Nb (tq Tryz.func68 hu (tq Tryz.func102 hp Zd)))))) Tryz.func68
theorem BB{N:Nat}(e:Ya Tryz.prog 68 Zq Yg [] [] (fun(s:PS) (_:Unit)=>Zc s&&decide (s.l.length - s.i<N+1)) (unF (N+1))): ∀ m:Nat,Ya Tryz.prog 67 mkB unI [.box [.ptr 2 0],.box [.fn 67 [] [.ptr 0 0,.ptr 1 0]]] [] (fun(s:PS) (a:Int×Unit)=>(Zc s&&decide (s.l.length - s.i<N+1))&&(decide (1<=a.1)&&(decide ((6 - (m:Int))<a.1)&&decide (a.1<=6)))) (Vj (N+1))
 | 0=>Ya.none (fun s a=>by
   rw[Bool.eq_false_iff]
   intro h
   simp only[Bool.and_eq_true,decide_eq_true_eq]at h
   omega)
 | m+1=>by
  have g:=BB e m
  rw[show(6 - ((m+1:Nat):Int))=6 - (m:Int) - 1 by omega]
  exact Cr (c5k N (6 - (m:Int))) P5 (tq Tryz.func68 e (tq Tryz.func67 g (tq Tryz.func69 AU Zd))) Tryz.func67
theorem a7f{N:Nat}(e:Ya Tryz.prog 68 Zq Yg [] [] (fun(s:PS) (_:Unit)=>Zc s&&decide (s.l.length - s.i<N+1)) (unF (N+1))):Ya Tryz.prog 67 mkB unI [.box [.ptr 2 0],.box [.fn 67 [] [.ptr 0 0,.ptr 1 0]]] [] (fun(s:PS) (a:Int×Unit)=>(Zc s&&decide (s.l.length - s.i<N+1))&&(decide (1<=a.1)&&decide (a.1<=6))) (Vj (N+1)):=Ya.weaken P5 (BB e 6) (fun s a h=>by
  simp only[Bool.and_eq_true,decide_eq_true_eq]at h ⊢
  exact⟨h.1,h.2.1,by have:=h.2.1;show(6:Int) - 6<_;omega,h.2.2⟩) (fun _ _ _=>rfl)
theorem a7n{N:Nat}(hb:Ya Tryz.prog 67 mkB unI [.box [.ptr 2 0],.box [.fn 67 [] [.ptr 0 0,.ptr 1 0]]] [] (fun(s:PS) (a:Int×Unit)=>(Zc s&&decide (s.l.length - s.i<N+1))&&(decide (1<=a.1)&&decide (a.1<=6))) (Vj (N+1))):Ya Tryz.prog 49 Zq Yg [] [] (fun(s:PS) (_:Unit)=>Zc s&&decide (s.l.length - s.i<N+1)) (a1o (N+1)):=Cr ((d0n N)) ZO (tq Tryz.func67 hb Zd) Tryz.func49
theorem a7q{N:Nat}(e:Ya Tryz.prog 26 Zq Yg [] [] (fun(s:PS) (_:Unit)=>Zc s&&decide (s.l.length - s.i<N)) (Kk N))(hb:Ya Tryz.prog 49 Zq Yg [] [] (fun(s:PS) (_:Unit)=>Zc s&&decide (s.l.length - s.i<N+1)) (a1o (N+1))):Ya Tryz.prog 26 Zq Yg [] [] (fun(s:PS) (_:Unit)=>Zc s&&decide (s.l.length - s.i<N+1)) (Kk (N+1)):=Cr (d1b N) ZO (tq Tryz.func37 VE (tq Tryz.func49 hb (tq Tryz.func38 Xb (tq Tryz.func34 J7 (tq Tryz.func33 QR (tq Tryz.func26 e Zd)))))) Tryz.func26
theorem a2v: ∀ N:Nat,Ya Tryz.prog 26 Zq Yg [] [] (fun(s:PS) (_:Unit)=>Zc s&&decide (s.l.length - s.i<N)) (Kk N)∧Ya Tryz.prog 68 Zq Yg [] [] (fun(s:PS) (_:Unit)=>Zc s&&decide (s.l.length - s.i<N)) (unF N)
 | 0=>⟨Ya.none (fun s a=>by simp),Ya.none (fun s a=>by simp)⟩
 | N+1=>by
  obtain⟨g,hu⟩:=a2v N
  have h:=b0b g
  have e:=a9n hu (a6x g h (b0t h))
  exact⟨a7q g (a7n (a7f e)),e⟩
theorem EZ:Ya Tryz.prog 26 Zq Yg [] [] (fun(s:PS) (_:Unit)=>Zc s) NK:=Ya.weaken ZO (a2v 4001).1 (fun s a h=>by
  have h0:=(ZI h).1
  rw[h]
  exact decide_eq_true (by omega)) (fun _ _ _=>rfl)
theorem a7h: Ya Tryz.prog 27 Zq Yg [] [] (fun(s:PS) (_:Unit)=>Zc s) Ty:=Cr (c8m) ZO (tq Tryz.func50 UE Zd) Tryz.func27
theorem e5x:Y3 Tryz.prog 25 Dx Me:=Td (T:=a3b) (ic:=Nt) (rs:=Ng) (tq Tryz.func48 Ay Zd) Qf Tryz.func25 (by kernel_rfl) (by kernel_rfl) (by kernel_rfl) c8c
theorem EA:ZP Tryz.prog 11 (fun x:Str×Unit=>decide (x.1.s.length<=1048576)) (fun x:Str×Unit=>Zz x.1):=dq c6i (tq Tryz.func25 e5x (tq Tryz.func26 EZ (tq Tryz.func27 a7h (tq Tryz.func28 Jw Zd)))) Tryz.func11
theorem SH:ZP Tryz.prog 14 (fun x:Tm×Unit=>gW x.1) (fun x:Tm×Unit=>(YB x.1:Int)):=ZP.rec (fun a=>YB a.1) fun N e=>dq (b4y N) (tq Tryz.func14 e Zd) Tryz.func14
theorem a9r:ZP Tryz.prog 29 (fun x:List Int×List Int×Unit=>decide (x.1.length<=1048576)) (fun x:List Int×List Int×Unit=>decide (x.1=x.2.1)):=dq c5s Zd Tryz.func29
theorem a8u:ZP Tryz.prog 30 (fun x:Lin×Lin×Unit=>decide (x.1.t.length<=1048576)) (fun x:Lin×Lin×Unit=>decide (x.1=x.2.1)):=dq c5w Zd Tryz.func30
theorem Gr:ZP Tryz.prog 13 (fun x:Tm×Tm×Unit=>tW x.1&&tW x.2.1) (fun x:Tm×Tm×Unit=>Bh x.1 x.2.1):=ZP.rec (fun a=>YB a.1) fun N e=>dq (c6d N) (tq Tryz.func29 a9r (tq Tryz.func30 a8u (tq Tryz.func13 e Zd))) Tryz.func13
theorem Mh:ZP Tryz.prog 15 (fun x:Tm×Tm×Unit=>tW x.1&&tW x.2.1) (fun x:Tm×Tm×Unit=>L6 x.1 x.2.1):=ZP.rec (fun a=>YB a.1) fun N e=>dq (c4w N) (tq Tryz.func13 Gr (tq Tryz.func15 e Zd)) Tryz.func15
theorem Oo:ZP Tryz.prog 11 (fun x:Str×Unit=>decide (x.1.s.length<=1048576)) (fun x:Str×Unit=>r3S (Zz x.1)):=EA.encEq fun a=>c5v _
noncomputable def ivC(f:Nat):Option (IC×Nat×List IRes):=a8h Tryz.prog f
theorem Po:ZP Tryz.prog 9 (fun _:Unit=>true) (fun _:Unit=>true):=ZP.iv (C:=ivC) (fun _ _ h=>h) (DJ Ay Tryz.func48 (by kernel_rfl) (DJ QP Tryz.func98 (by kernel_rfl) (DJ U5 Tryz.func109 (by kernel_rfl) (DJ Nb Tryz.func101 (by kernel_rfl) (DJ TZ Tryz.func113 (by kernel_rfl) (DJ TM Tryz.func114 (by kernel_rfl) (DJ Hz Tryz.func105 (by kernel_rfl) (DJ Jw Tryz.func28 (by kernel_rfl) Zd)))))))) Qf 50 60 (fun _ _=>⟨.bool true,by kernel_rfl,rfl,rfl⟩)
theorem Ta:ZP Tryz.prog 14 (fun x:Tm×Unit=>tW x.1) (fun x:Tm×Unit=>(YB x.1:Int)):=ZP.weaken SH (fun _ h=>d3p h) (fun _ _=>rfl)
theorem Jr:ZP Tryz.prog 4 (fun _:Str×Unit=>true) (fun _:Str×Unit=>true):=ZP.of (T:=EN) (ic:=Nj) (rs:=Ma) (UA (ent Tryz.func9 (by kernel_rfl) Po) (UA (ent Tryz.func11 (by kernel_rfl) Oo) (UA (ent Tryz.func14 (by kernel_rfl) Ta) (UA (ent Tryz.func15 (by kernel_rfl) Mh) (UA (ent Tryz.func13 (by kernel_rfl) Gr) Zd))))) Qf Tryz.func4 (by kernel_rfl) (by kernel_rfl) (by kernel_rfl) c1t
end Go.Proofs.YtgclceacfcdigaaGreatDoor
