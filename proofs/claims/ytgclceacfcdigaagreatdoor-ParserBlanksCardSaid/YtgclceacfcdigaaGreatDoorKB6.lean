/-
  Texts of mine that belong together (packed by pack.py), for every input: Post, LaidZ, PlGb, OpYa, OpJx, ShV, Sh, ShB, ShN, ShW, Cl, OkYa, OkJk.
-/
import Derived.Test.YtgclceacfcdigaaGreatDoorChecked
import Derived.Test.YtgclceacfcdigaaGreatDoorRows
import Derived.Test.YtgclceacfcdigaaGreatDoorKB2
import Derived.Test.YtgclceacfcdigaaGreatDoorKB3
import Derived.Test.YtgclceacfcdigaaGreatDoorKB4
import Derived.Test.YtgclceacfcdigaaGreatDoorKB5
import Derived.Below
import Derived.ChangeSame
import Derived.Stop.LaidErr
import Derived.Lib.LaidTab
import Derived.Shelf.Vars
import Derived.KernelRfl
import Derived.Shelf.Strings.Cut
import Derived.Shelf.Strings.Count
import Derived.Shelf.Small.Strs
import Derived.Shelf.Strconv.AtoiAll
import Derived.Shelf.Strconv.Itoa3
import Derived.Shelf.Strings.Prefix
import Derived.Shelf.Sort.Plain
import Derived.Shelf.Slices.In.SortNone
import Derived.Shelf.Strings.SlTrimAscii
import Derived.WalkKit
import Derived.Deep.LoopGhost
import Derived.Lib.Walk
import Derived.Lib.SliceRun
set_option linter.unusedVariables false
set_option linter.unusedSimpArgs false
namespace Go.Proofs.YtgclceacfcdigaaGreatDoor
open Go.RowKit Go.WideShapes Go.ChangeShapes
section
section
variable {H:Type} {enc:TypeId×Value->H} {P:Program}
theorem SF{f:Func}{s:ChangeSpec}{apart fresh k y:Bool}{W W':World}{args:Array Value}{v:Value}{ds z:List (DataW H)}{e pa pv:List MemPlace}
  (C:DataW.Whole enc P f.params.toList s.vars apart W args.toList ds z e)
  (q : ∀ (b:Nat) (u:Nat->Bool) (hd:Bool),DataW.TrodAll enc P W' b u hd f.resultTypes.toList (v.resultList f.resultTypes.size) (s.fn H (ds++z)).results [])
  (i : ∀ u:Nat->Bool,(∀ p∈e,u p.block=true)->DataW.TrodAll enc P W' 0 u true f.params.toList args.toList (s.fn H (ds++z)).args pa)
  (h : ∀ u:Nat->Bool,(∀ p∈e,u p.block=true)->DataW.TrodVars enc P W' u s.vars (s.fn H (ds++z)).vars pv)
  (hps:e=pa++pv) (hb:Below W.heap.size W W')
  (D : ∀ (j:Nat) (t:TypeId) (r:Value),f.resultTypes[j]? = some t->(v.resultList f.resultTypes.size)[j]? = some r->Value.okWide P W' .any 0 t r) :
  s.post enc P f apart fresh k y W args v W':=by
 have A : ∀ p∈e,p.block<W.heap.size:=fun p g=>C.lt p g
 have l : ∀ p∈e,(fun b=>decide (b<W.heap.size)) p.block=true:=fun p g=>by simpa using A p g
 refine⟨ds,z,e,[],pa,pv,C,q _ _ _,i _ l,h _ l,World.keptBut_mono (fun p g=>⟨g,?_⟩) (hb.frame (· ∈ e)),fun _=> ?_⟩
 ·rw[hps,List.mem_append]at g
  exact Or.inr g
 ·obtain⟨_,_,_,_,_,E,hn⟩:=C
  refine⟨D,_,_,([]++pa)++pv,⟨[]++pa,pv,trodAll_append (i _ (fun _ _=>rfl)) (q _ _ _),h _ (fun _ _=>rfl),rfl,?_,?_⟩,?_⟩
  ·intro b off g
   have B:MemPlace.cell b off∈e:=by rw[hps];simpa using g
   rw[hb.frozen (A _ B)]
   exact E b off B
  ·intro ha
   have:=hn ha
   rw[hps]at this
   simpa using this
  ·intro p g _
   rw[hps]
   simpa using g
end
end
end Go.Proofs.YtgclceacfcdigaaGreatDoor
namespace Go.Proofs.YtgclceacfcdigaaGreatDoor
open Go.Pl Go.RowKit Go.ChangeShapes
set_option maxRecDepth 100000
theorem a4e{P:Program}{W:World}{n:String}{g:Nat}{cs:Array Value}(e:P.globalNamed n=some g)(h:W.var? P n=some cs):Cz W g=some cs:=by
 unfold World.var? at h
 rw[e]at h
 simp only[Option.bind_some]at h
 unfold Cz
 exact h
theorem d3e:Tryz.prog.globalNamed "internal/strconv.uint64pow10" = some 5:=by kernel_rfl
theorem e3e:Tryz.prog.globalNamed "strconv.ErrRange" = some 2:=by kernel_rfl
theorem e7j:Tryz.prog.globalNamed "strconv.ErrSyntax" = some 1:=by kernel_rfl
theorem a8r:Tryz.prog.underlying 141=some (.interface ((match Tryz.prog.underlying 141 with|some (.interface ms)=>ms|_=>#[]))):=by kernel_rfl
theorem d9y{W:World}{r:List (String×DataW Unit)}(h:laidMet Tryz.prog (("internal/strconv.uint64pow10",Rows.laid_internal_strconv_uint64pow10)::r) W):Cz W 5=some Bo:=by
 have h1:Lib.TabIs Tryz.prog W "internal/strconv.uint64pow10" .u64 ((List.range 20).map fun i=>((10 ^ i:Nat):Int)):=Lib.tabIs_of_head (e:=198) (t:=232) d3e (by kernel_rfl) (n:=20) (by kernel_rfl) (by kernel_rfl) (by kernel_rfl) (by kernel_rfl) h
 exact(a4e d3e h1).trans rfl
theorem c1q{W:World}{n:String}{g:Nat}{text:List UInt8}{r:List (String×DataW Unit)}(hg:Tryz.prog.globalNamed n=some g)(ht:(Tryz.prog.globals[g]?).map (·.type)=some 141)(h:laidMet Tryz.prog ((n,.iface "*errors.errorString" (.ptr (.agg [.lit (.string text)])))::r) W): ∃ cs,Cz W g=some cs∧AL cs:=by
 obtain⟨ps,⟨g0,t0,cs0,f0,p0,q0,hg0,ht0,hv0,hd0,_,e0⟩,_,hrows⟩:=h
 obtain rfl:=Option.some.inj (hg.symm.trans hg0)
 obtain rfl:=Option.some.inj (ht.symm.trans ht0)
 subst e0
 refine⟨cs0,a4e hg hv0,?_⟩
 obtain⟨f1,u,v,e,_⟩:=iface_of_trod a8r hd0
 obtain⟨l0⟩:=cs0
 have e:l0=[.iface u v]:=e
 subst e
 exact⟨_,rfl,.inr ⟨u,v,rfl⟩⟩
theorem e2n{W:World}(h:W.ShapedOpen Tryz.prog): ∃ cs m,Cz W 0=some cs∧cs[0]? = some (Value.int .i64 m):=by
 obtain⟨m,hm⟩:=cell_of_shapedOpen_int (g:=0) (t:=3) (zero:=#[.int .i64 0]) (k:=.i64) h (of_decide_eq_true (by kernel_rfl)) (by kernel_rfl) rfl (by kernel_rfl) (by kernel_rfl) (by kernel_rfl)
 unfold World.cell? at hm
 unfold Cz
 split at hm
 ·rename_i cs T fz e
  exact⟨cs,m,by simp only[e],by simpa using hm⟩
 ·cases hm
theorem c5v{W:World}{x y z:String×DataW Unit}{r:List (String×DataW Unit)}(h:laidMet Tryz.prog (x::y::("internal/strconv.uint64pow10",Rows.laid_internal_strconv_uint64pow10)::z::("strconv.ErrRange",Rows.laid_strconv_ErrRange)::("strconv.ErrSyntax",Rows.laid_strconv_ErrSyntax)::r) W)(hs:W.ShapedOpen Tryz.prog):GlobOK (Cz W):=
 ⟨c1q e7j (by kernel_rfl) h.tail.tail.tail.tail.tail,c1q e3e (by kernel_rfl) h.tail.tail.tail.tail,d9y h.tail.tail,e2n hs⟩
noncomputable def e3f:DataW Unit->Value
 | .lit (.int k n)=>.int k n
 | _=>.int .i64 0
noncomputable def BN:DataW Unit->Array Value
 | .agg ds=>(ds.flatMap fun | .agg es=>es.map e3f|d=>[e3f d]).toArray
 | _=>#[]
noncomputable def b3b:DataW Unit->ByteArray
 | .iface _ (.ptr (.agg [.lit (.string bs)]))=>⟨bs.toArray⟩
 | _=>⟨#[]⟩
noncomputable def low:Nat:=(World.holding Tryz.prog default ⟨#[],#[],[]⟩).heap.size
noncomputable def Ed(cs:Array Value):Obj->Obj
 | .cells _ t frozen=>.cells cs t frozen
 | o=>o
noncomputable def G5(os:Os):World:=
 let w0:=World.holding Tryz.prog os ⟨#[.cells #[.string (b3b Rows.laid_strconv_ErrRange)] 212,.cells #[.string (b3b Rows.laid_strconv_ErrSyntax)] 212],#[],[]⟩
 {w0 with heap:=((((((w0.heap.modify 2 (Ed #[.iface 210 (.pointer (some ⟨low,0,none⟩))])).modify 1 (Ed #[.iface 210 (.pointer (some ⟨low+1,0,none⟩))])).modify 5 (Ed (BN Rows.laid_internal_strconv_uint64pow10))).modify 6 (Ed (BN Rows.laid_math_bits_deBruijn32tab))).modify 7 (Ed (BN Rows.laid_math_bits_deBruijn64tab))).modify 4 (Ed (BN Rows.laid_unicode_utf8_acceptRanges))).modify 3 (Ed (BN Rows.laid_unicode_utf8_first))}
end Go.Proofs.YtgclceacfcdigaaGreatDoor
namespace Go.Pl
open Go.RowKit Go.WideShapes Go.ChangeShapes
section
abbrev uB{H:Type}(d:DataW H):Nat:=Go.Proofs.YtgclceacfcdigaaGreatDoor.Rows.uptoBulk d
abbrev uBs{H:Type}(l:List (DataW H)):Nat:=Go.Proofs.YtgclceacfcdigaaGreatDoor.Rows.uptoBulkAll l
theorem Lx{H:Type}(d:DataW H)(l:List (DataW H)):uBs (d::l)=uB d+uBs l:=by unfold uBs uB;rw[Go.Proofs.YtgclceacfcdigaaGreatDoor.Rows.uptoBulkAll]
theorem O0{H:Type}(d:DataW H):1<=uB d:=by
 cases d with
 | lit l=>cases l <;> simp[uB,Go.Proofs.YtgclceacfcdigaaGreatDoor.Rows.uptoBulk]
 | _=>simp[uB,Go.Proofs.YtgclceacfcdigaaGreatDoor.Rows.uptoBulk]
mutual
def pvW:PV->Nat
 | .str s=>s.length+1
 | .sl _ _ xs=>WH xs+1
 | .agg xs=>WH xs
 | _=>1
def WH:List PV->Nat
 | []=>0
 | p::ps=>pvW p+WH ps
end
theorem b2l(a b:List PV):WH (a++b)=WH a+WH b:=by
 induction a with
 | nil=>simp[WH]
 | cons x a ih=>rw[List.cons_append,WH,ih,WH];omega
theorem e7p{P:Program}{e:TypeId}{q:List PV}(g:Xw P e=true∨P.cellsOf e=1)(h:q.length=P.cellsOf e):pvW (DJ P e q)<=WH q:=by
 cases ha:Xw P e with
 | true=>simp only[DJ,ha];rw[pvW];exact Nat.le_refl _
 | false=>
  have h1:P.cellsOf e=1:=by simpa [ha]using g
  rw[h1]at h
  match q,h with
  | [x],_=>simp only[DJ,ha,List.headD_cons];rw[WH,WH];exact Nat.le_refl _
theorem a3e{H:Type}{f:List PV->PV}: ∀ {qs:List (List PV)} {xs:List (DataW H×List MemPlace)},qs.length=xs.length->(∀ (i:Nat) (q:List PV) (x:DataW H×List MemPlace),qs[i]? = some q->xs[i]? = some x->pvW (f q)<=uB x.1)->WH (qs.map f)<=uBs (xs.map (·.1))
 | [],[],_,_=>by simp[WH]
 | q::qs,x::xs,hl,h=>by
  have h0:=h 0 q x rfl rfl
  have h1:=a3e (qs:=qs) (xs:=xs) (by simpa using hl) fun i q x g e=>h (i+1) q x (by simpa using g) (by simpa using e)
  rw[List.map_cons,WH,List.map_cons,Lx]
  omega
 | [],_::_,hl,_=>by cases hl
 | _::_,[],hl,_=>by cases hl
def c2i(P:Program)(S:List TypeId):Bool:=S.all fun t=>match P.underlying t with|some (.array _ _)=>false|_=>true
section
variable {H:Type} {enc:TypeId×Value->H} {P:Program} {w:World} {base:Nat} {sp:Nat->Bool} {held:Bool} {S:List TypeId}
theorem RV{n:Nat}{cs:List Value}(q : ∀ (t:TypeId) (cs:List Value) (x:DataW H×List MemPlace),t∈S->DataW.trod enc P w base sp held n t cs=some x-> ∃ ps,Cl w cs ps∧Qa P n t ps∧WH ps<=uB x.1):
  ∀ (i:List Field) (o N:Nat) (xs:List (DataW H×List MemPlace)),Q9 P o i N=true->(∀ f∈i,f.type∈S)->cs.length=N->o<=N ->
   i.mapM (fun f=>DataW.trod enc P w base sp held n f.type ((cs.drop f.offset).take (P.cellsOf f.type)))=some xs ->
   ∃ ps,Cl w (cs.drop o) ps∧WH ps<=uBs (xs.map (·.1))∧ ∀ qs:List PV,qs.length=o->(∀ f∈i,Qa P n f.type (((qs++ps).drop f.offset).take (P.cellsOf f.type))):=by
 intro i
 induction i with
 | nil=>
  intro o N xs hc _ A ho _
  simp[Q9]at hc
  refine⟨[],?_,by simp[WH],fun qs _ f C=>by simp at C⟩
  rw[List.drop_of_length_le (by omega)]
  exact Cl.nil
 | cons f i ihf=>
  intro o N xs hc hm A ho h
  simp only[Q9,Bool.and_eq_true,beq_iff_eq]at hc
  obtain⟨j,hc⟩:=hc
  simp only[List.mapM_cons,Option.bind_eq_bind,Option.bind_eq_some_iff]at h
  obtain⟨x,I,y,u,e⟩:=h
  cases e
  obtain⟨s,B,J,w1⟩:=q _ _ x (hm f List.mem_cons_self) I
  have r:o+P.cellsOf f.type<=N:=by
   have : ∀ (i:List Field) (a:Nat),Q9 P a i N=true->a<=N:=by
    intro i
    induction i with
    | nil=>intro a h;simp[Q9]at h;omega
    | cons g i q=>intro a h;simp only[Q9,Bool.and_eq_true]at h;have:=q _ h.2;omega
   exact this _ _ hc
  obtain⟨D,F,w2,E⟩:=ihf (o+P.cellsOf f.type) N y hc (fun g k=>hm g (List.mem_cons_of_mem _ k)) A r u
  have l:s.length=P.cellsOf f.type:=by
   rw[<- B.1.1,List.length_take,List.length_drop,j]
   omega
  refine⟨s++D,?_,by rw[b2l,List.map_cons,Lx];omega,fun qs z g k=> ?_⟩
  ·have:=B.append F
   rw[j]at this
   have e:cs.drop o=(cs.drop o).take (P.cellsOf f.type)++cs.drop (o+P.cellsOf f.type):=by rw[<- List.drop_drop,List.take_append_drop]
   rw[e]
   exact this
  ·rcases List.mem_cons.1 k with rfl|k
   ·rw[j,<- z,List.drop_left,<- l,List.take_left]
    exact J
   ·have:=E (qs++s) (by simp[z,l]) g k
    rwa [List.append_assoc]at this
theorem FE{n:Nat}{e:TypeId}{a:Addr}{len cap:Nat}{xs:List (DataW H×List MemPlace)}(I:0<P.cellsOf e)(C:Xw P e=true∨P.cellsOf e=1)(J:len<=cap)(hmax:cap<=maxLen)
  (X : ∀ (cs:List Value) (x:DataW H×List MemPlace),DataW.trod enc P w base sp held n e cs=some x-> ∃ ps,Cl w cs ps∧Qa P n e ps∧WH ps<=uB x.1)
  (h:(List.range len).mapM (fun i=>(w.cells? base (a.add (i*P.cellsOf e)) (P.cellsOf e)).bind (DataW.trod enc P w base sp held n e))=some xs) :
  ∃ qs:List (List PV),RP (Cz w) (.slice (some a) len cap) (.sl (P.cellsOf e) false (qs.map (DJ P e)))∧qs.length<=maxLen∧(∀ q∈qs,q.length=P.cellsOf e∧Qa P n e q)∧WH (qs.map (DJ P e))<=uBs (xs.map (·.1)):=by
 obtain⟨T,hg⟩:=MS h
 rw[List.length_range]at T
 have N : ∀ i,i<len-> ∃ q:List PV,(q.length=P.cellsOf e∧Qa P n e q∧ ∃ x,xs[i]? = some x∧WH q<=uB x.1)∧ ∀ (r:Nat) p,q[r]? = some p-> ∃ v,w.cell? (a.add (i*P.cellsOf e+r))=some v∧v.oneCell'=true∧RP (Cz w) v p:=by
  intro i hi
  have B:=List.getElem?_eq_getElem (show i<xs.length by omega)
  have:=hg i i _ (by simp[hi]) B
  rw[Option.bind_eq_some_iff]at this
  obtain⟨cs,h1,h2⟩:=this
  obtain⟨q,L,k2,Y⟩:=X cs _ h2
  obtain⟨c1,c2⟩:=a7z h1
  refine⟨q,⟨by rw[<- L.1.1,c1],k2,_,B,Y⟩,fun r p l=> ?_⟩
  have hr:r<cs.length:=by rw[L.1.1];exact(List.getElem?_eq_some_iff.1 l).1
  have z:=List.getElem?_eq_getElem hr
  refine⟨_,?_,L.2 _ (List.getElem_mem hr),L.1.2 r _ p z l⟩
  rw[<- b1f]
  exact c2 r _ z
 obtain⟨qs,s,k⟩:=F7 len N
 have g : ∀ q∈qs,(DJ P e q).cells=q:=by
  intro q u
  obtain⟨i,hi,rfl⟩:=List.getElem_of_mem u
  have:=(k i _ (List.getElem?_eq_getElem hi)).1
  exact b0t C this.1 fun ha=>c3z this.2.1 ha
 refine⟨qs,?_,by omega,fun q u=> ?_,?_⟩
 ·by_cases h0:len=0
  ·subst h0
   have:qs=[]:=List.length_eq_zero_iff.1 s
   subst this
   exact .sl0 _ _ _ _ fun e=>by cases e
  ·-- the first cell tells the block
   obtain⟨b,off,cs,rfl,hb,-⟩ : ∃ b off cs,a=⟨b,off,none⟩∧Cz w b=some cs∧True:=by
    have M:=List.getElem?_eq_getElem (show 0<qs.length by omega)
    obtain⟨⟨f1,f2,-⟩,f3⟩:=k 0 _ M
    have l:=List.getElem?_eq_getElem (show 0<(qs[0]'(by omega)).length by omega)
    obtain⟨v,z,_⟩:=f3 0 _ l
    simp[Addr.add]at z
    obtain⟨b,off,cs,Q,K,_⟩:=T9 z
    exact⟨b,off,cs,Q,K,trivial⟩
   have hs : ∀ x∈qs.map (DJ P e),x.cells.length=P.cellsOf e:=by
    intro x B
    obtain⟨q,u,rfl⟩:=List.mem_map.1 B
    rw[g q u]
    obtain⟨i,hi,rfl⟩:=List.getElem_of_mem u
    exact(k i _ (List.getElem?_eq_getElem hi)).1.1
   have D : ∀ (j:Nat) p,(flat (qs.map (DJ P e)))[j]? = some p-> ∃ v,cs[off+j]? = some v∧v.oneCell'=true∧RP (Cz w) v p:=by
    intro j p l
    have Z:j<len*P.cellsOf e:=by
     have:=(List.getElem?_eq_some_iff.1 l).1
     rw[Wt hs]at this
     simpa [s]using this
    have hi:j / P.cellsOf e<qs.length:=by rw[s];exact(Nat.div_lt_iff_lt_mul I).2 Z
    have hr:j % P.cellsOf e<P.cellsOf e:=Nat.mod_lt _ I
    have E:=List.getElem?_eq_getElem hi
    have V:j=j / P.cellsOf e*P.cellsOf e+j % P.cellsOf e:=by rw[Nat.mul_comm];exact(Nat.div_add_mod _ _).symm
    have O:(qs.map (DJ P e))[j / P.cellsOf e]? = some (DJ P e qs[j / P.cellsOf e]):=by rw[List.getElem?_map,E];rfl
    have F:=LQ hs O hr
    rw[<- V,g _ (List.getElem_mem hi)]at F
    rw[F]at l
    obtain⟨v,z,h1,h2⟩:=(k _ _ E).2 _ p l
    rw[<- V,X5]at z
    obtain⟨b',off',cs',Q,K,W⟩:=T9 z
    cases Q
    rw[hb]at K
    cases K
    exact⟨v,W,h1,h2⟩
   have A:len=(qs.map (DJ P e)).length:=by simp[s]
   rw[A]
   refine .sl b off cs cap _ false _ (fun j=>(cs[off+j]?).getD default) hb (by rw[<- A];exact J) (fun e=>by cases e) hs (fun j p l=> ?_) (fun j p l=> ?_)
   ·obtain⟨v,h1,h2,h3⟩:=D j p l
    rw[h1]
    exact⟨rfl,h2⟩
   ·obtain⟨v,h1,h2,h3⟩:=D j p l
    rw[h1]
    exact h3
 ·obtain⟨i,hi,rfl⟩:=List.getElem_of_mem u
  have:=(k i _ (List.getElem?_eq_getElem hi)).1
  exact⟨this.1,this.2.1⟩
 ·refine a3e (by rw[s,T]) fun i q x u B=> ?_
  have:=(k i q u).1
  obtain⟨y,U,hw⟩:=this.2.2
  rw[B]at U
  cases U
  have hm:=e7p (P:=P) (e:=e) (q:=q) C this.1
  omega
theorem O1(A:Pz P S=true)(y:c2i P S=true): ∀ (n:Nat) (t:TypeId) (cs:List Value) (x:DataW H×List MemPlace),t∈S->DataW.trod enc P w base sp held n t cs=some x-> ∃ ps,Cl w cs ps∧Qa P n t ps∧WH ps<=uB x.1:=by
  intro n
  induction n with
  | zero=>intro t cs x _ h;simp[DataW.trod]at h
  | succ n ih=>
    intro t cs x ht h
    have g:=Rz A ht
    have i:=List.all_eq_true.1 y t ht
    unfold DataW.trod at h
    unfold Qa
    split at h <;> (try rename_i hu) <;> (try simp only[hu]at g i ⊢) <;> try (cases g;done)
    all_goals first
      | (exact⟨_,Cl.one (.bool _) rfl,⟨_,rfl⟩,O0 _⟩)
      | (split at h
         · rename_i hc
           obtain⟨rfl,C⟩:=hc
           exact⟨_,Cl.one (.int _ _) rfl,⟨_,rfl,C⟩,O0 _⟩
         · cases h)
      | (split at h
         · rename_i hc
           cases h
           refine⟨_,Cl.one (.str _) rfl,⟨_,rfl,hc⟩,?_⟩
           show WH [PV.str _]<=Go.Proofs.YtgclceacfcdigaaGreatDoor.Rows.uptoBulk (DataW.lit (.string _))
           rw[Go.Proofs.YtgclceacfcdigaaGreatDoor.Rows.uptoBulk,WH,WH,pvW]
           omega
         · cases h)
      | (cases h;done)
      | (cases i;done)
      | skip
    · exact⟨_,Cl.one (.sl0 _ _ _ false (fun e=>by cases e)) rfl,⟨[],rfl,by simp,fun q u=>by simp at u⟩,O0 _⟩
    · rename_i e a len cap
      simp only[Bool.and_eq_true,Bool.or_eq_true,beq_iff_eq,decide_eq_true_eq]at g
      simp only at h
      split at h
      · rename_i hc
        obtain⟨xs,h1,h3⟩:=Option.bind_eq_some_iff.1 h
        obtain⟨ys,h4,rfl⟩:=Option.map_eq_some_iff.1 h3
        obtain⟨qs,j,l,r,z⟩:=FE g.1.2 g.2 hc.2.1 hc.2.2 (fun cs x s=>ih e cs x (by simpa using g.1.1.2) s) h1
        refine⟨_,Cl.one j rfl,⟨qs,rfl,l,r⟩,?_⟩
        show WH [PV.sl _ false (qs.map (DJ P e))]<=Go.Proofs.YtgclceacfcdigaaGreatDoor.Rows.uptoBulk (DataW.slice (xs.map (·.1)) (ys.map (·.1)))
        rw[Go.Proofs.YtgclceacfcdigaaGreatDoor.Rows.uptoBulk,WH,WH,pvW]
        have:WH (qs.map (DJ P e))<=Go.Proofs.YtgclceacfcdigaaGreatDoor.Rows.uptoBulkAll (xs.map (·.1)):=z
        omega
      · cases h
    · rename_i cs2 B
      simp only[Bool.and_eq_true]at g
      split at h
      · rename_i hc
        rw[Option.map_eq_some_iff]at h
        obtain⟨xs,h1,rfl⟩:=h
        obtain⟨ps,j,r,l⟩:=RV ih B.toList 0 (P.cellsOf t) xs g.1 (fun f k=>by simpa using List.all_eq_true.1 g.2 f k) hc (Nat.zero_le _) h1
        rw[List.drop_zero]at j
        refine⟨ps,j,⟨by rw[<- j.1.1,hc],fun f k=>by simpa using l [] rfl f k⟩,?_⟩
        show WH ps<=Go.Proofs.YtgclceacfcdigaaGreatDoor.Rows.uptoBulk (DataW.agg (xs.map (·.1)))
        rw[Go.Proofs.YtgclceacfcdigaaGreatDoor.Rows.uptoBulk]
        have:WH ps<=Go.Proofs.YtgclceacfcdigaaGreatDoor.Rows.uptoBulkAll (xs.map (·.1)):=r
        omega
      · cases h
theorem Tc(u:Pz P S=true)(B:c2i P S=true){t:TypeId}(ht:t∈S){r:Reach}{b0:Nat}{v:Value}{d:DataW H}{p:List MemPlace}(e:Value.okWide P w r b0 t v)(h:DataW.Trod enc P w base sp held t v d p):
  ∃ n q,RP (Cz w) v (DJ P t q)∧Qa P n t q∧WH q<=uB d:=by
 obtain⟨n,h⟩:=h
 obtain⟨q,i,C,D⟩:=O1 u B n t _ _ ht h
 refine⟨n,q,?_,C,D⟩
 have s:=Rz u ht
 have g:v.cells = #[v]->Xw P t=false->RP (Cz w) v (DJ P t q):=by
  intro hc ha
  rw[hc]at i
  have z:=i.1.1
  match q,z with
  | [x],_=>simp only[DJ,ha,List.headD_cons];exact i.1.2 0 v x rfl rfl
 have agg : ∀ cs,v = .agg cs->Xw P t=true->RP (Cz w) v (DJ P t q):=by
  rintro cs rfl ha
  simp only[DJ,ha]
  exact .agg cs q (by have:=i.1.1;simpa [Value.cells]using this) (fun x k=>i.2 x (by simpa [Value.cells]using k)) fun j x y k A=>i.1.2 j x y (by simpa [Value.cells]using k) A
 split at s
 ·rename_i hu
  obtain⟨b,rfl⟩:=okWide_bool hu e
  exact g rfl (by simp[Xw,hu])
 ·rename_i hu
  obtain⟨b,rfl⟩:=okWide_int hu e
  exact g rfl (by simp[Xw,hu])
 ·rename_i hu
  obtain⟨b,rfl⟩:=okWide_string hu e
  exact g rfl (by simp[Xw,hu])
 ·rename_i hu
  obtain⟨a,l,c,rfl⟩:=okWide_slice hu e
  exact g rfl (by simp[Xw,hu])
 ·rename_i hu
  simp only[Value.okWide,hu]at e
  obtain⟨cs,rfl,_⟩:=e
  exact agg cs rfl (by simp[Xw,hu])
 ·rename_i hu
  simp only[Value.okWide,hu]at e
  obtain⟨cs,rfl,_⟩:=e
  exact agg cs rfl (by simp[Xw,hu])
 ·cases s
end
end
end Go.Pl
namespace Go.Proofs.YtgclceacfcdigaaGreatDoor
open Go.Pl
section
set_option maxRecDepth 100000
open Enc (enc dec is)
open EncL (encL decL isL)
theorem c6p:Tryz.prog.underlying 9=some .string:=by kernel_rfl
theorem d9b:Xw Tryz.prog 9=false:=by kernel_rfl
theorem c0o{n:Nat}{q:List PV}(h:Qa Tryz.prog n 9 q): ∃ s:Str,DJ Tryz.prog 9 q=enc s:=by
 obtain⟨s,e,_⟩:=c2h c6p h
 exact⟨⟨s⟩,by rw[e,DJ,d9b];rfl⟩
end
section
set_option maxRecDepth 100000
open Enc (enc dec is)
open EncL (encL decL isL)
theorem c6e:Tryz.prog.underlying 5=some (.int .u8):=by kernel_rfl
theorem e4v:Xw Tryz.prog 5=false:=by kernel_rfl
theorem d6w{n:Nat}{q:List PV}(h:Qa Tryz.prog n 5 q): ∃ c:UInt8,DJ Tryz.prog 5 q=enc c:=by
 obtain⟨m,rfl,hm⟩:=b3l c6e h
 have h0:0<=m∧m<=255:=by
  have:=hm
  simp only[Lit.wf,Bool.and_eq_true,decide_eq_true_eq,show IntKind.u8.min=0 by decide,show IntKind.u8.max=255 by decide]at this
  exact this
 refine⟨UInt8.ofNat m.toNat,?_⟩
 rw[DJ,e4v]
 show PV.int .u8 m=PV.int .u8 ((UInt8.ofNat m.toNat).toNat:Int)
 rw[UInt8.toNat_ofNat']
 congr 1
 omega
theorem c8l{n0 h:Nat}{g e:List PV}(j:Qa Tryz.prog n0 9 g)(h1:Qa Tryz.prog h 5 e):
  preT (fun _:Str×UInt8×Unit=>true) [DJ Tryz.prog 9 g,DJ Tryz.prog 5 e]=true:=by
 obtain⟨a,k⟩:=c0o j
 obtain⟨b,i⟩:=d6w h1
 rw[k,i]
 exact Zl (a,b,()) rfl rfl
end
end Go.Proofs.YtgclceacfcdigaaGreatDoor
namespace Go.Proofs.YtgclceacfcdigaaGreatDoor
open Go.Shelf
def Tryz.lays145_ren:Go.Shelf.Ren:=⟨fun|145=>136|220=>158|219=>122|217=>121|225=>147|224=>148|267=>149|266=>146|314=>168|n=>n,fun|9=>9|4=>4|59=>156|3=>3|5=>5|46=>164|146=>184|51=>183|n=>n,fun|1=>0|n=>n⟩
theorem Tryz.lays145:Go.Proofs.Lays.n145 Tryz.prog Tryz.lays145_ren:={
 mixed:=by kernel_rfl
 f145:=Tryz.func136.trans (congrArg some (by kernel_rfl))
 f217:=Tryz.func121.trans (congrArg some (by kernel_rfl))
 f219:=Tryz.func122.trans (congrArg some (by kernel_rfl))
 f220:=Tryz.func158.trans (congrArg some (by kernel_rfl))
 f224:=Tryz.func148.trans (congrArg some (by kernel_rfl))
 f225:=Tryz.func147.trans (congrArg some (by kernel_rfl))
 f266:=Tryz.func146.trans (congrArg some (by kernel_rfl))
 f267:=Tryz.func149.trans (congrArg some (by kernel_rfl))
 f314:=Tryz.func168.trans (congrArg some (by kernel_rfl))
 t3:=Tryz.underlying3
 a3:=Tryz.isAgg3
 z3:=Tryz.sizeOf3
 v3:=Tryz.zeroValue3
 t4:=Tryz.underlying4
 a4:=Tryz.isAgg4
 z4:=Tryz.sizeOf4
 v4:=Tryz.zeroValue4
 t5:=Tryz.underlying5
 a5:=Tryz.isAgg5
 z5:=Tryz.sizeOf5
 v5:=Tryz.zeroValue5
 t9:=Tryz.underlying9
 a9:=Tryz.isAgg9
 z9:=Tryz.sizeOf9
 v9:=Tryz.zeroValue9
 t46:=Tryz.underlying164
 a46:=Tryz.isAgg164
 z46:=Tryz.sizeOf164
 v46:=Tryz.zeroValue164
 t51:=Tryz.underlying183
 a51:=Tryz.isAgg183
 z51:=Tryz.sizeOf183
 v51:=Tryz.zeroValue183
 t59:=Tryz.underlying156
 a59:=Tryz.isAgg156
 z59:=Tryz.sizeOf156
 v59:=Tryz.zeroValue156
 t146:=Tryz.underlying184
 a146:=Tryz.isAgg184
 z146:=Tryz.sizeOf184
 v146:=Tryz.zeroValue184
 g1:=by kernel_rfl}
def Tryz.lays137_ren:Go.Shelf.Ren:=⟨fun|137=>90|217=>121|266=>146|n=>n,fun|9=>9|5=>5|3=>3|n=>n,fun|n=>n⟩
theorem Tryz.lays137:Go.Proofs.Lays.n137 Tryz.prog Tryz.lays137_ren:={
 mixed:=by kernel_rfl
 f137:=Tryz.func90.trans (congrArg some (by kernel_rfl))
 f217:=Tryz.func121.trans (congrArg some (by kernel_rfl))
 f266:=Tryz.func146.trans (congrArg some (by kernel_rfl))
 t3:=Tryz.underlying3
 a3:=Tryz.isAgg3
 z3:=Tryz.sizeOf3
 v3:=Tryz.zeroValue3
 t5:=Tryz.underlying5
 a5:=Tryz.isAgg5
 z5:=Tryz.sizeOf5
 v5:=Tryz.zeroValue5
 t9:=Tryz.underlying9
 a9:=Tryz.isAgg9
 z9:=Tryz.sizeOf9
 v9:=Tryz.zeroValue9}
def Tryz.lays138_ren:Go.Shelf.Ren:=⟨fun|138=>65|195=>91|218=>92|143=>93|219=>122|217=>121|225=>147|224=>148|267=>149|266=>146|314=>168|n=>n,fun|9=>9|3=>3|4=>4|5=>5|0=>0|46=>164|146=>184|51=>183|n=>n,fun|1=>0|n=>n⟩
theorem Tryz.lays138:Go.Proofs.Lays.n138 Tryz.prog Tryz.lays138_ren:={
 mixed:=by kernel_rfl
 f138:=Tryz.func65.trans (congrArg some (by kernel_rfl))
 f143:=Tryz.func93.trans (congrArg some (by kernel_rfl))
 f195:=Tryz.func91.trans (congrArg some (by kernel_rfl))
 f217:=Tryz.func121.trans (congrArg some (by kernel_rfl))
 f218:=Tryz.func92.trans (congrArg some (by kernel_rfl))
 f219:=Tryz.func122.trans (congrArg some (by kernel_rfl))
 f224:=Tryz.func148.trans (congrArg some (by kernel_rfl))
 f225:=Tryz.func147.trans (congrArg some (by kernel_rfl))
 f266:=Tryz.func146.trans (congrArg some (by kernel_rfl))
 f267:=Tryz.func149.trans (congrArg some (by kernel_rfl))
 f314:=Tryz.func168.trans (congrArg some (by kernel_rfl))
 t0:=Tryz.underlying0
 a0:=Tryz.isAgg0
 z0:=Tryz.sizeOf0
 v0:=Tryz.zeroValue0
 t3:=Tryz.underlying3
 a3:=Tryz.isAgg3
 z3:=Tryz.sizeOf3
 v3:=Tryz.zeroValue3
 t4:=Tryz.underlying4
 a4:=Tryz.isAgg4
 z4:=Tryz.sizeOf4
 v4:=Tryz.zeroValue4
 t5:=Tryz.underlying5
 a5:=Tryz.isAgg5
 z5:=Tryz.sizeOf5
 v5:=Tryz.zeroValue5
 t9:=Tryz.underlying9
 a9:=Tryz.isAgg9
 z9:=Tryz.sizeOf9
 v9:=Tryz.zeroValue9
 t46:=Tryz.underlying164
 a46:=Tryz.isAgg164
 z46:=Tryz.sizeOf164
 v46:=Tryz.zeroValue164
 t51:=Tryz.underlying183
 a51:=Tryz.isAgg183
 z51:=Tryz.sizeOf183
 v51:=Tryz.zeroValue183
 t146:=Tryz.underlying184
 a146:=Tryz.isAgg184
 z146:=Tryz.sizeOf184
 v146:=Tryz.zeroValue184
 g1:=by kernel_rfl}
def Tryz.lays172_ren:Go.Shelf.Ren:=⟨fun|172=>123|244=>150|245=>151|247=>169|279=>170|280=>171|281=>172|282=>173|287=>181|316=>182|171=>154|205=>183|321=>190|322=>191|243=>174|246=>184|283=>192|284=>193|285=>194|286=>195|129=>206|317=>208|318=>209|319=>210|320=>211|337=>218|338=>219|n=>n,fun|9=>9|3=>3|75=>141|76=>142|4=>4|5=>5|167=>186|37=>169|0=>0|85=>187|2=>2|168=>189|53=>198|175=>199|46=>164|210=>202|127=>209|145=>212|143=>210|21=>21|171=>213|173=>216|212=>232|51=>183|20=>20|213=>233|232=>243|233=>244|80=>82|n=>n,fun|15=>1|16=>2|17=>5|18=>6|19=>7|n=>n⟩
theorem Tryz.lays172:Go.Proofs.LaysC.n172 Tryz.prog Tryz.lays172_ren:={
 mixed:=by kernel_rfl
 f129:=Tryz.func206.trans (congrArg some (by kernel_rfl))
 f171:=Tryz.func154.trans (congrArg some (by kernel_rfl))
 f172:=Tryz.func123.trans (congrArg some (by kernel_rfl))
 f205:=Tryz.func183.trans (congrArg some (by kernel_rfl))
 f243:=Tryz.func174.trans (congrArg some (by kernel_rfl))
 f244:=Tryz.func150.trans (congrArg some (by kernel_rfl))
 f245:=Tryz.func151.trans (congrArg some (by kernel_rfl))
 f246:=Tryz.func184.trans (congrArg some (by kernel_rfl))
 f247:=Tryz.func169.trans (congrArg some (by kernel_rfl))
 f279:=Tryz.func170.trans (congrArg some (by kernel_rfl))
 f280:=Tryz.func171.trans (congrArg some (by kernel_rfl))
 f281:=Tryz.func172.trans (congrArg some (by kernel_rfl))
 f282:=Tryz.func173.trans (congrArg some (by kernel_rfl))
 f283:=Tryz.func192.trans (congrArg some (by kernel_rfl))
 f284:=Tryz.func193.trans (congrArg some (by kernel_rfl))
 f285:=Tryz.func194.trans (congrArg some (by kernel_rfl))
 f286:=Tryz.func195.trans (congrArg some (by kernel_rfl))
 f287:=Tryz.func181.trans (congrArg some (by kernel_rfl))
 f316:=Tryz.func182.trans (congrArg some (by kernel_rfl))
 f317:=Tryz.func208.trans (congrArg some (by kernel_rfl))
 f318:=Tryz.func209.trans (congrArg some (by kernel_rfl))
 f319:=Tryz.func210.trans (congrArg some (by kernel_rfl))
 f320:=Tryz.func211.trans (congrArg some (by kernel_rfl))
 f321:=Tryz.func190.trans (congrArg some (by kernel_rfl))
 f322:=Tryz.func191.trans (congrArg some (by kernel_rfl))
 f337:=Tryz.func218.trans (congrArg some (by kernel_rfl))
 f338:=Tryz.func219.trans (congrArg some (by kernel_rfl))
 t0:=Tryz.underlying0
 a0:=Tryz.isAgg0
 z0:=Tryz.sizeOf0
 v0:=Tryz.zeroValue0
 t2:=Tryz.underlying2
 a2:=Tryz.isAgg2
 z2:=Tryz.sizeOf2
 v2:=Tryz.zeroValue2
 t3:=Tryz.underlying3
 a3:=Tryz.isAgg3
 z3:=Tryz.sizeOf3
 v3:=Tryz.zeroValue3
 t4:=Tryz.underlying4
 a4:=Tryz.isAgg4
 z4:=Tryz.sizeOf4
 v4:=Tryz.zeroValue4
 t5:=Tryz.underlying5
 a5:=Tryz.isAgg5
 z5:=Tryz.sizeOf5
 v5:=Tryz.zeroValue5
 t9:=Tryz.underlying9
 a9:=Tryz.isAgg9
 z9:=Tryz.sizeOf9
 v9:=Tryz.zeroValue9
 t20:=Tryz.underlying20
 a20:=Tryz.isAgg20
 z20:=Tryz.sizeOf20
 v20:=Tryz.zeroValue20
 t21:=Tryz.underlying21
 a21:=Tryz.isAgg21
 z21:=Tryz.sizeOf21
 v21:=Tryz.zeroValue21
 t37:=Tryz.underlying169
 a37:=Tryz.isAgg169
 z37:=Tryz.sizeOf169
 v37:=Tryz.zeroValue169
 t46:=Tryz.underlying164
 a46:=Tryz.isAgg164
 z46:=Tryz.sizeOf164
 v46:=Tryz.zeroValue164
 t51:=Tryz.underlying183
 a51:=Tryz.isAgg183
 z51:=Tryz.sizeOf183
 v51:=Tryz.zeroValue183
 t53:=Tryz.underlying198
 a53:=Tryz.isAgg198
 z53:=Tryz.sizeOf198
 v53:=Tryz.zeroValue198
 t75:=Tryz.underlying141
 a75:=Tryz.isAgg141
 z75:=Tryz.sizeOf141
 v75:=Tryz.zeroValue141
 t76:=Tryz.underlying142
 a76:=Tryz.isAgg142
 z76:=Tryz.sizeOf142
 v76:=Tryz.zeroValue142
 t85:=Tryz.underlying187
 a85:=Tryz.isAgg187
 z85:=Tryz.sizeOf187
 v85:=Tryz.zeroValue187
 t127:=Tryz.underlying209
 a127:=Tryz.isAgg209
 z127:=Tryz.sizeOf209
 v127:=Tryz.zeroValue209
 t143:=Tryz.underlying210
 a143:=Tryz.isAgg210
 z143:=Tryz.sizeOf210
 v143:=Tryz.zeroValue210
 t145:=Tryz.underlying212
 a145:=Tryz.isAgg212
 z145:=Tryz.sizeOf212
 v145:=Tryz.zeroValue212
 t167:=Tryz.underlying186
 a167:=Tryz.isAgg186
 z167:=Tryz.sizeOf186
 v167:=Tryz.zeroValue186
 t168:=Tryz.underlying189
 a168:=Tryz.isAgg189
 z168:=Tryz.sizeOf189
 v168:=Tryz.zeroValue189
 t171:=Tryz.underlying213
 a171:=Tryz.isAgg213
 z171:=Tryz.sizeOf213
 v171:=Tryz.zeroValue213
 t173:=Tryz.underlying216
 a173:=Tryz.isAgg216
 z173:=Tryz.sizeOf216
 v173:=Tryz.zeroValue216
 t175:=Tryz.underlying199
 a175:=Tryz.isAgg199
 z175:=Tryz.sizeOf199
 v175:=Tryz.zeroValue199
 t210:=Tryz.underlying202
 a210:=Tryz.isAgg202
 z210:=Tryz.sizeOf202
 v210:=Tryz.zeroValue202
 t212:=Tryz.underlying232
 a212:=Tryz.isAgg232
 z212:=Tryz.sizeOf232
 v212:=Tryz.zeroValue232
 t213:=Tryz.underlying233
 a213:=Tryz.isAgg233
 z213:=Tryz.sizeOf233
 t232:=Tryz.underlying243
 a232:=Tryz.isAgg243
 z232:=Tryz.sizeOf243
 v232:=Tryz.zeroValue243
 t233:=Tryz.underlying244
 a233:=Tryz.isAgg244
 z233:=Tryz.sizeOf244
 v233:=Tryz.zeroValue244
 g15:=by kernel_rfl
 g16:=by kernel_rfl
 g17:=by kernel_rfl
 g18:=by kernel_rfl
 g19:=by kernel_rfl
 t80:=Tryz.underlying82
 a80:=Tryz.isAgg82
 z80:=Tryz.sizeOf82
 v80:=Tryz.zeroValue82
 i0:=by kernel_rfl
 i2:=by kernel_rfl
 i3:=by kernel_rfl
 i4:=by kernel_rfl
 i5:=by kernel_rfl
 i9:=by kernel_rfl
 i20:=by kernel_rfl
 i21:=by kernel_rfl
 i37:=by kernel_rfl
 i46:=by kernel_rfl
 i51:=by kernel_rfl
 i53:=by kernel_rfl
 i75:=by kernel_rfl
 i76:=by kernel_rfl
 i80:=by kernel_rfl
 i85:=by kernel_rfl
 i127:=by kernel_rfl
 i143:=by kernel_rfl
 i145:=by kernel_rfl
 i167:=by kernel_rfl
 i168:=by kernel_rfl
 i171:=by kernel_rfl
 i173:=by kernel_rfl
 i175:=by kernel_rfl
 i210:=by kernel_rfl
 i212:=by kernel_rfl
 i232:=by kernel_rfl
 i233:=by kernel_rfl
 m15:=by kernel_rfl
 m16:=by kernel_rfl
 m17:=by kernel_rfl
 m18:=by kernel_rfl
 m19:=by kernel_rfl
 c0:=by kernel_rfl
 c2:=by kernel_rfl
 c3:=by kernel_rfl
 c4:=by kernel_rfl
 c5:=by kernel_rfl
 c9:=by kernel_rfl
 c20:=by kernel_rfl
 c21:=by kernel_rfl
 c37:=by kernel_rfl
 c46:=by kernel_rfl
 c51:=by kernel_rfl
 c53:=by kernel_rfl
 c75:=by kernel_rfl
 c76:=by kernel_rfl
 c80:=by kernel_rfl
 c85:=by kernel_rfl
 c127:=by kernel_rfl
 c143:=by kernel_rfl
 c145:=by kernel_rfl
 c167:=by kernel_rfl
 c168:=by kernel_rfl
 c171:=by kernel_rfl
 c173:=by kernel_rfl
 c175:=by kernel_rfl
 c210:=by kernel_rfl
 c212:=by kernel_rfl
 c213:=by kernel_rfl
 c232:=by kernel_rfl
 c233:=by kernel_rfl}
def Tryz.lays171_ren:Go.Shelf.Ren:=⟨fun|171=>154|243=>174|246=>184|283=>192|284=>193|285=>194|286=>195|129=>206|317=>208|318=>209|319=>210|320=>211|337=>218|338=>219|n=>n,fun|3=>3|9=>9|2=>2|4=>4|171=>213|0=>0|53=>198|37=>169|5=>5|173=>216|212=>232|51=>183|20=>20|213=>233|46=>164|232=>243|233=>244|n=>n,fun|17=>5|18=>6|19=>7|n=>n⟩
theorem Tryz.lays171:Go.Proofs.LaysM.n171 Tryz.prog Tryz.lays171_ren:={
 mixed:=by kernel_rfl
 f129:=Tryz.func206.trans (congrArg some (by kernel_rfl))
 f171:=Tryz.func154.trans (congrArg some (by kernel_rfl))
 f243:=Tryz.func174.trans (congrArg some (by kernel_rfl))
 f246:=Tryz.func184.trans (congrArg some (by kernel_rfl))
 f283:=Tryz.func192.trans (congrArg some (by kernel_rfl))
 f284:=Tryz.func193.trans (congrArg some (by kernel_rfl))
 f285:=Tryz.func194.trans (congrArg some (by kernel_rfl))
 f286:=Tryz.func195.trans (congrArg some (by kernel_rfl))
 f317:=Tryz.func208.trans (congrArg some (by kernel_rfl))
 f318:=Tryz.func209.trans (congrArg some (by kernel_rfl))
 f319:=Tryz.func210.trans (congrArg some (by kernel_rfl))
 f320:=Tryz.func211.trans (congrArg some (by kernel_rfl))
 f337:=Tryz.func218.trans (congrArg some (by kernel_rfl))
 f338:=Tryz.func219.trans (congrArg some (by kernel_rfl))
 t0:=Tryz.underlying0
 a0:=Tryz.isAgg0
 z0:=Tryz.sizeOf0
 v0:=Tryz.zeroValue0
 t2:=Tryz.underlying2
 a2:=Tryz.isAgg2
 z2:=Tryz.sizeOf2
 v2:=Tryz.zeroValue2
 t3:=Tryz.underlying3
 a3:=Tryz.isAgg3
 z3:=Tryz.sizeOf3
 v3:=Tryz.zeroValue3
 t4:=Tryz.underlying4
 a4:=Tryz.isAgg4
 z4:=Tryz.sizeOf4
 v4:=Tryz.zeroValue4
 t5:=Tryz.underlying5
 a5:=Tryz.isAgg5
 z5:=Tryz.sizeOf5
 v5:=Tryz.zeroValue5
 t9:=Tryz.underlying9
 a9:=Tryz.isAgg9
 z9:=Tryz.sizeOf9
 v9:=Tryz.zeroValue9
 t20:=Tryz.underlying20
 a20:=Tryz.isAgg20
 z20:=Tryz.sizeOf20
 v20:=Tryz.zeroValue20
 t37:=Tryz.underlying169
 a37:=Tryz.isAgg169
 z37:=Tryz.sizeOf169
 v37:=Tryz.zeroValue169
 t46:=Tryz.underlying164
 a46:=Tryz.isAgg164
 z46:=Tryz.sizeOf164
 v46:=Tryz.zeroValue164
 t51:=Tryz.underlying183
 a51:=Tryz.isAgg183
 z51:=Tryz.sizeOf183
 v51:=Tryz.zeroValue183
 t53:=Tryz.underlying198
 a53:=Tryz.isAgg198
 z53:=Tryz.sizeOf198
 v53:=Tryz.zeroValue198
 t171:=Tryz.underlying213
 a171:=Tryz.isAgg213
 z171:=Tryz.sizeOf213
 v171:=Tryz.zeroValue213
 t173:=Tryz.underlying216
 a173:=Tryz.isAgg216
 z173:=Tryz.sizeOf216
 v173:=Tryz.zeroValue216
 t212:=Tryz.underlying232
 a212:=Tryz.isAgg232
 z212:=Tryz.sizeOf232
 v212:=Tryz.zeroValue232
 t213:=Tryz.underlying233
 a213:=Tryz.isAgg233
 z213:=Tryz.sizeOf233
 t232:=Tryz.underlying243
 a232:=Tryz.isAgg243
 z232:=Tryz.sizeOf243
 v232:=Tryz.zeroValue243
 t233:=Tryz.underlying244
 a233:=Tryz.isAgg244
 z233:=Tryz.sizeOf244
 v233:=Tryz.zeroValue244
 g17:=by kernel_rfl
 g18:=by kernel_rfl
 g19:=by kernel_rfl
 i0:=by kernel_rfl
 i2:=by kernel_rfl
 i3:=by kernel_rfl
 i4:=by kernel_rfl
 i5:=by kernel_rfl
 i9:=by kernel_rfl
 i20:=by kernel_rfl
 i37:=by kernel_rfl
 i46:=by kernel_rfl
 i51:=by kernel_rfl
 i53:=by kernel_rfl
 i171:=by kernel_rfl
 i173:=by kernel_rfl
 i212:=by kernel_rfl
 i232:=by kernel_rfl
 i233:=by kernel_rfl
 m17:=by kernel_rfl
 m18:=by kernel_rfl
 m19:=by kernel_rfl}
def Tryz.lays99_ren:Go.Shelf.Ren:=⟨fun|99=>89|206=>120|n=>n,fun|9=>9|4=>4|3=>3|n=>n,fun|n=>n⟩
theorem Tryz.lays99:Go.Proofs.Lays.n99 Tryz.prog Tryz.lays99_ren:={
 mixed:=by kernel_rfl
 f99:=Tryz.func89.trans (congrArg some (by kernel_rfl))
 f206:=Tryz.func120.trans (congrArg some (by kernel_rfl))
 t3:=Tryz.underlying3
 a3:=Tryz.isAgg3
 z3:=Tryz.sizeOf3
 v3:=Tryz.zeroValue3
 t4:=Tryz.underlying4
 a4:=Tryz.isAgg4
 z4:=Tryz.sizeOf4
 v4:=Tryz.zeroValue4
 t9:=Tryz.underlying9
 a9:=Tryz.isAgg9
 z9:=Tryz.sizeOf9
 v9:=Tryz.zeroValue9}
def Tryz.lays190_ren:Go.Shelf.Ren:=⟨fun|190=>176|125=>186|258=>185|128=>205|129=>206|302=>196|303=>197|304=>198|305=>199|306=>200|307=>201|308=>202|309=>203|310=>204|333=>212|329=>213|330=>214|334=>215|335=>216|336=>217|344=>220|n=>n,fun|31=>23|9=>9|3=>3|46=>164|0=>0|51=>183|53=>198|4=>4|183=>220|182=>219|131=>100|5=>5|218=>234|222=>238|228=>240|229=>241|n=>n,fun|n=>n⟩
theorem Tryz.lays190:Go.Proofs.Lays.n190 Tryz.prog Tryz.lays190_ren:={
 mixed:=by kernel_rfl
 f125:=Tryz.func186.trans (congrArg some (by kernel_rfl))
 f128:=Tryz.func205.trans (congrArg some (by kernel_rfl))
 f129:=Tryz.func206.trans (congrArg some (by kernel_rfl))
 f190:=Tryz.func176.trans (congrArg some (by kernel_rfl))
 f258:=Tryz.func185.trans (congrArg some (by kernel_rfl))
 f302:=Tryz.func196.trans (congrArg some (by kernel_rfl))
 f303:=Tryz.func197.trans (congrArg some (by kernel_rfl))
 f304:=Tryz.func198.trans (congrArg some (by kernel_rfl))
 f305:=Tryz.func199.trans (congrArg some (by kernel_rfl))
 f306:=Tryz.func200.trans (congrArg some (by kernel_rfl))
 f307:=Tryz.func201.trans (congrArg some (by kernel_rfl))
 f308:=Tryz.func202.trans (congrArg some (by kernel_rfl))
 f309:=Tryz.func203.trans (congrArg some (by kernel_rfl))
 f310:=Tryz.func204.trans (congrArg some (by kernel_rfl))
 f329:=Tryz.func213.trans (congrArg some (by kernel_rfl))
 f330:=Tryz.func214.trans (congrArg some (by kernel_rfl))
 f333:=Tryz.func212.trans (congrArg some (by kernel_rfl))
 f334:=Tryz.func215.trans (congrArg some (by kernel_rfl))
 f335:=Tryz.func216.trans (congrArg some (by kernel_rfl))
 f336:=Tryz.func217.trans (congrArg some (by kernel_rfl))
 f344:=Tryz.func220.trans (congrArg some (by kernel_rfl))
 t0:=Tryz.underlying0
 a0:=Tryz.isAgg0
 z0:=Tryz.sizeOf0
 v0:=Tryz.zeroValue0
 t3:=Tryz.underlying3
 a3:=Tryz.isAgg3
 z3:=Tryz.sizeOf3
 v3:=Tryz.zeroValue3
 t4:=Tryz.underlying4
 a4:=Tryz.isAgg4
 z4:=Tryz.sizeOf4
 v4:=Tryz.zeroValue4
 t5:=Tryz.underlying5
 a5:=Tryz.isAgg5
 z5:=Tryz.sizeOf5
 v5:=Tryz.zeroValue5
 t9:=Tryz.underlying9
 a9:=Tryz.isAgg9
 z9:=Tryz.sizeOf9
 v9:=Tryz.zeroValue9
 t31:=Tryz.underlying23
 a31:=Tryz.isAgg23
 z31:=Tryz.sizeOf23
 v31:=Tryz.zeroValue23
 t46:=Tryz.underlying164
 a46:=Tryz.isAgg164
 z46:=Tryz.sizeOf164
 v46:=Tryz.zeroValue164
 t51:=Tryz.underlying183
 a51:=Tryz.isAgg183
 z51:=Tryz.sizeOf183
 v51:=Tryz.zeroValue183
 t53:=Tryz.underlying198
 a53:=Tryz.isAgg198
 z53:=Tryz.sizeOf198
 v53:=Tryz.zeroValue198
 t131:=Tryz.underlying100
 a131:=Tryz.isAgg100
 z131:=Tryz.sizeOf100
 v131:=Tryz.zeroValue100
 t182:=Tryz.underlying219
 a182:=Tryz.isAgg219
 z182:=Tryz.sizeOf219
 v182:=Tryz.zeroValue219
 t183:=Tryz.underlying220
 a183:=Tryz.isAgg220
 z183:=Tryz.sizeOf220
 v183:=Tryz.zeroValue220
 t218:=Tryz.underlying234
 a218:=Tryz.isAgg234
 z218:=Tryz.sizeOf234
 v218:=Tryz.zeroValue234
 t222:=Tryz.underlying238
 a222:=Tryz.isAgg238
 z222:=Tryz.sizeOf238
 v222:=Tryz.zeroValue238
 t228:=Tryz.underlying240
 a228:=Tryz.isAgg240
 z228:=Tryz.sizeOf240
 v228:=Tryz.zeroValue240
 t229:=Tryz.underlying241
 a229:=Tryz.isAgg241
 z229:=Tryz.sizeOf241
 v229:=Tryz.zeroValue241}
end Go.Proofs.YtgclceacfcdigaaGreatDoor
namespace Go.Proofs.YtgclceacfcdigaaGreatDoor
open Go.Pl Go.RowKit
open Enc (enc dec is)
open EncL (encL decL isL)
set_option maxRecDepth 100000
theorem VR:ZN Tryz.prog 89 (fun _:Str×Str×Unit=>true) (fun x:Str×Str×Unit=>x.2.1.s.isPrefixOf x.1.s):=Xr (by
  rintro⟨⟨s⟩,⟨p⟩,⟨⟩⟩ hps Φ w vs hL hΦ hv
  obtain⟨u,v,rfl,h1,h2⟩:=d1k hv
  rw[QS h1,QS h2]
  refine(Any.strings_HasPrefix Tryz.lays99 ⟨s.toArray⟩ ⟨p.toArray⟩ w).mono ?_
  rintro e w' ⟨rfl,rfl⟩
  exact⟨_,rfl,.bool _,.refl _ _⟩)
theorem b9u:ZN Tryz.prog 123 (fun x:Str×Unit=>decide (x.1.s.length<=1000000)) (fun x:Str×Unit=>Yi x.1):=Xr (by
  rintro⟨⟨s⟩,⟨⟩⟩ hps Φ w vs hL hΦ g
  have hs:s.length<=1000000:=by simpa using hps
  obtain⟨v,rfl,h1⟩:=d6n g
  rw[QS h1]
  have l:(⟨s.toArray⟩:ByteArray).size=s.length:=rfl
  cases h:Lib.atoiAll s
  ·rename_i n
   have q:Yi ⟨s⟩=(n,⟨false⟩):=by simp only[Yi,h]
   rw[q]
   refine(Any.strconv_Atoi_ok Tryz.lays172 ⟨s.toArray⟩ (by rw[l];omega) n h w).mono ?_
   rintro e w' ⟨rfl,u⟩
   refine⟨_,rfl,.tup _ _ rfl ?_,?_⟩
   ·intro j v x g i
    match j with
    | 0=>cases g;cases i;exact .int _ _
    | 1=>cases g;cases i;exact .nili
    | j+2=>simp at g
   ·rcases u with rfl|⟨t,rfl⟩
    ·exact .refl _ _
    ·exact D9 _ _ 0 _
  ·skip
   have q:Yi ⟨s⟩=(0,⟨true⟩):=by simp only[Yi,h]
   rw[q]
   obtain⟨cs,hc,ev,r,k⟩:=hL.syn
   refine(Any.strconv_Atoi_syntax Tryz.lays172 ⟨s.toArray⟩ (by rw[l];omega) h ev w (QL hΦ hc r) k).mono ?_
   rintro e w' ⟨N,rfl,_,_,hb⟩
   refine⟨_,rfl,.tup _ _ rfl ?_,hb⟩
   intro j v x g i
   match j with
   | 0=>cases g;cases i;exact .int _ _
   | 1=>cases g;cases i;exact .ifc _ _
   | j+2=>simp at g
  ·skip
   have q:Yi ⟨s⟩=(Lib.atoiSat s,⟨true⟩):=by simp only[Yi,h]
   rw[q]
   obtain⟨cs,hc,ev,r,k⟩:=hL.rng
   refine(Any.strconv_Atoi_range Tryz.lays172 ⟨s.toArray⟩ (by rw[l];omega) h ev w (QL hΦ hc r) k).mono ?_
   rintro e w' ⟨N,rfl,_,_,hb⟩
   refine⟨_,rfl,.tup _ _ rfl ?_,hb⟩
   intro j v x g i
   match j with
   | 0=>cases g;cases i;exact .int _ _
   | 1=>cases g;cases i;exact .ifc _ _
   | j+2=>simp at g)
theorem LC:ZN Tryz.prog 154 (fun x:Int×Unit=>decide (-9223372036854775808<=x.1)&&decide (x.1<=9223372036854775807)) (fun x:Int×Unit=>Cb x.1):=Xr (by
  rintro⟨n,⟨⟩⟩ hps Φ w vs hL hΦ hv
  obtain⟨v,rfl,h1⟩:=d6n hv
  have h1:RP Φ v (.int .i64 n):=h1
  rw[b2x h1]
  have hn : -9223372036854775808<=n∧n<=9223372036854775807:=by simpa using hps
  have hg:=hL.pow
  obtain⟨T,fz,hh⟩:=hΦ _ _ hg
  refine(Any.strconv_Itoa Tryz.lays171 n hn.1 hn.2 w ?_).mono ?_
  ·unfold Lib.TabIs World.var?
   rw[show Program.globalNamed Tryz.prog "internal/strconv.uint64pow10" = some 5 by kernel_rfl]
   simp only[Option.bind_some,hh]
   rfl
  ·rintro e w' ⟨rfl,k,os,rfl⟩
   refine⟨_,rfl,.str _,?_⟩
   exact⟨rfl,rfl,rfl,by show w.heap.size<=(w.heap++os).size;simp,fun j hj=>by show(w.heap++os)[j]? = _;rw[Array.getElem?_append_left hj]⟩)
theorem d3n: ∀ s:List UInt8,((s.dropWhile fun c=>c != 46)=[]->Lib.index s [46] = -1) ∧
  ∀ (c:UInt8) (r:List UInt8),(s.dropWhile fun c=>c != 46)=c::r->Lib.index s [46]=((s.takeWhile fun c=>c != 46).length:Nat)∧s.drop ((s.takeWhile fun c=>c != 46).length+1)=r∧s.take (s.takeWhile fun c=>c != 46).length=s.takeWhile fun c=>c != 46
 | []=>⟨fun _=>rfl,fun _ _ h=>by cases h⟩
 | b::l=>by
  obtain⟨h1,h2⟩:=d3n l
  by_cases hb:b=46
  ·subst hb
   refine⟨fun h=>by simp at h,fun c r h=> ?_⟩
   have h:(46:UInt8)::l=c::r:=by simpa using h
   cases h
   exact⟨rfl,rfl,rfl⟩
  ·have g:(b != 46)=true:=by simpa using hb
   have q:([46]:List UInt8).isPrefixOf (b::l)=false:=by simp[List.isPrefixOf];exact fun e=>hb e.symm
   have i:Lib.index (b::l) [46]=if Lib.index l [46] == -1 then -1 else Lib.index l [46]+1:=by rw[Lib.index,q];rfl
   rw[List.dropWhile_cons,if_pos g,List.takeWhile_cons,if_pos g]
   refine⟨fun h=>by rw[i,h1 h];rfl,fun c r h=> ?_⟩
   obtain⟨k,j,u⟩:=h2 c r h
   rw[i,k]
   refine⟨?_,?_,?_⟩
   ·rw[if_neg (by simp),List.length_cons];rfl
   ·rw[List.length_cons,List.drop_succ_cons];exact j
   ·rw[List.length_cons,List.take_succ_cons,u]
theorem d1i(s:List UInt8):Lib.cut s [46]=((Uv ⟨s⟩).a.s,(Uv ⟨s⟩).b.s,(Uv ⟨s⟩).c):=by
 obtain⟨h1,h2⟩:=d3n s
 unfold Lib.cut Uv
 cases hd:s.dropWhile fun c=>c != 46 with
 | nil=>
  rw[h1 hd]
  rfl
 | cons c r=>
  obtain⟨g,e,h⟩:=h2 c r hd
  rw[g,if_pos (by omega),Int.toNat_natCast,h]
  show(_,s.drop ((s.takeWhile fun c=>c != 46).length+1),true)=_
  rw[e]
theorem b5f:ZN Tryz.prog 136 (fun x:Str×Str×Unit=>decide (x.1.s.length<=1048576)&&decide (x.2.1.s=[46])) (fun x:Str×Str×Unit=>Uv x.1):=Xr (by
  rintro⟨⟨s⟩,⟨p⟩,⟨⟩⟩ hps Φ w vs hL hΦ g
  simp only[Bool.and_eq_true,decide_eq_true_eq]at hps
  obtain⟨hs,i⟩:=hps
  have i:p=[46]:=i
  subst i
  obtain⟨u,v,rfl,h1,h2⟩:=d1k g
  rw[QS h1,QS h2]
  obtain⟨cs,m,hc,hm⟩:=hL.mx
  have l:(⟨s.toArray⟩:ByteArray).size=s.length:=rfl
  refine(Any.strings_Cut Tryz.lays145 ⟨s.toArray⟩ ⟨#[46]⟩ m w (by rw[l];have hs:s.length<=1048576:=hs;omega) (QL hΦ hc hm)).mono ?_
  rintro e w' ⟨rfl,k,rfl⟩
  refine⟨_,rfl,.tup _ _ rfl ?_,?_⟩
  ·rw[show(⟨s.toArray⟩:ByteArray).data.toList=s from rfl,show(⟨#[46]⟩:ByteArray).data.toList=[46]from rfl,d1i]
   intro j v x g h
   match j with
   | 0=>cases g;cases h;exact .str _
   | 1=>cases g;cases h;exact .str _
   | 2=>cases g;cases h;exact .bool _
   | j+3=>simp at g
  ·exact⟨rfl,rfl,rfl,Nat.le_refl _,fun _ _=>rfl⟩)
theorem c5u:ZN Tryz.prog 90 (fun x:Str×UInt8×Unit=>decide (x.1.s.length<=1048576)) (fun x:Str×UInt8×Unit=>Lib.indexByte x.1.s x.2.1):=Xr (by
  rintro⟨⟨s⟩,c,⟨⟩⟩ hps Φ w vs hL hΦ hv
  obtain⟨u,v,rfl,h1,h2⟩:=d1k hv
  rw[QS h1,b2x h2]
  refine(Any.strings_IndexByte Tryz.lays137 ⟨s.toArray⟩ (c.toNat:Int) w).mono ?_
  rintro e w' ⟨rfl,rfl⟩
  have hc:((c.toNat:Int)).toNat.toUInt8=c:=by
   rw[Int.toNat_natCast]
   exact UInt8.ofNat_toNat
  rw[hc]
  exact⟨_,rfl,.int _ _,.refl _ _⟩)
theorem b6e:ZN Tryz.prog 65 (fun x:Str×Str×Unit=>decide (x.1.s.length<=1048576)&&decide (x.2.1.s=[10])) (fun x:Str×Str×Unit=>(Lib.countByte x.1.s 10:Int)):=Xr (by
  rintro⟨⟨s⟩,⟨p⟩,⟨⟩⟩ hps Φ w vs hL hΦ hv
  obtain⟨-,rfl⟩:s.length<=1048576∧p=[10]:=by simpa using hps
  obtain⟨u,v,rfl,h1,h2⟩:=d1k hv
  rw[QS h1,QS h2]
  refine(Any.strings_Count_one Tryz.lays138 ⟨s.toArray⟩ 10 w).mono ?_
  rintro e w' ⟨rfl,rfl⟩
  exact⟨_,rfl,.int _ _,.refl _ _⟩)
end Go.Proofs.YtgclceacfcdigaaGreatDoor
namespace Go.Proofs.YtgclceacfcdigaaGreatDoor
open Go.RowKit Go.Lib Go.Pl
theorem b3m:(Tryz.prog.info? 3).map (fun i=>(i.zero,i.size,i.bytes))=some (some (.int .i64 0),1,8):=by kernel_rfl
theorem Hw:Tryz.prog.underlying 25=some (.slice 3):=by kernel_rfl
theorem O4(n c:Nat)(w:World):Calls Tryz.prog 134 #[.slice none n c] w fun e w'=>e = .returned (.slice none 0 0)∧w'=w:=by
 have q22 : ∀ (w:World) (a:Option Addr) (n c g h:Nat),(binOp .eql 25 (.slice a n c) (.slice none g h)).run Tryz.prog w = .ok (.bool a.isNone) w:=fun w a n c g h=>Lib.run_eql_slice_nil w _ _ a n c g h Hw
 go_enter Tryz.func134,Tryz.ntmps134
 go_wp2
 go_ret
 exact⟨rfl,rfl⟩
theorem FD(a:Addr)(c:Nat)(w:World):Calls Tryz.prog 134 #[.slice (some a) 0 c] w fun e w'=>(∃ g,e = .returned (.slice (some g) 0 0))∧Below w.heap.size w w':=by
 have q22 : ∀ (w:World) (a:Option Addr) (n c h i:Nat),(binOp .eql 25 (.slice a n c) (.slice none h i)).run Tryz.prog w = .ok (.bool a.isNone) w:=fun w a n c h i=>Lib.run_eql_slice_nil w _ _ a n c h i Hw
 obtain⟨i0,hi,hz0,hz1,hz2⟩:=info_parts b3m
 go_enter Tryz.func134,Tryz.ntmps134
 go_wp2_with (at_builtin;refine Lib.wpList_append_run _ rfl _ _ _ _ rfl _ _ rfl rfl _ _ (WP Hw hi (Nat.le_refl _)) ?_)
 go_ret
 exact⟨⟨_,rfl⟩,(Below.refl _ w).alloc (Nat.le_refl _) _⟩
theorem L8(a:Addr)(n c:Nat)(news:List Value)(w:World)(h0:0<n)(hn:n<=2000000)(B:news.length=n*1)(hc : ∀ j u,news[j]? = some u->w.cell? (a.add j)=some u)(h1 : ∀ u∈news,u.oneCell'=true):
  Calls Tryz.prog 134 #[.slice (some a) n c] w fun e w'=> ∃ v',e = .returned v'∧w'.ownsRow w.heap.size 3 1 v' n news∧Below w.heap.size w w':=by
 have q22 : ∀ (w:World) (a:Option Addr) (n c i r:Nat),(binOp .eql 25 (.slice a n c) (.slice none i r)).run Tryz.prog w = .ok (.bool a.isNone) w:=fun w a n c i r=>Lib.run_eql_slice_nil w _ _ a n c i r Hw
 obtain⟨y,hi,s,q,l⟩:=info_parts b3m
 have A:Aside (∀ j u,news[j]? = some u->w.cell? (a.add j)=some u):=hc
 clear hc
 go_enter Tryz.func134,Tryz.ntmps134
 go_wp2_with (at_builtin;refine wpList_append_own _ rfl _ _ 25 rfl w.heap.size 3 y (.int .i64 0) 1 8 Hw hi s q l rfl (by decide) _ _ _ rfl (World.ownsRow_made w #[] 0 (Nat.le_refl _) (Nat.zero_le _) rfl) a n c news rfl ?qc1 ?qc2 ?qc3 ?qc4 ?qc5 ?qc6 ?_)
 case qc1=>exact B
 case qc2=>intro j u z;exact Lib.cell?_alloc_some _ (A.out j u z)
 case qc3=>exact h1
 case qc4=>unfold maxLen;omega
 case qc5=>omega
 case qc6=>simp
 intro v' w1 h g hnil
 go_wp2
 go_ret
 refine⟨v',rfl,by simpa using h,?_⟩
 exact((Below.refl _ w).alloc (Nat.le_refl _) _).grown g (by simp) (by intro k C;simp[Value.ownBlock]at C;omega)
theorem d7q:CloneC Tryz.prog 134 3 1:=⟨O4,FD,L8⟩
end Go.Proofs.YtgclceacfcdigaaGreatDoor
namespace Go.Proofs.YtgclceacfcdigaaGreatDoor
open Go.Pl
open Enc (enc dec is)
open EncL (encL decL isL)
set_option maxRecDepth 100000
theorem UV:Tryz.prog.follows .mixedOrders=true:=by kernel_rfl
theorem tq{f:Nat}{D:Den}{l:List (Nat×Den)}{fn:Func}(hf:Tryz.prog.funcs[f]? = some fn)(h:a4o Tryz.prog f D)(k:Z8 Tryz.prog (Y3 l))(hb:(fn.body.isSome&& !(fn.name == "runtime.NumGoroutine"))=true:=by kernel_rfl):Z8 Tryz.prog (Y3 ((f,D)::l)):=UC (ent hf hb h) k
theorem dq{f nt:Nat}{α β:Type}[EncL α][Enc β]{fn:Func}{T:ZL}{ic:IC}{rs:List IRes}{pre:α->Bool}{F:α->β}(h : ∀ a,pre a=true->Zb T 0 (Za rs (Zg (F a))) ic [] (Yz nt (encL a)))(k:Z8 Tryz.prog T)(j:Tryz.prog.funcs[f]? = some fn)(g:Cn Tryz.prog fn=some ic:=by kernel_rfl)(i:Xh (YT Tryz.prog) fn.results.toList=some rs:=by kernel_rfl)(e:fn.ntmps=nt:=by kernel_rfl):ZN Tryz.prog f pre F:=ZN.of k UV j g i e h
theorem CE{α β S:Type}[EncL α][Enc β][EncL S]{T:ZL}{f:Nat}{fn:Func}{ic:IC}{rs:List IRes}{mk:α->List AV}{g e:List AObj}{pre:S->α->Bool}{un:List AV->α}{F:S->α->β×S}{nt k:Nat}(h : ∀ s a,pre s a=true->Zb T k (Zn k rs (ZQ g e (F s a).1 (F s a).2)) ic [] (Z4 nt (mk a) (g++Zo s::e)))(hm:BH mk un)(r:Z8 Tryz.prog T)(q:Tryz.prog.funcs[f]? = some fn)(u:g.length+1+e.length=k:=by exact rfl)(l:Cn Tryz.prog fn=some ic:=by kernel_rfl)(i:Xh (YT Tryz.prog) fn.results.toList=some rs:=by kernel_rfl)(j:fn.ntmps=nt:=by kernel_rfl):ZZ Tryz.prog f mk un g e pre F:=ZZ.of hm r UV q l i j u h
theorem TA:ZN Tryz.prog 123 (fun x:Str×Unit=>decide (x.1.s.length<=281474976710656)) (fun x:Str×Unit=>Yi x.1):=Xr (by
  rintro⟨⟨s⟩,⟨⟩⟩ hps Φ w vs hL hΦ g
  have hs:s.length<=281474976710656:=by simpa using hps
  obtain⟨v,rfl,h1⟩:=d6n g
  rw[QS h1]
  have l:(⟨s.toArray⟩:ByteArray).size=s.length:=rfl
  cases h:Lib.atoiAll s
  ·rename_i n
   have q:Yi ⟨s⟩=(n,⟨false⟩):=by simp only[Yi,h]
   rw[q]
   refine(Any.strconv_Atoi_ok Tryz.lays172 ⟨s.toArray⟩ (by rw[l];omega) n h w).mono ?_
   rintro e w' ⟨rfl,u⟩
   refine⟨_,rfl,.tup _ _ rfl ?_,?_⟩
   ·intro j v x g i
    match j with
    | 0=>cases g;cases i;exact .int _ _
    | 1=>cases g;cases i;exact .nili
    | j+2=>simp at g
   ·rcases u with rfl|⟨t,rfl⟩
    ·exact .refl _ _
    ·exact D9 _ _ 0 _
  ·skip
   have q:Yi ⟨s⟩=(0,⟨true⟩):=by simp only[Yi,h]
   rw[q]
   obtain⟨cs,hc,ev,r,k⟩:=hL.syn
   refine(Any.strconv_Atoi_syntax Tryz.lays172 ⟨s.toArray⟩ (by rw[l];omega) h ev w (QL hΦ hc r) k).mono ?_
   rintro e w' ⟨N,rfl,_,_,hb⟩
   refine⟨_,rfl,.tup _ _ rfl ?_,hb⟩
   intro j v x g i
   match j with
   | 0=>cases g;cases i;exact .int _ _
   | 1=>cases g;cases i;exact .ifc _ _
   | j+2=>simp at g
  ·skip
   have q:Yi ⟨s⟩=(Lib.atoiSat s,⟨true⟩):=by simp only[Yi,h]
   rw[q]
   obtain⟨cs,hc,ev,r,k⟩:=hL.rng
   refine(Any.strconv_Atoi_range Tryz.lays172 ⟨s.toArray⟩ (by rw[l];omega) h ev w (QL hΦ hc r) k).mono ?_
   rintro e w' ⟨N,rfl,_,_,hb⟩
   refine⟨_,rfl,.tup _ _ rfl ?_,hb⟩
   intro j v x g i
   match j with
   | 0=>cases g;cases i;exact .int _ _
   | 1=>cases g;cases i;exact .ifc _ _
   | j+2=>simp at g)
theorem b1h:Y1 Tryz.prog 176 VC UA:=a7w (Any.slices_Sort_string Tryz.lays190) (Any.slices_Sort_string_none Tryz.lays190)
theorem Ty:ZN Tryz.prog 131 (fun _:Int×Unit=>true) (fun x:Int×Unit=>YV x.1):=dq c6i Zf Tryz.func131
theorem Lv:ZN Tryz.prog 130 (fun x:Str×Unit=>decide (x.1.s.length<=1000000)) (fun x:Str×Unit=>nameB x.1):=dq a8g (tq Tryz.func89 VR (tq Tryz.func123 b9u (tq Tryz.func154 LC Zf))) Tryz.func130
theorem MR:ZN Tryz.prog 130 (fun x:Str×Unit=>decide (x.1.s.length<=281474976710656)) (fun x:Str×Unit=>nameB x.1):=dq Oy (tq Tryz.func89 VR (tq Tryz.func123 TA (tq Tryz.func154 LC Zf))) Tryz.func130
theorem QV:ZN Tryz.prog 105 (fun x:Lin×Unit=>ZU x.1) (fun x:Lin×Unit=>ZA x.1):=dq a0o (tq Tryz.func131 Ty (tq Tryz.func130 Lv Zf)) Tryz.func105
theorem GJ:ZN Tryz.prog 105 (fun x:Lin×Unit=>Qe x.1) (fun x:Lin×Unit=>ZA x.1):=dq b0g (tq Tryz.func131 Ty (tq Tryz.func130 MR Zf)) Tryz.func105
theorem QT:ZN Tryz.prog 94 (fun _:UInt8×Unit=>true) (fun x:UInt8×Unit=>lowB x.1):=dq EP Zf Tryz.func94
theorem Gm:ZN Tryz.prog 97 (fun _:UInt8×Unit=>true) (fun x:UInt8×Unit=>digB x.1):=dq Eo Zf Tryz.func97
theorem JM:ZN Tryz.prog 95 (fun x:Str×Bool×Unit=>decide (x.1.s.length<=1048576)) (fun x:Str×Bool×Unit=>Yk x.1 x.2.1):=dq c2c (tq Tryz.func97 Gm (tq Tryz.func94 QT Zf)) Tryz.func95
theorem Ky:ZN Tryz.prog 96 (fun _:Str×Unit=>true) (fun x:Str×Unit=>Wx.contains x.1.s):=dq b7s Zf Tryz.func96
theorem VH:ZN Tryz.prog 72 (fun x:Str×Unit=>decide (x.1.s.length<=1048576)) (fun x:Str×Unit=>nameI x.1.s):=dq b0d (tq Tryz.func94 QT (tq Tryz.func95 JM (tq Tryz.func96 Ky Zf))) Tryz.func72
theorem Qo:ZN Tryz.prog 109 (fun x:Str×Unit=>decide (x.1.s.length<=1048576)) (fun x:Str×Unit=>fullI x.1.s):=dq a8n (tq Tryz.func136 b5f (tq Tryz.func72 VH Zf)) Tryz.func109
theorem KC:ZN Tryz.prog 77 (fun x:Str×Unit=>decide (x.1.s.length<=1048576)) (fun x:Str×Unit=>fnI x.1.s):=dq c4m (tq Tryz.func72 VH (tq Tryz.func109 Qo Zf)) Tryz.func77
theorem AA:ZN Tryz.prog 74 (fun x:Tm×Unit=>nW x.1) (fun x:Tm×Unit=>De x.1.nd):=dq b9a Zf Tryz.func74
theorem Sy:ZN Tryz.prog 104 (fun x:Lin×Unit=>Qe x.1) (fun x:Lin×Unit=> !(ZA x.1)):=dq b6x (tq Tryz.func105 GJ Zf) Tryz.func104
theorem d0i:ZN Tryz.prog 129 (fun x:List Lin×FnV 104×Unit=>decide (x.1.length<=1048576)&&x.1.all Qe) (fun x:List Lin×FnV 104×Unit=>WE (fun l:Lin=> !(ZA l)) x.1):=dq d1o (tq Tryz.func104 Sy Zf) Tryz.func129
theorem c7n:ZN Tryz.prog 103 (fun x:List Lin×FnV 104×Unit=>decide (x.1.length<=1048576)&&x.1.all Qe) (fun x:List Lin×FnV 104×Unit=>x.1.any fun l:Lin=> !(ZA l)):=dq c5h (tq Tryz.func129 d0i Zf) Tryz.func103
theorem Hu:ZN Tryz.prog 73 (fun x:Tm×Int×Int×Unit=>nW x.1) (fun x:Tm×Int×Int×Unit=>Xc x.1.nd x.2.1 x.2.2.1):=dq EB (tq Tryz.func103 c7n Zf) Tryz.func73
theorem NC:ZN Tryz.prog 108 (fun _:Int×Unit=>true) (fun x:Int×Unit=>Ym x.1):=dq c2t Zf Tryz.func108
theorem c9p:ZN Tryz.prog 135 (fun x:List Int×FnV 108×Unit=>decide (x.1.length<=1048576)) (fun x:List Int×FnV 108×Unit=>WE Ym x.1):=dq c6w (tq Tryz.func108 NC Zf) Tryz.func135
theorem c7s:ZN Tryz.prog 107 (fun x:List Int×FnV 108×Unit=>decide (x.1.length<=1048576)) (fun x:List Int×FnV 108×Unit=>x.1.any Ym):=dq c8f (tq Tryz.func135 c9p Zf) Tryz.func107
theorem LY:ZN Tryz.prog 76 (fun x:Tm×Unit=>nW x.1) (fun x:Tm×Unit=>callB x.1.nd x.1.ks.length):=dq a8c (tq Tryz.func77 KC (tq Tryz.func73 Hu (tq Tryz.func107 c7s Zf))) Tryz.func76
theorem c1b:XV Tryz.prog 175 Yl Jv:=Js (T:=Un) (ic:=Vp) (rs:=Vu) Zf UV Tryz.func175 (by kernel_rfl) (by kernel_rfl) (by kernel_rfl) a8z
theorem Lc:XV Tryz.prog 155 Yl Uo:=Js (T:=J2) (ic:=K9) (rs:=Jb) (tq Tryz.func175 c1b Zf) UV Tryz.func155 (by kernel_rfl) (by kernel_rfl) (by kernel_rfl) Nf
theorem d1m:XV Tryz.prog 132 Ak VZ:=Js (T:=XW) (ic:=Xg) (rs:=Xf) (tq Tryz.func155 Lc Zf) UV Tryz.func132 (by kernel_rfl) (by kernel_rfl) (by kernel_rfl) b7q
theorem b4e:ZN Tryz.prog 132 (fun _:List Int×Unit=>true) (fun x:List Int×Unit=>Uk x.1):=ZN.ofPure d1m fun⟨l,_⟩ h=>⟨by show(ZI l).all PV.isNum=true;simp,by show Zg _ (.tup [.int .i64 (Uk ((ZI l).map PV.asInt)).1,.int .i64 (Uk ((ZI l).map PV.asInt)).2]);rw[VD];exact ZH (x:=Uk l) rfl⟩
theorem a7o:ZN Tryz.prog 134 (fun x:List Int×Unit=>decide (x.1.length<=2000000)) (fun x:List Int×Unit=>x.1):=a0x (α:=Int) (by decide) (a7k d7q (by decide))
theorem Nz:ZN Tryz.prog 157 (fun _:Str×Int×Unit=>true) (fun x:Str×Int×Unit=>Vx x.1 x.2.1):=dq c6z Zf Tryz.func157
theorem d5t:Y1 Tryz.prog 156 CX RZ:=RD (T:=b3u) (ic:=Ex) (rs:=EG) (tq Tryz.func157 Nz Zf) UV Tryz.func156 (by kernel_rfl) (by kernel_rfl) (by kernel_rfl) d2p
theorem e1u:Y1 Tryz.prog 135 Vn Bd:=RD (T:=BS) (ic:=Hg) (rs:=Hr) (tq Tryz.func156 d5t Zf) UV Tryz.func135 (by kernel_rfl) (by kernel_rfl) (by kernel_rfl) c8s
theorem d9h:Y1 Tryz.prog 107 Vn Nj:=RD (T:=b2h) (ic:=EX) (rs:=EJ) (tq Tryz.func135 e1u Zf) UV Tryz.func107 (by kernel_rfl) (by kernel_rfl) (by kernel_rfl) c5d
theorem FZ:ZN Tryz.prog 133 (fun x:Str×List Int×Unit=>decide (x.2.1.length<=2000000)) (fun x:Str×List Int×Unit=>x.2.1.all (Vx x.1)):=dq R9 (tq Tryz.func107 d9h Zf) Tryz.func133
theorem a6w:ZN Tryz.prog 106 (fun x:Str×List Int×List Int×Unit=>decide (x.2.1.length<=2000000)&&decide (x.2.2.1.length<=2000000)) (fun x:Str×List Int×List Int×Unit=>a8o x.1 x.2.1 x.2.2.1):=dq b3c (tq Tryz.func132 b4e (tq Tryz.func133 FZ (tq Tryz.func134 a7o Zf))) Tryz.func106
theorem NF:ZN Tryz.prog 75 (fun x:Arr×Unit=>a7b x.1) (fun x:Arr×Unit=>b4g x.1):=dq d0x (tq Tryz.func106 a6w Zf) Tryz.func75
theorem Lh:ZN Tryz.prog 52 (fun x:Tm×Unit=>nW x.1) (fun x:Tm×Unit=>Dc x.1):=dq a9t (tq Tryz.func72 VH (tq Tryz.func73 Hu (tq Tryz.func74 AA (tq Tryz.func75 NF (tq Tryz.func76 LY (tq Tryz.func77 KC Zf)))))) Tryz.func52
theorem d7b:Y1 Tryz.prog 51 Kg (Gc 70):=RD (T:=a0y) (ic:=PT) (rs:=Ph) Zf UV Tryz.func51 (by kernel_rfl) (by kernel_rfl) (by kernel_rfl) b7j
theorem a9v{cd:Code}(h:JL Tryz.prog c0u Tryz.f28 0=some cd):Gb Tryz.prog cd=some (.t 7,[8,9],Am,Sn):=by
 have:(JL Tryz.prog c0u Tryz.f28 0).bind (Gb Tryz.prog)=some (.t 7,[8,9],Am,Sn):=by kernel_rfl
 rw[h]at this
 exact this
theorem c5n(g:Z8 Tryz.prog JC): ∀ (B:Nat) (c:Ctx),c.w0.heap.size=B->(∀ i m,0<=i->c.μ0 i m=none)->b7p (BQ B 4 g UV) (fun n cd=>JL Tryz.prog c0u Tryz.f28 n=some cd) tvE c:=by
 rintro B c h j n cd e st a w q hr ⟨rfl,k⟩
 exact b1c g UV c2n (fun x=>by obtain⟨t,l⟩:=x;rfl) (a9v e) h j hr k
theorem a2z:Z8 Tryz.prog JC:=(tq Tryz.func51 d7b (tq Tryz.func52 Lh Zf))
theorem JA:ZN Tryz.prog 28 (fun x:Tm×Unit=>gW x.1) (fun x:Tm×Unit=>Y8 x.1):=ZN.ofM (T:=JC) (ic:=DF) (rs:=JY) (E:=tvE) (sel:=c0u) a2z UV Tryz.func28 (by kernel_rfl) (by kernel_rfl) (by kernel_rfl) (c5n a2z) c5a
theorem BK:Z8 Tryz.prog XC:=(tq Tryz.func176 b1h (tq Tryz.func105 QV Zf))
theorem a7f{cd:Code}(h:JL Tryz.prog b3f Tryz.f160 0=some cd):Ht Tryz.prog cd=some b2u:=by
 have:(JL Tryz.prog b3f Tryz.f160 0).bind (Ht Tryz.prog)=some b2u:=by kernel_rfl
 rw[h]at this
 exact this
theorem c8c(args:List AV)(os:List AObj)(h:X6 args os=true)(c:Ctx)(g : ∀ i m,os.length<=i->c.μ0 i m=none):b7p (CL BK UV) (fun n cd=>JL Tryz.prog b3f Tryz.f160 n=some cd) PE c:=by
 rintro n cd e st a w q hr ⟨rfl,j⟩
 have h2:os.length=2:=by
  unfold X6 at h
  split at h
  ·rfl
  ·cases h
 rw[h2]at g
 exact d0h BK UV (a7f e) g hr j
theorem d2h:Y1 Tryz.prog 160 X6 QK:=e5v (T:=XC) (ic:=Xy) (rs:=Xx) (E:=PE) (sel:=b3f) BK UV Tryz.func160 (by kernel_rfl) (by kernel_rfl) (by kernel_rfl) c8c c4e b8j
theorem d9v:Y1 Tryz.prog 160 X6 CB:=c8v d2h
theorem e1i:Y1 Tryz.prog 159 U6 Bf:=RD (T:=KT) (ic:=U5) (rs:=U3) Zf UV Tryz.func159 (by kernel_rfl) (by kernel_rfl) (by kernel_rfl) c8d
theorem KP:ZN Tryz.prog 139 (fun x:Lin×Lin×Int×Unit=>ZU x.1&&ZU x.2.1) (fun x:Lin×Lin×Int×Unit=>ZE x.1 x.2.1 x.2.2.1):=dq MN (tq Tryz.func105 QV (tq Tryz.func159 e1i (tq Tryz.func160 d9v Zf))) Tryz.func139
theorem Rw:ZN Tryz.prog 113 (fun x:Lin×Lin×Unit=>ZU x.1&&ZU x.2.1) (fun x:Lin×Lin×Unit=>ZE x.1 x.2.1 1):=dq a6v (tq Tryz.func139 KP Zf) Tryz.func113
theorem Ch:ZN Tryz.prog 112 (fun x:Lin×Int×Unit=>ZU x.1) (fun x:Lin×Int×Unit=>WA x.1 x.2.1):=dq OL (tq Tryz.func139 KP Zf) Tryz.func112
theorem b0o:ZN Tryz.prog 138 (fun _:Int×Unit=>true) (fun x:Int×Unit=>(⟨x.1,[]⟩:Lin)):=dq c8w Zf Tryz.func138
theorem Tk:ZN Tryz.prog 114 (fun x:Lin×Lin×Unit=>ZU x.1&&ZU x.2.1) (fun x:Lin×Lin×Unit=>ZE x.1 x.2.1 (-1)):=dq a9p (tq Tryz.func139 KP Zf) Tryz.func114
theorem a1m:ZN Tryz.prog 137 (fun _:Str×Unit=>true) (fun x:Str×Unit=>Jz x.1):=dq d0f Zf Tryz.func137
theorem Kn:ZN Tryz.prog 98 (fun x:Str×Unit=>decide (x.1.s.length<=1048576)) (fun x:Str×Unit=>Y6 x.1):=dq d2m (tq Tryz.func95 JM (tq Tryz.func123 TA Zf)) Tryz.func98
theorem e1k:XV Tryz.prog 99 Cy N7:=Js (T:=b2s) (ic:=O7) (rs:=OZ) Zf UV Tryz.func99 (by kernel_rfl) (by kernel_rfl) (by kernel_rfl) fun ps h=>a3s (c8r ps h)
theorem PY:ZN Tryz.prog 64 (fun x:Str×Unit=>decide (x.1.s.length<=1048576)) (fun x:Str×Unit=>WV x.1):=dq c9z (tq Tryz.func89 VR (tq Tryz.func90 c5u Zf)) Tryz.func64
theorem PX:ZN Tryz.prog 66 (fun x:Str×Unit=>decide (x.1.s.length<=1048576)) (fun x:Str×Unit=>Zu x.1):=dq d1l (tq Tryz.func94 QT (tq Tryz.func95 JM (tq Tryz.func96 Ky (tq Tryz.func72 VH (tq Tryz.func97 Gm (tq Tryz.func98 Kn (tq Tryz.func89 VR (tq Tryz.func99 e1k Zf)))))))) Tryz.func66
theorem BG:ZN Tryz.prog 48 (fun _:Str×Unit=>true) (fun x:Str×Unit=>Z7 x.1):=dq d2k (tq Tryz.func64 PY (tq Tryz.func65 b6e (tq Tryz.func66 PX Zf))) Tryz.func48
theorem e0w:XV Tryz.prog 124 P6 Np:=Js (T:=EO) (ic:=NJ) (rs:=Pq) Zf UV Tryz.func124 (by kernel_rfl) (by kernel_rfl) (by kernel_rfl) fun ps h=>a3s (b3k ps h)
theorem PK:ZN Tryz.prog 101 (fun _:Str×Bool×Unit=>true) (fun x:Str×Bool×Unit=>Us x.1 x.2.1):=dq c3o (tq Tryz.func124 e0w Zf) Tryz.func101
theorem Xd: ZZ Tryz.prog 38 Zr Yb [] [] (fun(s:PS) (a:Int×Unit)=>Zc s&&(decide (0<=a.1)&&decide (a.1<=1000))) Vg:=CE (c5q) ZO Zf Tryz.func38
theorem UN: ZZ Tryz.prog 50 Zr Yb [] [] (fun(s:PS) (_:Unit)=>Zc s) QA:=CE (d1v) ZO (tq Tryz.func38 Xd Zf) Tryz.func50
theorem VA: ZZ Tryz.prog 37 Zr Yb [] [] (fun(s:PS) (_:Str×Unit)=>Zc s) Ub:=CE (d2u) ZO (tq Tryz.func38 Xd Zf) Tryz.func37
theorem XL: ZZ Tryz.prog 35 Zr Yb [] [] (fun(s:PS) (_:Str×Unit)=>Zc s) Uj:=CE (d1r) ZO (tq Tryz.func37 VA Zf) Tryz.func35
theorem Q4: ZZ Tryz.prog 33 Zr Yb [] [] (fun(s:PS) (_:Str×Unit)=>Zc s) JG:=CE (c6x) ZO (tq Tryz.func35 XL (tq Tryz.func50 UN Zf)) Tryz.func33
theorem Hd: ZZ Tryz.prog 34 Zr Yb [] [] (fun(s:PS) (_:Unit)=>Zc s) JD:=CE (c5l) ZO (tq Tryz.func38 Xd (tq Tryz.func50 UN Zf)) Tryz.func34
theorem Wv: ZZ Tryz.prog 100 Zr Yb [] [] (fun(s:PS) (_:Int×Unit)=>Zc s) Dp:=CE (d0s) ZO (tq Tryz.func38 Xd (tq Tryz.func98 Kn (tq Tryz.func50 UN Zf))) Tryz.func100
theorem Aa: ZZ Tryz.prog 111 Zr Yb [] [] (fun(s:PS) (_:Lin×Int×Unit)=>Zc s) Sq:=CE (d2n) ZO Zf Tryz.func111
theorem a0i: ZZ Tryz.prog 110 Zr Yb [] [] (fun(s:PS) (_:Unit)=>Zc s) Rv:=CE (d2i) ZO (tq Tryz.func38 Xd (tq Tryz.func34 Hd (tq Tryz.func137 a1m (tq Tryz.func100 Wv (tq Tryz.func111 Aa (tq Tryz.func112 Ch (tq Tryz.func138 b0o Zf))))))) Tryz.func110
theorem HZ: ZZ Tryz.prog 79 Zr Yb [] [] (fun(s:PS) (_:Unit)=>Zc s) M8:=CE (c8j) ZO (tq Tryz.func35 XL (tq Tryz.func110 a0i (tq Tryz.func111 Aa (tq Tryz.func112 Ch (tq Tryz.func113 Rw (tq Tryz.func114 Tk (tq Tryz.func105 QV Zf))))))) Tryz.func79
theorem FX: ZZ Tryz.prog 78 (mkL 79) Sw [] [] (fun(s:PS) (_:Unit)=>Zc s) (WI PS.linear):=CE (d2v) (N8 _) (tq Tryz.func79 HZ (tq Tryz.func35 XL Zf)) Tryz.func78
theorem Jd: ZZ Tryz.prog 127 Zr Yb [] [] (fun(s:PS) (_:Unit)=>Zc s) Sr:=CE (d1g) ZO (tq Tryz.func34 Hd (tq Tryz.func35 XL Zf)) Tryz.func127
theorem AB: ZZ Tryz.prog 69 Zr Yb [] [] (fun(s:PS) (_:Unit)=>Zc s) BC:=CE (c8g) ZO (tq Tryz.func38 Xd (tq Tryz.func101 PK Zf)) Tryz.func69
theorem Nc: ZZ Tryz.prog 153 b0v Sw [.box [.ptr 1 0]] [] (fun(s:PS) (_:Unit)=>Zc s) TK:=CE (c9s) a5o (tq Tryz.func100 Wv Zf) Tryz.func153
theorem MF: ZZ Tryz.prog 152 (a9e 153) Sw [] [.box [.ptr 0 0]] (fun(s:PS) (_:Unit)=>Zc s) (WI PS.numM):=CE (c7o) (a6c _) (tq Tryz.func153 Nc (tq Tryz.func35 XL Zf)) Tryz.func152
theorem A9: ZZ Tryz.prog 128 Zr Yb [] [] (fun(s:PS) (_:Unit)=>Zc s) b0i:=CE (c7j) ZO (tq Tryz.func38 Xd (tq Tryz.func33 Q4 (tq Tryz.func100 Wv (tq Tryz.func37 VA (tq Tryz.func35 XL Zf))))) Tryz.func128
theorem a8j{N:Nat}(e:ZZ Tryz.prog 26 Zr Yb [] [] (fun(s:PS) (_:Unit)=>Zc s&&decide (s.l.length - s.i<N)) (Kv N)):ZZ Tryz.prog 126 (mkL 26) Sw [] [] (fun(s:PS) (_:Unit)=>Zc s&&decide (s.l.length - s.i<N)) (WI (ZR N)):=CE (c5p N) (N8 _) (tq Tryz.func26 e (tq Tryz.func35 XL Zf)) Tryz.func126
theorem b0x{N:Nat}(e:ZZ Tryz.prog 126 (mkL 26) Sw [] [] (fun(s:PS) (_:Unit)=>Zc s&&decide (s.l.length - s.i<N)) (WI (ZR N))):ZZ Tryz.prog 125 Zr Yb [] [] (fun(s:PS) (_:Unit)=>Zc s&&decide (s.l.length - s.i<N+1)) (UT N):=CE ((b8u N)) ZO (tq Tryz.func38 Xd (tq Tryz.func127 Jd (tq Tryz.func109 Qo (tq Tryz.func37 VA (tq Tryz.func35 XL (tq Tryz.func78 FX (tq Tryz.func33 Q4 (tq Tryz.func100 Wv (tq Tryz.func152 MF (tq Tryz.func126 e Zf)))))))))) Tryz.func125
theorem a7r{N:Nat}(e:ZZ Tryz.prog 26 Zr Yb [] [] (fun(s:PS) (_:Unit)=>Zc s&&decide (s.l.length - s.i<N)) (Kv N))(g:ZZ Tryz.prog 126 (mkL 26) Sw [] [] (fun(s:PS) (_:Unit)=>Zc s&&decide (s.l.length - s.i<N)) (WI (ZR N)))(hn:ZZ Tryz.prog 125 Zr Yb [] [] (fun(s:PS) (_:Unit)=>Zc s&&decide (s.l.length - s.i<N+1)) (UT N)):ZZ Tryz.prog 102 Zr Yb [] [] (fun(s:PS) (_:Unit)=>Zc s&&decide (s.l.length - s.i<N+1)) (Sa N):=CE ((d0n N)) ZO (tq Tryz.func38 Xd (tq Tryz.func100 Wv (tq Tryz.func125 hn (tq Tryz.func37 VA (tq Tryz.func35 XL (tq Tryz.func26 e (tq Tryz.func33 Q4 (tq Tryz.func126 g (tq Tryz.func127 Jd (tq Tryz.func79 HZ (tq Tryz.func128 A9 (tq Tryz.func50 UN Zf)))))))))))) Tryz.func102
theorem a9j{N:Nat}(hu:ZZ Tryz.prog 68 Zr Yb [] [] (fun(s:PS) (_:Unit)=>Zc s&&decide (s.l.length - s.i<N)) (unF N))(e:ZZ Tryz.prog 102 Zr Yb [] [] (fun(s:PS) (_:Unit)=>Zc s&&decide (s.l.length - s.i<N+1)) (Sa N)):ZZ Tryz.prog 68 Zr Yb [] [] (fun(s:PS) (_:Unit)=>Zc s&&decide (s.l.length - s.i<N+1)) (unF (N+1)):=CE ((c5w N)) ZO (tq Tryz.func38 Xd (tq Tryz.func37 VA (tq Tryz.func100 Wv (tq Tryz.func101 PK (tq Tryz.func68 hu (tq Tryz.func102 e Zf)))))) Tryz.func68
theorem Aw{N:Nat}(e:ZZ Tryz.prog 68 Zr Yb [] [] (fun(s:PS) (_:Unit)=>Zc s&&decide (s.l.length - s.i<N+1)) (unF (N+1))): ∀ m:Nat,ZZ Tryz.prog 67 mkB unI [.box [.ptr 2 0],.box [.fn 67 [] [.ptr 0 0,.ptr 1 0]]] [] (fun(s:PS) (a:Int×Unit)=>(Zc s&&decide (s.l.length - s.i<N+1))&&(decide (1<=a.1)&&(decide ((6 - (m:Int))<a.1)&&decide (a.1<=6)))) (Vf (N+1))
 | 0=>ZZ.none (fun s a=>by
   rw[Bool.eq_false_iff]
   intro h
   simp only[Bool.and_eq_true,decide_eq_true_eq]at h
   omega)
 | m+1=>by
  have g:=Aw e m
  rw[show(6 - ((m+1:Nat):Int))=6 - (m:Int) - 1 by omega]
  exact CE (d0w N (6 - (m:Int))) ND (tq Tryz.func68 e (tq Tryz.func67 g (tq Tryz.func69 AB Zf))) Tryz.func67
theorem a7e{N:Nat}(e:ZZ Tryz.prog 68 Zr Yb [] [] (fun(s:PS) (_:Unit)=>Zc s&&decide (s.l.length - s.i<N+1)) (unF (N+1))):ZZ Tryz.prog 67 mkB unI [.box [.ptr 2 0],.box [.fn 67 [] [.ptr 0 0,.ptr 1 0]]] [] (fun(s:PS) (a:Int×Unit)=>(Zc s&&decide (s.l.length - s.i<N+1))&&(decide (1<=a.1)&&decide (a.1<=6))) (Vf (N+1)):=ZZ.weaken ND (Aw e 6) (fun s a h=>by
  simp only[Bool.and_eq_true,decide_eq_true_eq]at h ⊢
  exact⟨h.1,h.2.1,by have:=h.2.1;show(6:Int) - 6<_;omega,h.2.2⟩) (fun _ _ _=>rfl)
theorem b1a{N:Nat}(hb:ZZ Tryz.prog 67 mkB unI [.box [.ptr 2 0],.box [.fn 67 [] [.ptr 0 0,.ptr 1 0]]] [] (fun(s:PS) (a:Int×Unit)=>(Zc s&&decide (s.l.length - s.i<N+1))&&(decide (1<=a.1)&&decide (a.1<=6))) (Vf (N+1))):ZZ Tryz.prog 49 Zr Yb [] [] (fun(s:PS) (_:Unit)=>Zc s&&decide (s.l.length - s.i<N+1)) (Ep (N+1)):=CE ((d1w N)) ZO (tq Tryz.func67 hb Zf) Tryz.func49
theorem a7q{N:Nat}(e:ZZ Tryz.prog 26 Zr Yb [] [] (fun(s:PS) (_:Unit)=>Zc s&&decide (s.l.length - s.i<N)) (Kv N))(hb:ZZ Tryz.prog 49 Zr Yb [] [] (fun(s:PS) (_:Unit)=>Zc s&&decide (s.l.length - s.i<N+1)) (Ep (N+1))):ZZ Tryz.prog 26 Zr Yb [] [] (fun(s:PS) (_:Unit)=>Zc s&&decide (s.l.length - s.i<N+1)) (Kv (N+1)):=CE (d2a N) ZO (tq Tryz.func37 VA (tq Tryz.func49 hb (tq Tryz.func38 Xd (tq Tryz.func34 Hd (tq Tryz.func33 Q4 (tq Tryz.func26 e Zf)))))) Tryz.func26
theorem a4y: ∀ N:Nat,ZZ Tryz.prog 26 Zr Yb [] [] (fun(s:PS) (_:Unit)=>Zc s&&decide (s.l.length - s.i<N)) (Kv N)∧ZZ Tryz.prog 68 Zr Yb [] [] (fun(s:PS) (_:Unit)=>Zc s&&decide (s.l.length - s.i<N)) (unF N)
 | 0=>⟨ZZ.none (fun s a=>by simp),ZZ.none (fun s a=>by simp)⟩
 | N+1=>by
  obtain⟨g,hu⟩:=a4y N
  have h:=a8j g
  have e:=a9j hu (a7r g h (b0x h))
  exact⟨a7q g (b1a (a7e e)),e⟩
theorem a1w:ZZ Tryz.prog 26 Zr Yb [] [] (fun(s:PS) (_:Unit)=>Zc s) Ni:=ZZ.weaken ZO (a4y 4001).1 (fun s a h=>by
  have h0:=(ZG h).1
  rw[h]
  exact decide_eq_true (by omega)) (fun _ _ _=>rfl)
theorem a7u: ZZ Tryz.prog 27 Zr Yb [] [] (fun(s:PS) (_:Unit)=>Zc s) TG:=CE (c9x) ZO (tq Tryz.func50 UN Zf) Tryz.func27
theorem e6t:Y1 Tryz.prog 25 Dh Ma:=RD (T:=a6p) (ic:=RY) (rs:=PZ) (tq Tryz.func48 BG Zf) UV Tryz.func25 (by kernel_rfl) (by kernel_rfl) (by kernel_rfl) d0z
theorem OT:ZN Tryz.prog 11 (fun x:Str×Unit=>decide (x.1.s.length<=1048576)) (fun x:Str×Unit=>Yy x.1):=dq d2g (tq Tryz.func25 e6t (tq Tryz.func26 a1w (tq Tryz.func27 a7u (tq Tryz.func28 JA Zf)))) Tryz.func11
theorem GG:ZN Tryz.prog 42 (fun _:UInt8×Unit=>true) (fun x:UInt8×Unit=>lowB x.1):=dq a1f Zf Tryz.func42
theorem Ke:ZN Tryz.prog 43 (fun _:UInt8×Unit=>true) (fun x:UInt8×Unit=>digB x.1):=dq OW Zf Tryz.func43
theorem KE:ZN Tryz.prog 44 (fun _:Str×Unit=>true) (fun x:Str×Unit=>Wx.contains x.1.s):=dq b6z Zf Tryz.func44
theorem SS:ZN Tryz.prog 20 (fun x:Str×Unit=>decide (x.1.s.length<=1048576)) (fun x:Str×Unit=>nameI x.1.s):=dq a7p (tq Tryz.func42 GG (tq Tryz.func43 Ke (tq Tryz.func44 KE Zf))) Tryz.func20
theorem SH:ZN Tryz.prog 53 (fun x:Str×Unit=>decide (x.1.s.length<=1048576)) (fun x:Str×Unit=>Y6 x.1):=dq d1z (tq Tryz.func43 Ke Zf) Tryz.func53
theorem BL:ZN Tryz.prog 54 (fun x:Str×Unit=>decide (x.1.s.length<=1048576)) (fun x:Str×Unit=>(Zh Ze x.1.s).2):=dq c9h Zf Tryz.func54
theorem NV:ZN Tryz.prog 32 (fun x:Str×Unit=>decide (x.1.s.length<=1048576)&& !x.1.s.isEmpty) (fun x:Str×Unit=>(⟨(Zu x.1).1,(Zu x.1).2,0,0⟩:Tok)):=dq d0v (tq Tryz.func42 GG (tq Tryz.func43 Ke (tq Tryz.func44 KE (tq Tryz.func20 SS (tq Tryz.func53 SH (tq Tryz.func54 BL Zf)))))) Tryz.func32
theorem R6:ZN Tryz.prog 31 (fun x:Str×Int×Unit=>decide (x.1.s.length<=1048576)&&(decide (0<=x.2.1)&&decide (x.2.1<=x.1.s.length))) (fun x:Str×Int×Unit=>((ZJ (x.1.s.length+1) x.1.s x.2.1.toNat:Nat):Int)):=dq c7q Zf Tryz.func31
theorem Ls:ZN Tryz.prog 16 (fun x:Str×Unit=>decide (x.1.s.length<=1048576)) (fun x:Str×Unit=>Z7 x.1):=dq c5i (tq Tryz.func31 R6 (tq Tryz.func32 NV Zf)) Tryz.func16
theorem a9d:ZN Tryz.prog 29 (fun x:List Int×List Int×Unit=>decide (x.1.length<=1048576)) (fun x:List Int×List Int×Unit=>decide (x.1=x.2.1)):=dq c7k Zf Tryz.func29
theorem a7a:ZN Tryz.prog 30 (fun x:Lin×Lin×Unit=>decide (x.1.t.length<=1048576)) (fun x:Lin×Lin×Unit=>decide (x.1=x.2.1)):=dq d1f Zf Tryz.func30
theorem Pe:ZN Tryz.prog 13 (fun x:Tm×Tm×Unit=>tW x.1&&tW x.2.1) (fun x:Tm×Tm×Unit=>Mc x.1 x.2.1):=ZN.rec (fun a=>Ql a.1) fun N e=>dq (c8y N) (tq Tryz.func29 a9d (tq Tryz.func30 a7a (tq Tryz.func13 e Zf))) Tryz.func13
theorem LH:ZN Tryz.prog 11 (fun x:Str×Unit=>decide (x.1.s.length<=1048576)) (fun x:Str×Unit=>r3S (Yy x.1)):=OT.encEq fun a=>c5k _
noncomputable def ivC(f:Nat):Option (IC×Nat×List IRes):=a7n Tryz.prog f
theorem PQ:ZN Tryz.prog 9 (fun _:Unit=>true) (fun _:Unit=>true):=ZN.iv (C:=ivC) (fun _ _ h=>h) (DR BG Tryz.func48 (by kernel_rfl) (DR Kn Tryz.func98 (by kernel_rfl) (DR Qo Tryz.func109 (by kernel_rfl) (DR PK Tryz.func101 (by kernel_rfl) (DR Rw Tryz.func113 (by kernel_rfl) (DR Tk Tryz.func114 (by kernel_rfl) (DR GJ Tryz.func105 (by kernel_rfl) (DR JA Tryz.func28 (by kernel_rfl) Zf)))))))) UV 50 60 (fun _ _=>⟨.bool true,by kernel_rfl,rfl,rfl⟩)
theorem SE:ZN Tryz.prog 17 (fun x:List Tok×UInt8×Unit=>F4 x.1) (fun x:List Tok×UInt8×Unit=>(⟨Yn x.1 x.2.1⟩:Str)):=ZN.of (T:=Qh) (ic:=VP) (rs:=VI) Zf UV Tryz.func17 (by kernel_rfl) (by kernel_rfl) (by kernel_rfl) c2f
theorem Jy:ZN Tryz.prog 5 (fun _:Str×UInt8×Unit=>true) (fun _:Str×UInt8×Unit=>true):=ZN.of (T:=Em) (ic:=Po) (rs:=P5) (UC (ent Tryz.func9 (by kernel_rfl) PQ) (UC (ent Tryz.func16 (by kernel_rfl) Ls) (UC (ent Tryz.func11 (by kernel_rfl) LH) (UC (ent Tryz.func17 (by kernel_rfl) SE) (UC (ent Tryz.func13 (by kernel_rfl) Pe) Zf))))) UV Tryz.func5 (by kernel_rfl) (by kernel_rfl) (by kernel_rfl) b1y
end Go.Proofs.YtgclceacfcdigaaGreatDoor
