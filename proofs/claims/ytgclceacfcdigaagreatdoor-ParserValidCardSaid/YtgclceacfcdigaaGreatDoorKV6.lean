/-
  Texts of mine that belong together (packed by pack.py), for every input: Post, LaidZ, PlGb, OpYa, ShV, Sh, ShB, ShN, ShW, Cl, OkYa, OkJy.
-/
import Derived.Test.YtgclceacfcdigaaGreatDoorChecked
import Derived.Test.YtgclceacfcdigaaGreatDoorRows
import Derived.Test.YtgclceacfcdigaaGreatDoorKV2
import Derived.Test.YtgclceacfcdigaaGreatDoorKV3
import Derived.Test.YtgclceacfcdigaaGreatDoorKV4
import Derived.Test.YtgclceacfcdigaaGreatDoorKV5
import Derived.Below
import Derived.ChangeSame
import Derived.Stop.LaidErr
import Derived.Lib.LaidTab
import Derived.Shelf.Vars
import Derived.KernelRfl
import Derived.Shelf.Strings.Cut
import Derived.Shelf.Strings.Count
import Derived.Shelf.Small.Strs
import Derived.Shelf.Strconv.AtoiAll
import Derived.Shelf.Strconv.Itoa3
import Derived.Shelf.Strings.Prefix
import Derived.Shelf.Sort.Plain
import Derived.Shelf.Slices.In.SortNone
import Derived.Shelf.Strings.SlTrimAscii
import Derived.WalkKit
import Derived.Deep.LoopGhost
import Derived.Lib.Walk
import Derived.Lib.SliceRun
set_option linter.unusedVariables false
set_option linter.defProp false
set_option linter.unusedSimpArgs false
namespace Go.Proofs.YtgclceacfcdigaaGreatDoor
open Go.RowKit Go.WideShapes Go.ChangeShapes
section
section
variable {H:Type} {enc:TypeId×Value->H} {P:Program}
theorem L6{f:Func}{s:ChangeSpec}{apart fresh g q:Bool}{W W':World}{args:Array Value}{v:Value}{ds u:List (DataW H)}{a pa pv:List MemPlace}
  (B:DataW.Whole enc P f.params.toList s.vars apart W args.toList ds u a)
  (l : ∀ (b:Nat) (sp:Nat->Bool) (hd:Bool),DataW.TrodAll enc P W' b sp hd f.resultTypes.toList (v.resultList f.resultTypes.size) (s.fn H (ds++u)).results [])
  (i : ∀ sp:Nat->Bool,(∀ p∈a,sp p.block=true)->DataW.TrodAll enc P W' 0 sp true f.params.toList args.toList (s.fn H (ds++u)).args pa)
  (h : ∀ sp:Nat->Bool,(∀ p∈a,sp p.block=true)->DataW.TrodVars enc P W' sp s.vars (s.fn H (ds++u)).vars pv)
  (hps:a=pa++pv) (hb:Below W.heap.size W W')
  (A : ∀ (j:Nat) (t:TypeId) (r:Value),f.resultTypes[j]? = some t->(v.resultList f.resultTypes.size)[j]? = some r->Value.okWide P W' .any 0 t r) :
  s.post enc P f apart fresh g q W args v W':=by
 have z : ∀ p∈a,p.block<W.heap.size:=fun p e=>B.lt p e
 have k : ∀ p∈a,(fun b=>decide (b<W.heap.size)) p.block=true:=fun p e=>by simpa using z p e
 refine⟨ds,u,a,[],pa,pv,B,l _ _ _,i _ k,h _ k,World.keptBut_mono (fun p e=>⟨e,?_⟩) (hb.frame (· ∈ a)),fun _=> ?_⟩
 ·rw[hps,List.mem_append]at e
  exact Or.inr e
 ·obtain⟨_,_,_,_,_,C,hn⟩:=B
  refine⟨A,_,_,([]++pa)++pv,⟨[]++pa,pv,trodAll_append (i _ (fun _ _=>rfl)) (l _ _ _),h _ (fun _ _=>rfl),rfl,?_,?_⟩,?_⟩
  ·intro b off e
   have y:MemPlace.cell b off∈a:=by rw[hps];simpa using e
   rw[hb.frozen (z _ y)]
   exact C b off y
  ·intro ha
   have:=hn ha
   rw[hps]at this
   simpa using this
  ·intro p e _
   rw[hps]
   simpa using e
end
end
end Go.Proofs.YtgclceacfcdigaaGreatDoor
namespace Go.Proofs.YtgclceacfcdigaaGreatDoor
open Go.Pl Go.RowKit Go.ChangeShapes
set_option maxRecDepth 100000
theorem c1k{P:Program}{W:World}{n:String}{g:Nat}{cs:Array Value}(a:P.globalNamed n=some g)(h:W.var? P n=some cs):RV W g=some cs:=by
 unfold World.var? at h
 rw[a]at h
 simp only[Option.bind_some]at h
 unfold RV
 exact h
theorem f4z:Tryz.prog.globalNamed "internal/strconv.uint64pow10" = some 5:=by kernel_rfl
theorem g6x:Tryz.prog.globalNamed "strconv.ErrRange" = some 2:=by kernel_rfl
theorem g8q:Tryz.prog.globalNamed "strconv.ErrSyntax" = some 1:=by kernel_rfl
theorem c8f:Tryz.prog.underlying 141=some (.interface ((match Tryz.prog.underlying 141 with|some (.interface ms)=>ms|_=>#[]))):=by kernel_rfl
theorem g3v{W:World}{r:List (String×DataW Unit)}(h:laidMet Tryz.prog (("internal/strconv.uint64pow10",Rows.laid_internal_strconv_uint64pow10)::r) W):RV W 5=some La:=by
 have h1:Lib.TabIs Tryz.prog W "internal/strconv.uint64pow10" .u64 ((List.range 20).map fun i=>((10 ^ i:Nat):Int)):=Lib.tabIs_of_head (e:=198) (t:=232) f4z (by kernel_rfl) (n:=20) (by kernel_rfl) (by kernel_rfl) (by kernel_rfl) (by kernel_rfl) h
 exact(c1k f4z h1).trans rfl
theorem d2h{W:World}{n:String}{g:Nat}{text:List UInt8}{r:List (String×DataW Unit)}(hg:Tryz.prog.globalNamed n=some g)(ht:(Tryz.prog.globals[g]?).map (·.type)=some 141)(h:laidMet Tryz.prog ((n,.iface "*errors.errorString" (.ptr (.agg [.lit (.string text)])))::r) W): ∃ cs,RV W g=some cs∧Ms cs:=by
 obtain⟨ps,⟨g0,t0,cs0,f0,p0,q0,hg0,ht0,hv0,hd0,_,e0⟩,_,hrows⟩:=h
 obtain rfl:=Option.some.inj (hg.symm.trans hg0)
 obtain rfl:=Option.some.inj (ht.symm.trans ht0)
 subst e0
 refine⟨cs0,c1k hg hv0,?_⟩
 obtain⟨f1,u,v,e,_⟩:=iface_of_trod c8f hd0
 obtain⟨l0⟩:=cs0
 have e:l0=[.iface u v]:=e
 subst e
 exact⟨_,rfl,.inr ⟨u,v,rfl⟩⟩
theorem g4w{W:World}(h:W.ShapedOpen Tryz.prog): ∃ cs m,RV W 0=some cs∧cs[0]? = some (Value.int .i64 m):=by
 obtain⟨m,hm⟩:=cell_of_shapedOpen_int (g:=0) (t:=3) (zero:=#[.int .i64 0]) (k:=.i64) h (of_decide_eq_true (by kernel_rfl)) (by kernel_rfl) rfl (by kernel_rfl) (by kernel_rfl) (by kernel_rfl)
 unfold World.cell? at hm
 unfold RV
 split at hm
 ·rename_i cs T fz a
  exact⟨cs,m,by simp only[a],by simpa using hm⟩
 ·cases hm
theorem f1e{W:World}{x y z:String×DataW Unit}{r:List (String×DataW Unit)}(h:laidMet Tryz.prog (x::y::("internal/strconv.uint64pow10",Rows.laid_internal_strconv_uint64pow10)::z::("strconv.ErrRange",Rows.laid_strconv_ErrRange)::("strconv.ErrSyntax",Rows.laid_strconv_ErrSyntax)::r) W)(hs:W.ShapedOpen Tryz.prog):GlobOK (RV W):=
 ⟨d2h g8q (by kernel_rfl) h.tail.tail.tail.tail.tail,d2h g6x (by kernel_rfl) h.tail.tail.tail.tail,g3v h.tail.tail,g4w hs⟩
noncomputable def g8l:DataW Unit->Value
 | .lit (.int k n)=>.int k n
 | _=>.int .i64 0
noncomputable def M7:DataW Unit->Array Value
 | .agg ds=>(ds.flatMap fun | .agg es=>es.map g8l|d=>[g8l d]).toArray
 | _=>#[]
noncomputable def d4r:DataW Unit->ByteArray
 | .iface _ (.ptr (.agg [.lit (.string bs)]))=>⟨bs.toArray⟩
 | _=>⟨#[]⟩
noncomputable def low:Nat:=(World.holding Tryz.prog default ⟨#[],#[],[]⟩).heap.size
noncomputable def b8m(cs:Array Value):Obj->Obj
 | .cells _ t frozen=>.cells cs t frozen
 | o=>o
noncomputable def Ah(os:Os):World:=
 let w0:=World.holding Tryz.prog os ⟨#[.cells #[.string (d4r Rows.laid_strconv_ErrRange)] 212,.cells #[.string (d4r Rows.laid_strconv_ErrSyntax)] 212],#[],[]⟩
 {w0 with heap:=((((((w0.heap.modify 2 (b8m #[.iface 210 (.pointer (some ⟨low,0,none⟩))])).modify 1 (b8m #[.iface 210 (.pointer (some ⟨low+1,0,none⟩))])).modify 5 (b8m (M7 Rows.laid_internal_strconv_uint64pow10))).modify 6 (b8m (M7 Rows.laid_math_bits_deBruijn32tab))).modify 7 (b8m (M7 Rows.laid_math_bits_deBruijn64tab))).modify 4 (b8m (M7 Rows.laid_unicode_utf8_acceptRanges))).modify 3 (b8m (M7 Rows.laid_unicode_utf8_first))}
end Go.Proofs.YtgclceacfcdigaaGreatDoor
namespace Go.Pl
open Go.RowKit Go.WideShapes Go.ChangeShapes
section
abbrev uB{H:Type}(d:DataW H):Nat:=Go.Proofs.YtgclceacfcdigaaGreatDoor.Rows.uptoBulk d
abbrev uBs{H:Type}(l:List (DataW H)):Nat:=Go.Proofs.YtgclceacfcdigaaGreatDoor.Rows.uptoBulkAll l
theorem a6l{H:Type}(d:DataW H)(l:List (DataW H)):uBs (d::l)=uB d+uBs l:=by unfold uBs uB;rw[Go.Proofs.YtgclceacfcdigaaGreatDoor.Rows.uptoBulkAll]
theorem b5b{H:Type}(d:DataW H):1<=uB d:=by
 cases d with
 | lit l=>cases l <;> simp[uB,Go.Proofs.YtgclceacfcdigaaGreatDoor.Rows.uptoBulk]
 | _=>simp[uB,Go.Proofs.YtgclceacfcdigaaGreatDoor.Rows.uptoBulk]
mutual
def pvW:PV->Nat
 | .str s=>s.length+1
 | .sl _ _ xs=>VB xs+1
 | .agg xs=>VB xs
 | _=>1
def VB:List PV->Nat
 | []=>0
 | p::ps=>pvW p+VB ps
end
theorem e0q(a b:List PV):VB (a++b)=VB a+VB b:=by
 induction a with
 | nil=>simp[VB]
 | cons x a ih=>rw[List.cons_append,VB,ih,VB];omega
theorem g4v{P:Program}{e:TypeId}{q:List PV}(a:We P e=true∨P.cellsOf e=1)(b:q.length=P.cellsOf e):pvW (Pe P e q)<=VB q:=by
 cases ha:We P e with
 | true=>simp only[Pe,ha];rw[pvW];exact Nat.le_refl _
 | false=>
  have h1:P.cellsOf e=1:=by simpa [ha]using a
  rw[h1]at b
  match q,b with
  | [x],_=>simp only[Pe,ha,List.headD_cons];rw[VB,VB];exact Nat.le_refl _
theorem c5f{H:Type}{f:List PV->PV}: ∀ {qs:List (List PV)} {xs:List (DataW H×List MemPlace)},qs.length=xs.length->(∀ (i:Nat) (q:List PV) (x:DataW H×List MemPlace),qs[i]? = some q->xs[i]? = some x->pvW (f q)<=uB x.1)->VB (qs.map f)<=uBs (xs.map (·.1))
 | [],[],_,_=>by simp[VB]
 | q::qs,x::xs,hl,h=>by
  have h0:=h 0 q x rfl rfl
  have h1:=c5f (qs:=qs) (xs:=xs) (by simpa using hl) fun i q x a b=>h (i+1) q x (by simpa using a) (by simpa using b)
  rw[List.map_cons,VB,List.map_cons,a6l]
  omega
 | [],_::_,hl,_=>by cases hl
 | _::_,[],hl,_=>by cases hl
def d1h(P:Program)(S:List TypeId):Bool:=S.all fun t=>match P.underlying t with|some (.array _ _)=>false|_=>true
section
variable {H:Type} {enc:TypeId×Value->H} {P:Program} {w:World} {base:Nat} {sp:Nat->Bool} {held:Bool} {S:List TypeId}
theorem a3d{n:Nat}{cs:List Value}(r : ∀ (t:TypeId) (cs:List Value) (x:DataW H×List MemPlace),t∈S->DataW.trod enc P w base sp held n t cs=some x-> ∃ ps,Cl w cs ps∧Gq P n t ps∧VB ps<=uB x.1):
  ∀ (b:List Field) (o N:Nat) (xs:List (DataW H×List MemPlace)),JI P o b N=true->(∀ f∈b,f.type∈S)->cs.length=N->o<=N ->
   b.mapM (fun f=>DataW.trod enc P w base sp held n f.type ((cs.drop f.offset).take (P.cellsOf f.type)))=some xs ->
   ∃ ps,Cl w (cs.drop o) ps∧VB ps<=uBs (xs.map (·.1))∧ ∀ qs:List PV,qs.length=o->(∀ f∈b,Gq P n f.type (((qs++ps).drop f.offset).take (P.cellsOf f.type))):=by
 intro b
 induction b with
 | nil=>
  intro o N xs hc _ y ho _
  simp[JI]at hc
  refine⟨[],?_,by simp[VB],fun qs _ f F=>by simp at F⟩
  rw[List.drop_of_length_le (by omega)]
  exact Cl.nil
 | cons f b ihf=>
  intro o N xs hc hm y ho h
  simp only[JI,Bool.and_eq_true,beq_iff_eq]at hc
  obtain⟨i,hc⟩:=hc
  simp only[List.mapM_cons,Option.bind_eq_bind,Option.bind_eq_some_iff]at h
  obtain⟨x,I,s,q,e⟩:=h
  cases e
  obtain⟨u,z,C,w1⟩:=r _ _ x (hm f List.mem_cons_self) I
  have l:o+P.cellsOf f.type<=N:=by
   have : ∀ (b:List Field) (a:Nat),JI P a b N=true->a<=N:=by
    intro b
    induction b with
    | nil=>intro a h;simp[JI]at h;omega
    | cons g b r=>intro a h;simp only[JI,Bool.and_eq_true]at h;have:=r _ h.2;omega
   exact this _ _ hc
  obtain⟨D,B,w2,E⟩:=ihf (o+P.cellsOf f.type) N s hc (fun g j=>hm g (List.mem_cons_of_mem _ j)) y l q
  have k:u.length=P.cellsOf f.type:=by
   rw[<- z.1.1,List.length_take,List.length_drop,i]
   omega
  refine⟨u++D,?_,by rw[e0q,List.map_cons,a6l];omega,fun qs A g j=> ?_⟩
  ·have:=z.append B
   rw[i]at this
   have e:cs.drop o=(cs.drop o).take (P.cellsOf f.type)++cs.drop (o+P.cellsOf f.type):=by rw[<- List.drop_drop,List.take_append_drop]
   rw[e]
   exact this
  ·rcases List.mem_cons.1 j with rfl|j
   ·rw[i,<- A,List.drop_left,<- k,List.take_left]
    exact C
   ·have:=E (qs++u) (by simp[A,k]) g j
    rwa [List.append_assoc]at this
theorem b0s{n:Nat}{e:TypeId}{a:Addr}{len cap:Nat}{xs:List (DataW H×List MemPlace)}(D:0<P.cellsOf e)(C:We P e=true∨P.cellsOf e=1)(I:len<=cap)(hmax:cap<=maxLen)
  (ih : ∀ (cs:List Value) (x:DataW H×List MemPlace),DataW.trod enc P w base sp held n e cs=some x-> ∃ ps,Cl w cs ps∧Gq P n e ps∧VB ps<=uB x.1)
  (h:(List.range len).mapM (fun i=>(w.cells? base (a.add (i*P.cellsOf e)) (P.cellsOf e)).bind (DataW.trod enc P w base sp held n e))=some xs) :
  ∃ qs:List (List PV),RP (RV w) (.slice (some a) len cap) (.sl (P.cellsOf e) false (qs.map (Pe P e)))∧qs.length<=maxLen∧(∀ q∈qs,q.length=P.cellsOf e∧Gq P n e q)∧VB (qs.map (Pe P e))<=uBs (xs.map (·.1)):=by
 obtain⟨U,hg⟩:=b1e h
 rw[List.length_range]at U
 have O : ∀ i,i<len-> ∃ q:List PV,(q.length=P.cellsOf e∧Gq P n e q∧ ∃ x,xs[i]? = some x∧VB q<=uB x.1)∧ ∀ (r:Nat) p,q[r]? = some p-> ∃ v,w.cell? (a.add (i*P.cellsOf e+r))=some v∧v.oneCell'=true∧RP (RV w) v p:=by
  intro i hi
  have B:=List.getElem?_eq_getElem (show i<xs.length by omega)
  have:=hg i i _ (by simp[hi]) B
  rw[Option.bind_eq_some_iff]at this
  obtain⟨cs,h1,h2⟩:=this
  obtain⟨q,L,k2,X⟩:=ih cs _ h2
  obtain⟨W,Z⟩:=c8p h1
  refine⟨q,⟨by rw[<- L.1.1,W],k2,_,B,X⟩,fun r p l=> ?_⟩
  have hr:r<cs.length:=by rw[L.1.1];exact(List.getElem?_eq_some_iff.1 l).1
  have u:=List.getElem?_eq_getElem hr
  refine⟨_,?_,L.2 _ (List.getElem_mem hr),L.1.2 r _ p u l⟩
  rw[<- c9m]
  exact Z r _ u
 obtain⟨qs,s,k⟩:=a6x len O
 have g : ∀ q∈qs,(Pe P e q).cells=q:=by
  intro q z
  obtain⟨i,hi,rfl⟩:=List.getElem_of_mem z
  have:=(k i _ (List.getElem?_eq_getElem hi)).1
  exact c7i C this.1 fun ha=>d5a this.2.1 ha
 refine⟨qs,?_,by omega,fun q z=> ?_,?_⟩
 ·by_cases h0:len=0
  ·subst h0
   have:qs=[]:=List.length_eq_zero_iff.1 s
   subst this
   exact .sl0 _ _ _ _ fun e=>by cases e
  ·-- the first cell tells the block
   obtain⟨b,off,cs,rfl,hb,-⟩ : ∃ b off cs,a=⟨b,off,none⟩∧RV w b=some cs∧True:=by
    have M:=List.getElem?_eq_getElem (show 0<qs.length by omega)
    obtain⟨⟨f1,f2,-⟩,f3⟩:=k 0 _ M
    have l:=List.getElem?_eq_getElem (show 0<(qs[0]'(by omega)).length by omega)
    obtain⟨v,u,_⟩:=f3 0 _ l
    simp[Addr.add]at u
    obtain⟨b,off,cs,N,K,_⟩:=F9 u
    exact⟨b,off,cs,N,K,trivial⟩
   have hs : ∀ x∈qs.map (Pe P e),x.cells.length=P.cellsOf e:=by
    intro x B
    obtain⟨q,z,rfl⟩:=List.mem_map.1 B
    rw[g q z]
    obtain⟨i,hi,rfl⟩:=List.getElem_of_mem z
    exact(k i _ (List.getElem?_eq_getElem hi)).1.1
   have E : ∀ (j:Nat) p,(flat (qs.map (Pe P e)))[j]? = some p-> ∃ v,cs[off+j]? = some v∧v.oneCell'=true∧RP (RV w) v p:=by
    intro j p l
    have hj:j<len*P.cellsOf e:=by
     have:=(List.getElem?_eq_some_iff.1 l).1
     rw[WW hs]at this
     simpa [s]using this
    have hi:j / P.cellsOf e<qs.length:=by rw[s];exact(Nat.div_lt_iff_lt_mul D).2 hj
    have hr:j % P.cellsOf e<P.cellsOf e:=Nat.mod_lt _ D
    have F:=List.getElem?_eq_getElem hi
    have V:j=j / P.cellsOf e*P.cellsOf e+j % P.cellsOf e:=by rw[Nat.mul_comm];exact(Nat.div_add_mod _ _).symm
    have Q:(qs.map (Pe P e))[j / P.cellsOf e]? = some (Pe P e qs[j / P.cellsOf e]):=by rw[List.getElem?_map,F];rfl
    have J:=b0j hs Q hr
    rw[<- V,g _ (List.getElem_mem hi)]at J
    rw[J]at l
    obtain⟨v,u,h1,h2⟩:=(k _ _ F).2 _ p l
    rw[<- V,WM]at u
    obtain⟨b',off',cs',N,K,Y⟩:=F9 u
    cases N
    rw[hb]at K
    cases K
    exact⟨v,Y,h1,h2⟩
   have A:len=(qs.map (Pe P e)).length:=by simp[s]
   rw[A]
   refine .sl b off cs cap _ false _ (fun j=>(cs[off+j]?).getD default) hb (by rw[<- A];exact I) (fun e=>by cases e) hs (fun j p l=> ?_) (fun j p l=> ?_)
   ·obtain⟨v,h1,h2,h3⟩:=E j p l
    rw[h1]
    exact⟨rfl,h2⟩
   ·obtain⟨v,h1,h2,h3⟩:=E j p l
    rw[h1]
    exact h3
 ·obtain⟨i,hi,rfl⟩:=List.getElem_of_mem z
  have:=(k i _ (List.getElem?_eq_getElem hi)).1
  exact⟨this.1,this.2.1⟩
 ·refine c5f (by rw[s,U]) fun i q x z B=> ?_
  have:=(k i q z).1
  obtain⟨y,T,hw⟩:=this.2.2
  rw[B]at T
  cases T
  have hm:=g4v (P:=P) (e:=e) (q:=q) C this.1
  omega
theorem b9p(r:EN P S=true)(s:d1h P S=true): ∀ (n:Nat) (t:TypeId) (cs:List Value) (x:DataW H×List MemPlace),t∈S->DataW.trod enc P w base sp held n t cs=some x-> ∃ ps,Cl w cs ps∧Gq P n t ps∧VB ps<=uB x.1:=by
  intro n
  induction n with
  | zero=>intro t cs x _ h;simp[DataW.trod]at h
  | succ n ih=>
    intro t cs x ht h
    have b:=OC r ht
    have i:=List.all_eq_true.1 s t ht
    unfold DataW.trod at h
    unfold Gq
    split at h <;> (try rename_i hu) <;> (try simp only[hu]at b i ⊢) <;> try (cases b;done)
    all_goals first
      | (exact⟨_,Cl.one (.bool _) rfl,⟨_,rfl⟩,b5b _⟩)
      | (split at h
         · rename_i hc
           obtain⟨rfl,A⟩:=hc
           exact⟨_,Cl.one (.int _ _) rfl,⟨_,rfl,A⟩,b5b _⟩
         · cases h)
      | (split at h
         · rename_i hc
           cases h
           refine⟨_,Cl.one (.str _) rfl,⟨_,rfl,hc⟩,?_⟩
           show VB [PV.str _]<=Go.Proofs.YtgclceacfcdigaaGreatDoor.Rows.uptoBulk (DataW.lit (.string _))
           rw[Go.Proofs.YtgclceacfcdigaaGreatDoor.Rows.uptoBulk,VB,VB,pvW]
           omega
         · cases h)
      | (cases h;done)
      | (cases i;done)
      | skip
    · exact⟨_,Cl.one (.sl0 _ _ _ false (fun e=>by cases e)) rfl,⟨[],rfl,by simp,fun q z=>by simp at z⟩,b5b _⟩
    · rename_i e a len cap
      simp only[Bool.and_eq_true,Bool.or_eq_true,beq_iff_eq,decide_eq_true_eq]at b
      simp only at h
      split at h
      · rename_i hc
        obtain⟨xs,h1,h3⟩:=Option.bind_eq_some_iff.1 h
        obtain⟨ys,h4,rfl⟩:=Option.map_eq_some_iff.1 h3
        obtain⟨qs,g,l,j,y⟩:=b0s b.1.2 b.2 hc.2.1 hc.2.2 (fun cs x B=>ih e cs x (by simpa using b.1.1.2) B) h1
        refine⟨_,Cl.one g rfl,⟨qs,rfl,l,j⟩,?_⟩
        show VB [PV.sl _ false (qs.map (Pe P e))]<=Go.Proofs.YtgclceacfcdigaaGreatDoor.Rows.uptoBulk (DataW.slice (xs.map (·.1)) (ys.map (·.1)))
        rw[Go.Proofs.YtgclceacfcdigaaGreatDoor.Rows.uptoBulk,VB,VB,pvW]
        have:VB (qs.map (Pe P e))<=Go.Proofs.YtgclceacfcdigaaGreatDoor.Rows.uptoBulkAll (xs.map (·.1)):=y
        omega
      · cases h
    · rename_i cs2 u
      simp only[Bool.and_eq_true]at b
      split at h
      · rename_i hc
        rw[Option.map_eq_some_iff]at h
        obtain⟨xs,h1,rfl⟩:=h
        obtain⟨ps,g,j,l⟩:=a3d ih u.toList 0 (P.cellsOf t) xs b.1 (fun f k=>by simpa using List.all_eq_true.1 b.2 f k) hc (Nat.zero_le _) h1
        rw[List.drop_zero]at g
        refine⟨ps,g,⟨by rw[<- g.1.1,hc],fun f k=>by simpa using l [] rfl f k⟩,?_⟩
        show VB ps<=Go.Proofs.YtgclceacfcdigaaGreatDoor.Rows.uptoBulk (DataW.agg (xs.map (·.1)))
        rw[Go.Proofs.YtgclceacfcdigaaGreatDoor.Rows.uptoBulk]
        have:VB ps<=Go.Proofs.YtgclceacfcdigaaGreatDoor.Rows.uptoBulkAll (xs.map (·.1)):=j
        omega
      · cases h
theorem c9a(s:EN P S=true)(z:d1h P S=true){t:TypeId}(ht:t∈S){r:Reach}{b0:Nat}{v:Value}{d:DataW H}{p:List MemPlace}(e:Value.okWide P w r b0 t v)(h:DataW.Trod enc P w base sp held t v d p):
  ∃ n q,RP (RV w) v (Pe P t q)∧Gq P n t q∧VB q<=uB d:=by
 obtain⟨n,h⟩:=h
 obtain⟨q,i,D,B⟩:=b9p s z n t _ _ ht h
 refine⟨n,q,?_,D,B⟩
 have u:=OC s ht
 have g:v.cells = #[v]->We P t=false->RP (RV w) v (Pe P t q):=by
  intro hc ha
  rw[hc]at i
  have C:=i.1.1
  match q,C with
  | [x],_=>simp only[Pe,ha,List.headD_cons];exact i.1.2 0 v x rfl rfl
 have agg : ∀ cs,v = .agg cs->We P t=true->RP (RV w) v (Pe P t q):=by
  rintro cs rfl ha
  simp only[Pe,ha]
  exact .agg cs q (by have:=i.1.1;simpa [Value.cells]using this) (fun x k=>i.2 x (by simpa [Value.cells]using k)) fun j x y k A=>i.1.2 j x y (by simpa [Value.cells]using k) A
 split at u
 ·rename_i hu
  obtain⟨b,rfl⟩:=okWide_bool hu e
  exact g rfl (by simp[We,hu])
 ·rename_i hu
  obtain⟨b,rfl⟩:=okWide_int hu e
  exact g rfl (by simp[We,hu])
 ·rename_i hu
  obtain⟨b,rfl⟩:=okWide_string hu e
  exact g rfl (by simp[We,hu])
 ·rename_i hu
  obtain⟨a,l,c,rfl⟩:=okWide_slice hu e
  exact g rfl (by simp[We,hu])
 ·rename_i hu
  simp only[Value.okWide,hu]at e
  obtain⟨cs,rfl,_⟩:=e
  exact agg cs rfl (by simp[We,hu])
 ·rename_i hu
  simp only[Value.okWide,hu]at e
  obtain⟨cs,rfl,_⟩:=e
  exact agg cs rfl (by simp[We,hu])
 ·cases u
end
end
end Go.Pl
namespace Go.Proofs.YtgclceacfcdigaaGreatDoor
open Go.Pl
section
set_option maxRecDepth 100000
open Enc (enc dec is)
open EncL (encL decL isL)
theorem f1x:Tryz.prog.underlying 9=some .string:=by kernel_rfl
theorem f9i:We Tryz.prog 9=false:=by kernel_rfl
theorem e3a{n:Nat}{q:List PV}(h:Gq Tryz.prog n 9 q): ∃ s:Str,Pe Tryz.prog 9 q=enc s:=by
 obtain⟨s,a,_⟩:=e3v f1x h
 exact⟨⟨s⟩,by rw[a,Pe,f9i];rfl⟩
theorem f3z{n0:Nat}{a:List PV}(b:Gq Tryz.prog n0 9 a):
  preT (fun _:Str×Unit=>true) [Pe Tryz.prog 9 a]=true:=by
 obtain⟨s,e⟩:=e3a b
 rw[e]
 exact Zh (s,()) rfl rfl
end
end Go.Proofs.YtgclceacfcdigaaGreatDoor
namespace Go.Proofs.YtgclceacfcdigaaGreatDoor
open Go.Shelf
def Tryz.lays145_ren:Go.Shelf.Ren:=⟨fun|145=>136|220=>158|219=>122|217=>121|225=>147|224=>148|267=>149|266=>146|314=>168|n=>n,fun|9=>9|4=>4|59=>156|3=>3|5=>5|46=>164|146=>184|51=>183|n=>n,fun|1=>0|n=>n⟩
theorem Tryz.lays145:Go.Proofs.Lays.n145 Tryz.prog Tryz.lays145_ren:={
 mixed:=by kernel_rfl
 f145:=Go.Pl.ck_ Tryz.func136
 f217:=Go.Pl.ck_ Tryz.func121
 f219:=Go.Pl.ck_ Tryz.func122
 f220:=Go.Pl.ck_ Tryz.func158
 f224:=Go.Pl.ck_ Tryz.func148
 f225:=Go.Pl.ck_ Tryz.func147
 f266:=Go.Pl.ck_ Tryz.func146
 f267:=Go.Pl.ck_ Tryz.func149
 f314:=Go.Pl.ck_ Tryz.func168
 t3:=Tryz.underlying3
 a3:=Tryz.isAgg3
 z3:=Tryz.sizeOf3
 v3:=Tryz.zeroValue3
 t4:=Tryz.underlying4
 a4:=Tryz.isAgg4
 z4:=Tryz.sizeOf4
 v4:=Tryz.zeroValue4
 t5:=Tryz.underlying5
 a5:=Tryz.isAgg5
 z5:=Tryz.sizeOf5
 v5:=Tryz.zeroValue5
 t9:=Tryz.underlying9
 a9:=Tryz.isAgg9
 z9:=Tryz.sizeOf9
 v9:=Tryz.zeroValue9
 t46:=Tryz.underlying164
 a46:=Tryz.isAgg164
 z46:=Tryz.sizeOf164
 v46:=Tryz.zeroValue164
 t51:=Tryz.underlying183
 a51:=Tryz.isAgg183
 z51:=Tryz.sizeOf183
 v51:=Tryz.zeroValue183
 t59:=Tryz.underlying156
 a59:=Tryz.isAgg156
 z59:=Tryz.sizeOf156
 v59:=Tryz.zeroValue156
 t146:=Tryz.underlying184
 a146:=Tryz.isAgg184
 z146:=Tryz.sizeOf184
 v146:=Tryz.zeroValue184
 g1:=by kernel_rfl}
def Tryz.lays137_ren:Go.Shelf.Ren:=⟨fun|137=>90|217=>121|266=>146|n=>n,fun|9=>9|5=>5|3=>3|n=>n,fun|n=>n⟩
theorem Tryz.lays137:Go.Proofs.Lays.n137 Tryz.prog Tryz.lays137_ren:={
 mixed:=by kernel_rfl
 f137:=Go.Pl.ck_ Tryz.func90
 f217:=Go.Pl.ck_ Tryz.func121
 f266:=Go.Pl.ck_ Tryz.func146
 t3:=Tryz.underlying3
 a3:=Tryz.isAgg3
 z3:=Tryz.sizeOf3
 v3:=Tryz.zeroValue3
 t5:=Tryz.underlying5
 a5:=Tryz.isAgg5
 z5:=Tryz.sizeOf5
 v5:=Tryz.zeroValue5
 t9:=Tryz.underlying9
 a9:=Tryz.isAgg9
 z9:=Tryz.sizeOf9
 v9:=Tryz.zeroValue9}
def Tryz.lays138_ren:Go.Shelf.Ren:=⟨fun|138=>65|195=>91|218=>92|143=>93|219=>122|217=>121|225=>147|224=>148|267=>149|266=>146|314=>168|n=>n,fun|9=>9|3=>3|4=>4|5=>5|0=>0|46=>164|146=>184|51=>183|n=>n,fun|1=>0|n=>n⟩
theorem Tryz.lays138:Go.Proofs.Lays.n138 Tryz.prog Tryz.lays138_ren:={
 mixed:=by kernel_rfl
 f138:=Go.Pl.ck_ Tryz.func65
 f143:=Go.Pl.ck_ Tryz.func93
 f195:=Go.Pl.ck_ Tryz.func91
 f217:=Go.Pl.ck_ Tryz.func121
 f218:=Go.Pl.ck_ Tryz.func92
 f219:=Go.Pl.ck_ Tryz.func122
 f224:=Go.Pl.ck_ Tryz.func148
 f225:=Go.Pl.ck_ Tryz.func147
 f266:=Go.Pl.ck_ Tryz.func146
 f267:=Go.Pl.ck_ Tryz.func149
 f314:=Go.Pl.ck_ Tryz.func168
 t0:=Tryz.underlying0
 a0:=Tryz.isAgg0
 z0:=Tryz.sizeOf0
 v0:=Tryz.zeroValue0
 t3:=Tryz.underlying3
 a3:=Tryz.isAgg3
 z3:=Tryz.sizeOf3
 v3:=Tryz.zeroValue3
 t4:=Tryz.underlying4
 a4:=Tryz.isAgg4
 z4:=Tryz.sizeOf4
 v4:=Tryz.zeroValue4
 t5:=Tryz.underlying5
 a5:=Tryz.isAgg5
 z5:=Tryz.sizeOf5
 v5:=Tryz.zeroValue5
 t9:=Tryz.underlying9
 a9:=Tryz.isAgg9
 z9:=Tryz.sizeOf9
 v9:=Tryz.zeroValue9
 t46:=Tryz.underlying164
 a46:=Tryz.isAgg164
 z46:=Tryz.sizeOf164
 v46:=Tryz.zeroValue164
 t51:=Tryz.underlying183
 a51:=Tryz.isAgg183
 z51:=Tryz.sizeOf183
 v51:=Tryz.zeroValue183
 t146:=Tryz.underlying184
 a146:=Tryz.isAgg184
 z146:=Tryz.sizeOf184
 v146:=Tryz.zeroValue184
 g1:=by kernel_rfl}
def Tryz.lays172_ren:Go.Shelf.Ren:=⟨fun|172=>123|244=>150|245=>151|247=>169|279=>170|280=>171|281=>172|282=>173|287=>181|316=>182|171=>154|205=>183|321=>190|322=>191|243=>174|246=>184|283=>192|284=>193|285=>194|286=>195|129=>206|317=>208|318=>209|319=>210|320=>211|337=>218|338=>219|n=>n,fun|9=>9|3=>3|75=>141|76=>142|4=>4|5=>5|167=>186|37=>169|0=>0|85=>187|2=>2|168=>189|53=>198|175=>199|46=>164|210=>202|127=>209|145=>212|143=>210|21=>21|171=>213|173=>216|212=>232|51=>183|20=>20|213=>233|232=>243|233=>244|80=>82|n=>n,fun|15=>1|16=>2|17=>5|18=>6|19=>7|n=>n⟩
theorem Tryz.lays172:Go.Proofs.LaysC.n172 Tryz.prog Tryz.lays172_ren:={
 mixed:=by kernel_rfl
 f129:=Go.Pl.ck_ Tryz.func206
 f171:=Go.Pl.ck_ Tryz.func154
 f172:=Go.Pl.ck_ Tryz.func123
 f205:=Go.Pl.ck_ Tryz.func183
 f243:=Go.Pl.ck_ Tryz.func174
 f244:=Go.Pl.ck_ Tryz.func150
 f245:=Go.Pl.ck_ Tryz.func151
 f246:=Go.Pl.ck_ Tryz.func184
 f247:=Go.Pl.ck_ Tryz.func169
 f279:=Go.Pl.ck_ Tryz.func170
 f280:=Go.Pl.ck_ Tryz.func171
 f281:=Go.Pl.ck_ Tryz.func172
 f282:=Go.Pl.ck_ Tryz.func173
 f283:=Go.Pl.ck_ Tryz.func192
 f284:=Go.Pl.ck_ Tryz.func193
 f285:=Go.Pl.ck_ Tryz.func194
 f286:=Go.Pl.ck_ Tryz.func195
 f287:=Go.Pl.ck_ Tryz.func181
 f316:=Go.Pl.ck_ Tryz.func182
 f317:=Go.Pl.ck_ Tryz.func208
 f318:=Go.Pl.ck_ Tryz.func209
 f319:=Go.Pl.ck_ Tryz.func210
 f320:=Go.Pl.ck_ Tryz.func211
 f321:=Go.Pl.ck_ Tryz.func190
 f322:=Go.Pl.ck_ Tryz.func191
 f337:=Go.Pl.ck_ Tryz.func218
 f338:=Go.Pl.ck_ Tryz.func219
 t0:=Tryz.underlying0
 a0:=Tryz.isAgg0
 z0:=Tryz.sizeOf0
 v0:=Tryz.zeroValue0
 t2:=Tryz.underlying2
 a2:=Tryz.isAgg2
 z2:=Tryz.sizeOf2
 v2:=Tryz.zeroValue2
 t3:=Tryz.underlying3
 a3:=Tryz.isAgg3
 z3:=Tryz.sizeOf3
 v3:=Tryz.zeroValue3
 t4:=Tryz.underlying4
 a4:=Tryz.isAgg4
 z4:=Tryz.sizeOf4
 v4:=Tryz.zeroValue4
 t5:=Tryz.underlying5
 a5:=Tryz.isAgg5
 z5:=Tryz.sizeOf5
 v5:=Tryz.zeroValue5
 t9:=Tryz.underlying9
 a9:=Tryz.isAgg9
 z9:=Tryz.sizeOf9
 v9:=Tryz.zeroValue9
 t20:=Tryz.underlying20
 a20:=Tryz.isAgg20
 z20:=Tryz.sizeOf20
 v20:=Tryz.zeroValue20
 t21:=Tryz.underlying21
 a21:=Tryz.isAgg21
 z21:=Tryz.sizeOf21
 v21:=Tryz.zeroValue21
 t37:=Tryz.underlying169
 a37:=Tryz.isAgg169
 z37:=Tryz.sizeOf169
 v37:=Tryz.zeroValue169
 t46:=Tryz.underlying164
 a46:=Tryz.isAgg164
 z46:=Tryz.sizeOf164
 v46:=Tryz.zeroValue164
 t51:=Tryz.underlying183
 a51:=Tryz.isAgg183
 z51:=Tryz.sizeOf183
 v51:=Tryz.zeroValue183
 t53:=Tryz.underlying198
 a53:=Tryz.isAgg198
 z53:=Tryz.sizeOf198
 v53:=Tryz.zeroValue198
 t75:=Tryz.underlying141
 a75:=Tryz.isAgg141
 z75:=Tryz.sizeOf141
 v75:=Tryz.zeroValue141
 t76:=Tryz.underlying142
 a76:=Tryz.isAgg142
 z76:=Tryz.sizeOf142
 v76:=Tryz.zeroValue142
 t85:=Tryz.underlying187
 a85:=Tryz.isAgg187
 z85:=Tryz.sizeOf187
 v85:=Tryz.zeroValue187
 t127:=Tryz.underlying209
 a127:=Tryz.isAgg209
 z127:=Tryz.sizeOf209
 v127:=Tryz.zeroValue209
 t143:=Tryz.underlying210
 a143:=Tryz.isAgg210
 z143:=Tryz.sizeOf210
 v143:=Tryz.zeroValue210
 t145:=Tryz.underlying212
 a145:=Tryz.isAgg212
 z145:=Tryz.sizeOf212
 v145:=Tryz.zeroValue212
 t167:=Tryz.underlying186
 a167:=Tryz.isAgg186
 z167:=Tryz.sizeOf186
 v167:=Tryz.zeroValue186
 t168:=Tryz.underlying189
 a168:=Tryz.isAgg189
 z168:=Tryz.sizeOf189
 v168:=Tryz.zeroValue189
 t171:=Tryz.underlying213
 a171:=Tryz.isAgg213
 z171:=Tryz.sizeOf213
 v171:=Tryz.zeroValue213
 t173:=Tryz.underlying216
 a173:=Tryz.isAgg216
 z173:=Tryz.sizeOf216
 v173:=Tryz.zeroValue216
 t175:=Tryz.underlying199
 a175:=Tryz.isAgg199
 z175:=Tryz.sizeOf199
 v175:=Tryz.zeroValue199
 t210:=Tryz.underlying202
 a210:=Tryz.isAgg202
 z210:=Tryz.sizeOf202
 v210:=Tryz.zeroValue202
 t212:=Tryz.underlying232
 a212:=Tryz.isAgg232
 z212:=Tryz.sizeOf232
 v212:=Tryz.zeroValue232
 t213:=Tryz.underlying233
 a213:=Tryz.isAgg233
 z213:=Tryz.sizeOf233
 t232:=Tryz.underlying243
 a232:=Tryz.isAgg243
 z232:=Tryz.sizeOf243
 v232:=Tryz.zeroValue243
 t233:=Tryz.underlying244
 a233:=Tryz.isAgg244
 z233:=Tryz.sizeOf244
 v233:=Tryz.zeroValue244
 g15:=by kernel_rfl
 g16:=by kernel_rfl
 g17:=by kernel_rfl
 g18:=by kernel_rfl
 g19:=by kernel_rfl
 t80:=Tryz.underlying82
 a80:=Tryz.isAgg82
 z80:=Tryz.sizeOf82
 v80:=Tryz.zeroValue82
 i0:=by kernel_rfl
 i2:=by kernel_rfl
 i3:=by kernel_rfl
 i4:=by kernel_rfl
 i5:=by kernel_rfl
 i9:=by kernel_rfl
 i20:=by kernel_rfl
 i21:=by kernel_rfl
 i37:=by kernel_rfl
 i46:=by kernel_rfl
 i51:=by kernel_rfl
 i53:=by kernel_rfl
 i75:=by kernel_rfl
 i76:=by kernel_rfl
 i80:=by kernel_rfl
 i85:=by kernel_rfl
 i127:=by kernel_rfl
 i143:=by kernel_rfl
 i145:=by kernel_rfl
 i167:=by kernel_rfl
 i168:=by kernel_rfl
 i171:=by kernel_rfl
 i173:=by kernel_rfl
 i175:=by kernel_rfl
 i210:=by kernel_rfl
 i212:=by kernel_rfl
 i232:=by kernel_rfl
 i233:=by kernel_rfl
 m15:=by kernel_rfl
 m16:=by kernel_rfl
 m17:=by kernel_rfl
 m18:=by kernel_rfl
 m19:=by kernel_rfl
 c0:=by kernel_rfl
 c2:=by kernel_rfl
 c3:=by kernel_rfl
 c4:=by kernel_rfl
 c5:=by kernel_rfl
 c9:=by kernel_rfl
 c20:=by kernel_rfl
 c21:=by kernel_rfl
 c37:=by kernel_rfl
 c46:=by kernel_rfl
 c51:=by kernel_rfl
 c53:=by kernel_rfl
 c75:=by kernel_rfl
 c76:=by kernel_rfl
 c80:=by kernel_rfl
 c85:=by kernel_rfl
 c127:=by kernel_rfl
 c143:=by kernel_rfl
 c145:=by kernel_rfl
 c167:=by kernel_rfl
 c168:=by kernel_rfl
 c171:=by kernel_rfl
 c173:=by kernel_rfl
 c175:=by kernel_rfl
 c210:=by kernel_rfl
 c212:=by kernel_rfl
 c213:=by kernel_rfl
 c232:=by kernel_rfl
 c233:=by kernel_rfl}
def Tryz.lays171_ren:Go.Shelf.Ren:=⟨fun|171=>154|243=>174|246=>184|283=>192|284=>193|285=>194|286=>195|129=>206|317=>208|318=>209|319=>210|320=>211|337=>218|338=>219|n=>n,fun|3=>3|9=>9|2=>2|4=>4|171=>213|0=>0|53=>198|37=>169|5=>5|173=>216|212=>232|51=>183|20=>20|213=>233|46=>164|232=>243|233=>244|n=>n,fun|17=>5|18=>6|19=>7|n=>n⟩
theorem Tryz.lays171:Go.Proofs.LaysM.n171 Tryz.prog Tryz.lays171_ren:={
 mixed:=by kernel_rfl
 f129:=Go.Pl.ck_ Tryz.func206
 f171:=Go.Pl.ck_ Tryz.func154
 f243:=Go.Pl.ck_ Tryz.func174
 f246:=Go.Pl.ck_ Tryz.func184
 f283:=Go.Pl.ck_ Tryz.func192
 f284:=Go.Pl.ck_ Tryz.func193
 f285:=Go.Pl.ck_ Tryz.func194
 f286:=Go.Pl.ck_ Tryz.func195
 f317:=Go.Pl.ck_ Tryz.func208
 f318:=Go.Pl.ck_ Tryz.func209
 f319:=Go.Pl.ck_ Tryz.func210
 f320:=Go.Pl.ck_ Tryz.func211
 f337:=Go.Pl.ck_ Tryz.func218
 f338:=Go.Pl.ck_ Tryz.func219
 t0:=Tryz.underlying0
 a0:=Tryz.isAgg0
 z0:=Tryz.sizeOf0
 v0:=Tryz.zeroValue0
 t2:=Tryz.underlying2
 a2:=Tryz.isAgg2
 z2:=Tryz.sizeOf2
 v2:=Tryz.zeroValue2
 t3:=Tryz.underlying3
 a3:=Tryz.isAgg3
 z3:=Tryz.sizeOf3
 v3:=Tryz.zeroValue3
 t4:=Tryz.underlying4
 a4:=Tryz.isAgg4
 z4:=Tryz.sizeOf4
 v4:=Tryz.zeroValue4
 t5:=Tryz.underlying5
 a5:=Tryz.isAgg5
 z5:=Tryz.sizeOf5
 v5:=Tryz.zeroValue5
 t9:=Tryz.underlying9
 a9:=Tryz.isAgg9
 z9:=Tryz.sizeOf9
 v9:=Tryz.zeroValue9
 t20:=Tryz.underlying20
 a20:=Tryz.isAgg20
 z20:=Tryz.sizeOf20
 v20:=Tryz.zeroValue20
 t37:=Tryz.underlying169
 a37:=Tryz.isAgg169
 z37:=Tryz.sizeOf169
 v37:=Tryz.zeroValue169
 t46:=Tryz.underlying164
 a46:=Tryz.isAgg164
 z46:=Tryz.sizeOf164
 v46:=Tryz.zeroValue164
 t51:=Tryz.underlying183
 a51:=Tryz.isAgg183
 z51:=Tryz.sizeOf183
 v51:=Tryz.zeroValue183
 t53:=Tryz.underlying198
 a53:=Tryz.isAgg198
 z53:=Tryz.sizeOf198
 v53:=Tryz.zeroValue198
 t171:=Tryz.underlying213
 a171:=Tryz.isAgg213
 z171:=Tryz.sizeOf213
 v171:=Tryz.zeroValue213
 t173:=Tryz.underlying216
 a173:=Tryz.isAgg216
 z173:=Tryz.sizeOf216
 v173:=Tryz.zeroValue216
 t212:=Tryz.underlying232
 a212:=Tryz.isAgg232
 z212:=Tryz.sizeOf232
 v212:=Tryz.zeroValue232
 t213:=Tryz.underlying233
 a213:=Tryz.isAgg233
 z213:=Tryz.sizeOf233
 t232:=Tryz.underlying243
 a232:=Tryz.isAgg243
 z232:=Tryz.sizeOf243
 v232:=Tryz.zeroValue243
 t233:=Tryz.underlying244
 a233:=Tryz.isAgg244
 z233:=Tryz.sizeOf244
 v233:=Tryz.zeroValue244
 g17:=by kernel_rfl
 g18:=by kernel_rfl
 g19:=by kernel_rfl
 i0:=by kernel_rfl
 i2:=by kernel_rfl
 i3:=by kernel_rfl
 i4:=by kernel_rfl
 i5:=by kernel_rfl
 i9:=by kernel_rfl
 i20:=by kernel_rfl
 i37:=by kernel_rfl
 i46:=by kernel_rfl
 i51:=by kernel_rfl
 i53:=by kernel_rfl
 i171:=by kernel_rfl
 i173:=by kernel_rfl
 i212:=by kernel_rfl
 i232:=by kernel_rfl
 i233:=by kernel_rfl
 m17:=by kernel_rfl
 m18:=by kernel_rfl
 m19:=by kernel_rfl}
def Tryz.lays99_ren:Go.Shelf.Ren:=⟨fun|99=>89|206=>120|n=>n,fun|9=>9|4=>4|3=>3|n=>n,fun|n=>n⟩
theorem Tryz.lays99:Go.Proofs.Lays.n99 Tryz.prog Tryz.lays99_ren:={
 mixed:=by kernel_rfl
 f99:=Go.Pl.ck_ Tryz.func89
 f206:=Go.Pl.ck_ Tryz.func120
 t3:=Tryz.underlying3
 a3:=Tryz.isAgg3
 z3:=Tryz.sizeOf3
 v3:=Tryz.zeroValue3
 t4:=Tryz.underlying4
 a4:=Tryz.isAgg4
 z4:=Tryz.sizeOf4
 v4:=Tryz.zeroValue4
 t9:=Tryz.underlying9
 a9:=Tryz.isAgg9
 z9:=Tryz.sizeOf9
 v9:=Tryz.zeroValue9}
def Tryz.lays190_ren:Go.Shelf.Ren:=⟨fun|190=>176|125=>186|258=>185|128=>205|129=>206|302=>196|303=>197|304=>198|305=>199|306=>200|307=>201|308=>202|309=>203|310=>204|333=>212|329=>213|330=>214|334=>215|335=>216|336=>217|344=>220|n=>n,fun|31=>23|9=>9|3=>3|46=>164|0=>0|51=>183|53=>198|4=>4|183=>220|182=>219|131=>100|5=>5|218=>234|222=>238|228=>240|229=>241|n=>n,fun|n=>n⟩
theorem Tryz.lays190:Go.Proofs.Lays.n190 Tryz.prog Tryz.lays190_ren:={
 mixed:=by kernel_rfl
 f125:=Go.Pl.ck_ Tryz.func186
 f128:=Go.Pl.ck_ Tryz.func205
 f129:=Go.Pl.ck_ Tryz.func206
 f190:=Go.Pl.ck_ Tryz.func176
 f258:=Go.Pl.ck_ Tryz.func185
 f302:=Go.Pl.ck_ Tryz.func196
 f303:=Go.Pl.ck_ Tryz.func197
 f304:=Go.Pl.ck_ Tryz.func198
 f305:=Go.Pl.ck_ Tryz.func199
 f306:=Go.Pl.ck_ Tryz.func200
 f307:=Go.Pl.ck_ Tryz.func201
 f308:=Go.Pl.ck_ Tryz.func202
 f309:=Go.Pl.ck_ Tryz.func203
 f310:=Go.Pl.ck_ Tryz.func204
 f329:=Go.Pl.ck_ Tryz.func213
 f330:=Go.Pl.ck_ Tryz.func214
 f333:=Go.Pl.ck_ Tryz.func212
 f334:=Go.Pl.ck_ Tryz.func215
 f335:=Go.Pl.ck_ Tryz.func216
 f336:=Go.Pl.ck_ Tryz.func217
 f344:=Go.Pl.ck_ Tryz.func220
 t0:=Tryz.underlying0
 a0:=Tryz.isAgg0
 z0:=Tryz.sizeOf0
 v0:=Tryz.zeroValue0
 t3:=Tryz.underlying3
 a3:=Tryz.isAgg3
 z3:=Tryz.sizeOf3
 v3:=Tryz.zeroValue3
 t4:=Tryz.underlying4
 a4:=Tryz.isAgg4
 z4:=Tryz.sizeOf4
 v4:=Tryz.zeroValue4
 t5:=Tryz.underlying5
 a5:=Tryz.isAgg5
 z5:=Tryz.sizeOf5
 v5:=Tryz.zeroValue5
 t9:=Tryz.underlying9
 a9:=Tryz.isAgg9
 z9:=Tryz.sizeOf9
 v9:=Tryz.zeroValue9
 t31:=Tryz.underlying23
 a31:=Tryz.isAgg23
 z31:=Tryz.sizeOf23
 v31:=Tryz.zeroValue23
 t46:=Tryz.underlying164
 a46:=Tryz.isAgg164
 z46:=Tryz.sizeOf164
 v46:=Tryz.zeroValue164
 t51:=Tryz.underlying183
 a51:=Tryz.isAgg183
 z51:=Tryz.sizeOf183
 v51:=Tryz.zeroValue183
 t53:=Tryz.underlying198
 a53:=Tryz.isAgg198
 z53:=Tryz.sizeOf198
 v53:=Tryz.zeroValue198
 t131:=Tryz.underlying100
 a131:=Tryz.isAgg100
 z131:=Tryz.sizeOf100
 v131:=Tryz.zeroValue100
 t182:=Tryz.underlying219
 a182:=Tryz.isAgg219
 z182:=Tryz.sizeOf219
 v182:=Tryz.zeroValue219
 t183:=Tryz.underlying220
 a183:=Tryz.isAgg220
 z183:=Tryz.sizeOf220
 v183:=Tryz.zeroValue220
 t218:=Tryz.underlying234
 a218:=Tryz.isAgg234
 z218:=Tryz.sizeOf234
 v218:=Tryz.zeroValue234
 t222:=Tryz.underlying238
 a222:=Tryz.isAgg238
 z222:=Tryz.sizeOf238
 v222:=Tryz.zeroValue238
 t228:=Tryz.underlying240
 a228:=Tryz.isAgg240
 z228:=Tryz.sizeOf240
 v228:=Tryz.zeroValue240
 t229:=Tryz.underlying241
 a229:=Tryz.isAgg241
 z229:=Tryz.sizeOf241
 v229:=Tryz.zeroValue241}
end Go.Proofs.YtgclceacfcdigaaGreatDoor
namespace Go.Proofs.YtgclceacfcdigaaGreatDoor
open Go.Pl Go.RowKit
open Enc (enc dec is)
open EncL (encL decL isL)
set_option maxRecDepth 100000
theorem UO:ZP Tryz.prog 89 (fun _:Str×Str×Unit=>true) (fun x:Str×Str×Unit=>x.2.1.s.isPrefixOf x.1.s):=Xt (by
  rintro⟨⟨s⟩,⟨p⟩,⟨⟩⟩ hps Φ w vs hL hΦ hv
  obtain⟨u,v,rfl,h1,h2⟩:=e4x hv
  rw[Q8 h1,Q8 h2]
  refine(Any.strings_HasPrefix Tryz.lays99 ⟨s.toArray⟩ ⟨p.toArray⟩ w).mono ?_
  rintro e w' ⟨rfl,rfl⟩
  exact⟨_,rfl,.bool _,.refl _ _⟩)
theorem e0u:ZP Tryz.prog 123 (fun x:Str×Unit=>decide (x.1.s.length<=1000000)) (fun x:Str×Unit=>YA x.1):=Xt (by
  rintro⟨⟨s⟩,⟨⟩⟩ hps Φ w vs hL hΦ a
  have hs:s.length<=1000000:=by simpa using hps
  obtain⟨v,rfl,h1⟩:=g2i a
  rw[Q8 h1]
  have g:(⟨s.toArray⟩:ByteArray).size=s.length:=rfl
  cases h:Lib.atoiAll s
  ·rename_i n
   have k:YA ⟨s⟩=(n,⟨false⟩):=by simp only[YA,h]
   rw[k]
   refine(Any.strconv_Atoi_ok Tryz.lays172 ⟨s.toArray⟩ (by rw[g];omega) n h w).mono ?_
   rintro e w' ⟨rfl,q⟩
   refine⟨_,rfl,.tup _ _ rfl ?_,?_⟩
   ·intro j v x a b
    match j with
    | 0=>cases a;cases b;exact .int _ _
    | 1=>cases a;cases b;exact .nili
    | j+2=>simp at a
   ·rcases q with rfl|⟨t,rfl⟩
    ·exact .refl _ _
    ·exact TW _ _ 0 _
  ·skip
   have k:YA ⟨s⟩=(0,⟨true⟩):=by simp only[YA,h]
   rw[k]
   obtain⟨cs,hc,ev,l,i⟩:=hL.syn
   refine(Any.strconv_Atoi_syntax Tryz.lays172 ⟨s.toArray⟩ (by rw[g];omega) h ev w (Js hΦ hc l) i).mono ?_
   rintro e w' ⟨N,rfl,_,_,hb⟩
   refine⟨_,rfl,.tup _ _ rfl ?_,hb⟩
   intro j v x a b
   match j with
   | 0=>cases a;cases b;exact .int _ _
   | 1=>cases a;cases b;exact .ifc _ _
   | j+2=>simp at a
  ·skip
   have k:YA ⟨s⟩=(Lib.atoiSat s,⟨true⟩):=by simp only[YA,h]
   rw[k]
   obtain⟨cs,hc,ev,l,i⟩:=hL.rng
   refine(Any.strconv_Atoi_range Tryz.lays172 ⟨s.toArray⟩ (by rw[g];omega) h ev w (Js hΦ hc l) i).mono ?_
   rintro e w' ⟨N,rfl,_,_,hb⟩
   refine⟨_,rfl,.tup _ _ rfl ?_,hb⟩
   intro j v x a b
   match j with
   | 0=>cases a;cases b;exact .int _ _
   | 1=>cases a;cases b;exact .ifc _ _
   | j+2=>simp at a)
theorem a6z:ZP Tryz.prog 154 (fun x:Int×Unit=>decide (-9223372036854775808<=x.1)&&decide (x.1<=9223372036854775807)) (fun x:Int×Unit=>PM x.1):=Xt (by
  rintro⟨n,⟨⟩⟩ hps Φ w vs hL hΦ hv
  obtain⟨v,rfl,h1⟩:=g2i hv
  have h1:RP Φ v (.int .i64 n):=h1
  rw[d5o h1]
  have hn : -9223372036854775808<=n∧n<=9223372036854775807:=by simpa using hps
  have hg:=hL.pow
  obtain⟨T,fz,hh⟩:=hΦ _ _ hg
  refine(Any.strconv_Itoa Tryz.lays171 n hn.1 hn.2 w ?_).mono ?_
  ·unfold Lib.TabIs World.var?
   rw[show Program.globalNamed Tryz.prog "internal/strconv.uint64pow10" = some 5 by kernel_rfl]
   simp only[Option.bind_some,hh]
   rfl
  ·rintro e w' ⟨rfl,k,os,rfl⟩
   refine⟨_,rfl,.str _,?_⟩
   exact⟨rfl,rfl,rfl,by show w.heap.size<=(w.heap++os).size;simp,fun j hj=>by show(w.heap++os)[j]? = _;rw[Array.getElem?_append_left hj]⟩)
end Go.Proofs.YtgclceacfcdigaaGreatDoor
namespace Go.Proofs.YtgclceacfcdigaaGreatDoor
open Go.Shelf
def Tryz.lays160_ren:Go.Shelf.Ren:=⟨fun|160=>140|232=>162|231=>161|227=>163|234=>165|233=>164|236=>167|235=>166|228=>177|271=>180|151=>179|197=>178|120=>189|152=>188|260=>187|137=>90|119=>207|224=>148|225=>147|217=>121|266=>146|n=>n,fun|9=>9|4=>4|3=>3|5=>5|117=>179|116=>178|0=>0|124=>182|21=>21|105=>195|46=>164|119=>226|139=>229|138=>228|n=>n,fun|3=>3|4=>4|n=>n⟩
theorem Tryz.lays160:Go.Proofs.Lays.n160 Tryz.prog Tryz.lays160_ren:={
 mixed:=by kernel_rfl
 f119:=Go.Pl.ck_ Tryz.func207
 f120:=Go.Pl.ck_ Tryz.func189
 f137:=Go.Pl.ck_ Tryz.func90
 f151:=Go.Pl.ck_ Tryz.func179
 f152:=Go.Pl.ck_ Tryz.func188
 f160:=Go.Pl.ck_ Tryz.func140
 f197:=Go.Pl.ck_ Tryz.func178
 f217:=Go.Pl.ck_ Tryz.func121
 f224:=Go.Pl.ck_ Tryz.func148
 f225:=Go.Pl.ck_ Tryz.func147
 f227:=Go.Pl.ck_ Tryz.func163
 f228:=Go.Pl.ck_ Tryz.func177
 f231:=Go.Pl.ck_ Tryz.func161
 f232:=Go.Pl.ck_ Tryz.func162
 f233:=Go.Pl.ck_ Tryz.func164
 f234:=Go.Pl.ck_ Tryz.func165
 f235:=Go.Pl.ck_ Tryz.func166
 f236:=Go.Pl.ck_ Tryz.func167
 f260:=Go.Pl.ck_ Tryz.func187
 f266:=Go.Pl.ck_ Tryz.func146
 f271:=Go.Pl.ck_ Tryz.func180
 t0:=Tryz.underlying0
 a0:=Tryz.isAgg0
 z0:=Tryz.sizeOf0
 v0:=Tryz.zeroValue0
 t3:=Tryz.underlying3
 a3:=Tryz.isAgg3
 z3:=Tryz.sizeOf3
 v3:=Tryz.zeroValue3
 t4:=Tryz.underlying4
 a4:=Tryz.isAgg4
 z4:=Tryz.sizeOf4
 v4:=Tryz.zeroValue4
 t5:=Tryz.underlying5
 a5:=Tryz.isAgg5
 z5:=Tryz.sizeOf5
 v5:=Tryz.zeroValue5
 t9:=Tryz.underlying9
 a9:=Tryz.isAgg9
 z9:=Tryz.sizeOf9
 v9:=Tryz.zeroValue9
 t21:=Tryz.underlying21
 a21:=Tryz.isAgg21
 z21:=Tryz.sizeOf21
 v21:=Tryz.zeroValue21
 t46:=Tryz.underlying164
 a46:=Tryz.isAgg164
 z46:=Tryz.sizeOf164
 v46:=Tryz.zeroValue164
 t105:=Tryz.underlying195
 a105:=Tryz.isAgg195
 z105:=Tryz.sizeOf195
 v105:=Tryz.zeroValue195
 t116:=Tryz.underlying178
 a116:=Tryz.isAgg178
 z116:=Tryz.sizeOf178
 t117:=Tryz.underlying179
 a117:=Tryz.isAgg179
 z117:=Tryz.sizeOf179
 v117:=Tryz.zeroValue179
 t119:=Tryz.underlying226
 a119:=Tryz.isAgg226
 z119:=Tryz.sizeOf226
 t124:=Tryz.underlying182
 a124:=Tryz.isAgg182
 z124:=Tryz.sizeOf182
 v124:=Tryz.zeroValue182
 t138:=Tryz.underlying228
 a138:=Tryz.isAgg228
 z138:=Tryz.sizeOf228
 v138:=Tryz.zeroValue228
 t139:=Tryz.underlying229
 a139:=Tryz.isAgg229
 z139:=Tryz.sizeOf229
 v139:=Tryz.zeroValue229
 g3:=by kernel_rfl
 g4:=by kernel_rfl}
end Go.Proofs.YtgclceacfcdigaaGreatDoor
namespace Go.Proofs.YtgclceacfcdigaaGreatDoor
open Go.Pl Go.RowKit
open Enc (enc dec is)
open EncL (encL decL isL)
set_option maxRecDepth 100000
theorem f5y: ∀ s:List UInt8,((s.dropWhile fun c=>c != 46)=[]->Lib.index s [46] = -1) ∧
  ∀ (c:UInt8) (r:List UInt8),(s.dropWhile fun c=>c != 46)=c::r->Lib.index s [46]=((s.takeWhile fun c=>c != 46).length:Nat)∧s.drop ((s.takeWhile fun c=>c != 46).length+1)=r∧s.take (s.takeWhile fun c=>c != 46).length=s.takeWhile fun c=>c != 46
 | []=>⟨fun _=>rfl,fun _ _ h=>by cases h⟩
 | b::l=>by
  obtain⟨h1,h2⟩:=f5y l
  by_cases hb:b=46
  ·subst hb
   refine⟨fun h=>by simp at h,fun c r h=> ?_⟩
   have h:(46:UInt8)::l=c::r:=by simpa using h
   cases h
   exact⟨rfl,rfl,rfl⟩
  ·have a:(b != 46)=true:=by simpa using hb
   have k:([46]:List UInt8).isPrefixOf (b::l)=false:=by simp[List.isPrefixOf];exact fun e=>hb e.symm
   have g:Lib.index (b::l) [46]=if Lib.index l [46] == -1 then -1 else Lib.index l [46]+1:=by rw[Lib.index,k];rfl
   rw[List.dropWhile_cons,if_pos a,List.takeWhile_cons,if_pos a]
   refine⟨fun h=>by rw[g,h1 h];rfl,fun c r h=> ?_⟩
   obtain⟨i,j,q⟩:=h2 c r h
   rw[g,i]
   refine⟨?_,?_,?_⟩
   ·rw[if_neg (by simp),List.length_cons];rfl
   ·rw[List.length_cons,List.drop_succ_cons];exact j
   ·rw[List.length_cons,List.take_succ_cons,q]
theorem e6z(s:List UInt8):Lib.cut s [46]=((Qw ⟨s⟩).a.s,(Qw ⟨s⟩).b.s,(Qw ⟨s⟩).c):=by
 obtain⟨h1,h2⟩:=f5y s
 unfold Lib.cut Qw
 cases hd:s.dropWhile fun c=>c != 46 with
 | nil=>
  rw[h1 hd]
  rfl
 | cons c r=>
  obtain⟨e,g,h⟩:=h2 c r hd
  rw[e,if_pos (by omega),Int.toNat_natCast,h]
  show(_,s.drop ((s.takeWhile fun c=>c != 46).length+1),true)=_
  rw[g]
theorem d1o:ZP Tryz.prog 136 (fun x:Str×Str×Unit=>decide (x.1.s.length<=1048576)&&decide (x.2.1.s=[46])) (fun x:Str×Str×Unit=>Qw x.1):=Xt (by
  rintro⟨⟨s⟩,⟨p⟩,⟨⟩⟩ hps Φ w vs hL hΦ a
  simp only[Bool.and_eq_true,decide_eq_true_eq]at hps
  obtain⟨hs,g⟩:=hps
  have g:p=[46]:=g
  subst g
  obtain⟨u,v,rfl,h1,h2⟩:=e4x a
  rw[Q8 h1,Q8 h2]
  obtain⟨cs,m,hc,hm⟩:=hL.mx
  have b:(⟨s.toArray⟩:ByteArray).size=s.length:=rfl
  refine(Any.strings_Cut Tryz.lays145 ⟨s.toArray⟩ ⟨#[46]⟩ m w (by rw[b];have hs:s.length<=1048576:=hs;omega) (Js hΦ hc hm)).mono ?_
  rintro e w' ⟨rfl,k,rfl⟩
  refine⟨_,rfl,.tup _ _ rfl ?_,?_⟩
  ·rw[show(⟨s.toArray⟩:ByteArray).data.toList=s from rfl,show(⟨#[46]⟩:ByteArray).data.toList=[46]from rfl,e6z]
   intro j v x a h
   match j with
   | 0=>cases a;cases h;exact .str _
   | 1=>cases a;cases h;exact .str _
   | 2=>cases a;cases h;exact .bool _
   | j+3=>simp at a
  ·exact⟨rfl,rfl,rfl,Nat.le_refl _,fun _ _=>rfl⟩)
theorem f0r:ZP Tryz.prog 90 (fun x:Str×UInt8×Unit=>decide (x.1.s.length<=1048576)) (fun x:Str×UInt8×Unit=>Lib.indexByte x.1.s x.2.1):=Xt (by
  rintro⟨⟨s⟩,c,⟨⟩⟩ hps Φ w vs hL hΦ hv
  obtain⟨u,v,rfl,h1,h2⟩:=e4x hv
  rw[Q8 h1,d5o h2]
  refine(Any.strings_IndexByte Tryz.lays137 ⟨s.toArray⟩ (c.toNat:Int) w).mono ?_
  rintro e w' ⟨rfl,rfl⟩
  have hc:((c.toNat:Int)).toNat.toUInt8=c:=by
   rw[Int.toNat_natCast]
   exact UInt8.ofNat_toNat
  rw[hc]
  exact⟨_,rfl,.int _ _,.refl _ _⟩)
theorem e2h:ZP Tryz.prog 65 (fun x:Str×Str×Unit=>decide (x.1.s.length<=1048576)&&decide (x.2.1.s=[10])) (fun x:Str×Str×Unit=>(Lib.countByte x.1.s 10:Int)):=Xt (by
  rintro⟨⟨s⟩,⟨p⟩,⟨⟩⟩ hps Φ w vs hL hΦ hv
  obtain⟨-,rfl⟩:s.length<=1048576∧p=[10]:=by simpa using hps
  obtain⟨u,v,rfl,h1,h2⟩:=e4x hv
  rw[Q8 h1,Q8 h2]
  refine(Any.strings_Count_one Tryz.lays138 ⟨s.toArray⟩ 10 w).mono ?_
  rintro e w' ⟨rfl,rfl⟩
  exact⟨_,rfl,.int _ _,.refl _ _⟩)
theorem c7w:ZP Tryz.prog 140 (fun x:Str×Str×Unit=>decide (x.1.s.length<=1048576)&&decide (x.2.1.s=Hu)) (fun x:Str×Str×Unit=>(⟨PO x.1.s⟩:Str)):=Xt (by
  rintro⟨⟨s⟩,⟨p⟩,⟨⟩⟩ hps Φ w vs hL hΦ hv
  simp only[Bool.and_eq_true,decide_eq_true_eq]at hps
  obtain⟨hs,a⟩:=hps
  have a:p=Hu:=a
  subst a
  obtain⟨u,v,rfl,h1,h2⟩:=e4x hv
  rw[Q8 h1,Q8 h2]
  have b:(⟨s.toArray⟩:ByteArray).size=s.length:=rfl
  refine(Any.strings_Trim_laid Tryz.lays160 (by kernel_rfl) ⟨s.toArray⟩ ⟨Hu.toArray⟩ w (by rw[b];have hs:s.length<=1048576:=hs;omega) (by decide) (ascii_of_all (l:=Hu) (by decide))).mono ?_
  rintro e w' ⟨rfl,hb⟩
  exact⟨_,rfl,.str _,hb⟩)
end Go.Proofs.YtgclceacfcdigaaGreatDoor
namespace Go.Proofs.YtgclceacfcdigaaGreatDoor
open Go.RowKit Go.Lib Go.Pl
theorem e3g:(Tryz.prog.info? 3).map (fun i=>(i.zero,i.size,i.bytes))=some (some (.int .i64 0),1,8):=by kernel_rfl
theorem BL:Tryz.prog.underlying 25=some (.slice 3):=by kernel_rfl
theorem b8f(n c:Nat)(w:World):Calls Tryz.prog 134 #[.slice none n c] w fun e w'=>e = .returned (.slice none 0 0)∧w'=w:=by
 have q22 : ∀ (w:World) (a:Option Addr) (n c g b:Nat),(binOp .eql 25 (.slice a n c) (.slice none g b)).run Tryz.prog w = .ok (.bool a.isNone) w:=fun w a n c g b=>Lib.run_eql_slice_nil w _ _ a n c g b BL
 go_enter Tryz.func134,Tryz.ntmps134
 go_wp2
 go_ret
 exact⟨rfl,rfl⟩
theorem b0p(a:Addr)(c:Nat)(w:World):Calls Tryz.prog 134 #[.slice (some a) 0 c] w fun e w'=>(∃ g,e = .returned (.slice (some g) 0 0))∧Below w.heap.size w w':=by
 have q22 : ∀ (w:World) (a:Option Addr) (n c h b:Nat),(binOp .eql 25 (.slice a n c) (.slice none h b)).run Tryz.prog w = .ok (.bool a.isNone) w:=fun w a n c h b=>Lib.run_eql_slice_nil w _ _ a n c h b BL
 obtain⟨i0,hi,hz0,hz1,hz2⟩:=info_parts e3g
 go_enter Tryz.func134,Tryz.ntmps134
 go_wp2_with (at_builtin;refine Lib.wpList_append_run _ rfl _ _ _ _ rfl _ _ rfl rfl _ _ (VI BL hi (Nat.le_refl _)) ?_)
 go_ret
 exact⟨⟨_,rfl⟩,(Below.refl _ w).alloc (Nat.le_refl _) _⟩
theorem a8m(a:Addr)(n c:Nat)(news:List Value)(w:World)(h0:0<n)(hn:n<=2000000)(z:news.length=n*1)(hc : ∀ j u,news[j]? = some u->w.cell? (a.add j)=some u)(h1 : ∀ u∈news,u.oneCell'=true):
  Calls Tryz.prog 134 #[.slice (some a) n c] w fun e w'=> ∃ v',e = .returned v'∧w'.ownsRow w.heap.size 3 1 v' n news∧Below w.heap.size w w':=by
 have q22 : ∀ (w:World) (a:Option Addr) (n c h q:Nat),(binOp .eql 25 (.slice a n c) (.slice none h q)).run Tryz.prog w = .ok (.bool a.isNone) w:=fun w a n c h q=>Lib.run_eql_slice_nil w _ _ a n c h q BL
 obtain⟨B,hi,l,r,i⟩:=info_parts e3g
 have A:Aside (∀ j u,news[j]? = some u->w.cell? (a.add j)=some u):=hc
 clear hc
 go_enter Tryz.func134,Tryz.ntmps134
 go_wp2_with (at_builtin;refine wpList_append_own _ rfl _ _ 25 rfl w.heap.size 3 B (.int .i64 0) 1 8 BL hi l r i rfl (by decide) _ _ _ rfl (World.ownsRow_made w #[] 0 (Nat.le_refl _) (Nat.zero_le _) rfl) a n c news rfl ?qc1 ?qc2 ?qc3 ?qc4 ?qc5 ?qc6 ?_)
 case qc1=>exact z
 case qc2=>intro j u s;exact Lib.cell?_alloc_some _ (A.out j u s)
 case qc3=>exact h1
 case qc4=>unfold maxLen;omega
 case qc5=>omega
 case qc6=>simp
 intro v' w1 g b hnil
 go_wp2
 go_ret
 refine⟨v',rfl,by simpa using g,?_⟩
 exact((Below.refl _ w).alloc (Nat.le_refl _) _).grown b (by simp) (by intro k y;simp[Value.ownBlock]at y;omega)
theorem g0r:CloneC Tryz.prog 134 3 1:=⟨b8f,b0p,a8m⟩
end Go.Proofs.YtgclceacfcdigaaGreatDoor
namespace Go.Proofs.YtgclceacfcdigaaGreatDoor
open Go.Pl
open Enc (enc dec is)
open EncL (encL decL isL)
set_option maxRecDepth 100000
theorem U9:Tryz.prog.follows .mixedOrders=true:=by kernel_rfl
theorem tq{f:Nat}{D:Den}{l:List (Nat×Den)}{fn:Func}(hf:Tryz.prog.funcs[f]? = some fn)(h:c0d Tryz.prog f D)(k:Yn Tryz.prog (YN l))(hb:(fn.body.isSome&& !(fn.name == "runtime.NumGoroutine"))=true:=by kernel_rfl):Yn Tryz.prog (YN ((f,D)::l)):=Wx (ent hf hb h) k
theorem dq{f nt:Nat}{α β:Type}[EncL α][Enc β]{fn:Func}{T:ZM}{ic:IC}{rs:List IRes}{pre:α->Bool}{F:α->β}(h : ∀ a,pre a=true->Zi T 0 (Za rs (Zd (F a))) ic [] (Ye nt (encL a)))(j:Yn Tryz.prog T)(i:Tryz.prog.funcs[f]? = some fn)(g:Rl Tryz.prog fn=some ic:=by kernel_rfl)(e:XH (Xc Tryz.prog) fn.results.toList=some rs:=by kernel_rfl)(b:fn.ntmps=nt:=by kernel_rfl):ZP Tryz.prog f pre F:=ZP.of j U9 i g e b h
theorem C8{α β S:Type}[EncL α][Enc β][EncL S]{T:ZM}{f:Nat}{fn:Func}{ic:IC}{rs:List IRes}{mk:α->List AV}{b e:List AObj}{pre:S->α->Bool}{un:List AV->α}{F:S->α->β×S}{nt k:Nat}(h : ∀ s a,pre s a=true->Zi T k (ZE k rs (ZJ b e (F s a).1 (F s a).2)) ic [] (Z8 nt (mk a) (b++Zj s::e)))(hm:Nr mk un)(r:Yn Tryz.prog T)(q:Tryz.prog.funcs[f]? = some fn)(l:b.length+1+e.length=k:=by exact rfl)(j:Rl Tryz.prog fn=some ic:=by kernel_rfl)(i:XH (Xc Tryz.prog) fn.results.toList=some rs:=by kernel_rfl)(g:fn.ntmps=nt:=by kernel_rfl):Ya Tryz.prog f mk un b e pre F:=Ya.of hm r U9 q j i g l h
theorem OU:ZP Tryz.prog 123 (fun x:Str×Unit=>decide (x.1.s.length<=281474976710656)) (fun x:Str×Unit=>YA x.1):=Xt (by
  rintro⟨⟨s⟩,⟨⟩⟩ hps Φ w vs hL hΦ a
  have hs:s.length<=281474976710656:=by simpa using hps
  obtain⟨v,rfl,h1⟩:=g2i a
  rw[Q8 h1]
  have g:(⟨s.toArray⟩:ByteArray).size=s.length:=rfl
  cases h:Lib.atoiAll s
  ·rename_i n
   have k:YA ⟨s⟩=(n,⟨false⟩):=by simp only[YA,h]
   rw[k]
   refine(Any.strconv_Atoi_ok Tryz.lays172 ⟨s.toArray⟩ (by rw[g];omega) n h w).mono ?_
   rintro e w' ⟨rfl,q⟩
   refine⟨_,rfl,.tup _ _ rfl ?_,?_⟩
   ·intro j v x a b
    match j with
    | 0=>cases a;cases b;exact .int _ _
    | 1=>cases a;cases b;exact .nili
    | j+2=>simp at a
   ·rcases q with rfl|⟨t,rfl⟩
    ·exact .refl _ _
    ·exact TW _ _ 0 _
  ·skip
   have k:YA ⟨s⟩=(0,⟨true⟩):=by simp only[YA,h]
   rw[k]
   obtain⟨cs,hc,ev,l,i⟩:=hL.syn
   refine(Any.strconv_Atoi_syntax Tryz.lays172 ⟨s.toArray⟩ (by rw[g];omega) h ev w (Js hΦ hc l) i).mono ?_
   rintro e w' ⟨N,rfl,_,_,hb⟩
   refine⟨_,rfl,.tup _ _ rfl ?_,hb⟩
   intro j v x a b
   match j with
   | 0=>cases a;cases b;exact .int _ _
   | 1=>cases a;cases b;exact .ifc _ _
   | j+2=>simp at a
  ·skip
   have k:YA ⟨s⟩=(Lib.atoiSat s,⟨true⟩):=by simp only[YA,h]
   rw[k]
   obtain⟨cs,hc,ev,l,i⟩:=hL.rng
   refine(Any.strconv_Atoi_range Tryz.lays172 ⟨s.toArray⟩ (by rw[g];omega) h ev w (Js hΦ hc l) i).mono ?_
   rintro e w' ⟨N,rfl,_,_,hb⟩
   refine⟨_,rfl,.tup _ _ rfl ?_,hb⟩
   intro j v x a b
   match j with
   | 0=>cases a;cases b;exact .int _ _
   | 1=>cases a;cases b;exact .ifc _ _
   | j+2=>simp at a)
theorem e1s:Xi Tryz.prog 176 Uz QI:=c9c (Any.slices_Sort_string Tryz.lays190) (Any.slices_Sort_string_none Tryz.lays190)
theorem Eh:ZP Tryz.prog 131 (fun _:Int×Unit=>true) (fun x:Int×Unit=>YF x.1):=dq f2s Zb Tryz.func131
theorem a5x:ZP Tryz.prog 130 (fun x:Str×Unit=>decide (x.1.s.length<=1000000)) (fun x:Str×Unit=>nameB x.1):=dq c9r (tq Tryz.func89 UO (tq Tryz.func123 e0u (tq Tryz.func154 a6z Zb))) Tryz.func130
theorem TT:ZP Tryz.prog 130 (fun x:Str×Unit=>decide (x.1.s.length<=281474976710656)) (fun x:Str×Unit=>nameB x.1):=dq b4a (tq Tryz.func89 UO (tq Tryz.func123 OU (tq Tryz.func154 a6z Zb))) Tryz.func130
theorem JC:ZP Tryz.prog 105 (fun x:Lin×Unit=>ZZ x.1) (fun x:Lin×Unit=>Zt x.1):=dq b5h (tq Tryz.func131 Eh (tq Tryz.func130 a5x Zb)) Tryz.func105
theorem Jy:ZP Tryz.prog 105 (fun x:Lin×Unit=>XI x.1) (fun x:Lin×Unit=>Zt x.1):=dq c6l (tq Tryz.func131 Eh (tq Tryz.func130 TT Zb)) Tryz.func105
theorem J2:ZP Tryz.prog 94 (fun _:UInt8×Unit=>true) (fun x:UInt8×Unit=>lowB x.1):=dq b8u Zb Tryz.func94
theorem Bw:ZP Tryz.prog 97 (fun _:UInt8×Unit=>true) (fun x:UInt8×Unit=>digB x.1):=dq b9q Zb Tryz.func97
theorem DW:ZP Tryz.prog 95 (fun x:Str×Bool×Unit=>decide (x.1.s.length<=1048576)) (fun x:Str×Bool×Unit=>XX x.1 x.2.1):=dq d1d (tq Tryz.func97 Bw (tq Tryz.func94 J2 Zb)) Tryz.func95
theorem Hq:ZP Tryz.prog 96 (fun _:Str×Unit=>true) (fun x:Str×Unit=>QW.contains x.1.s):=dq d2w Zb Tryz.func96
theorem UQ:ZP Tryz.prog 72 (fun x:Str×Unit=>decide (x.1.s.length<=1048576)) (fun x:Str×Unit=>nameI x.1.s):=dq c6y (tq Tryz.func94 J2 (tq Tryz.func95 DW (tq Tryz.func96 Hq Zb))) Tryz.func72
theorem KT:ZP Tryz.prog 109 (fun x:Str×Unit=>decide (x.1.s.length<=1048576)) (fun x:Str×Unit=>fullI x.1.s):=dq c9w (tq Tryz.func136 d1o (tq Tryz.func72 UQ Zb)) Tryz.func109
theorem Ht:ZP Tryz.prog 77 (fun x:Str×Unit=>decide (x.1.s.length<=1048576)) (fun x:Str×Unit=>LG x.1.s):=dq e4w (tq Tryz.func72 UQ (tq Tryz.func109 KT Zb)) Tryz.func77
theorem NZ:ZP Tryz.prog 74 (fun x:Tm×Unit=>nW x.1) (fun x:Tm×Unit=>CL x.1.nd):=dq d8q Zb Tryz.func74
theorem L9:ZP Tryz.prog 104 (fun x:Lin×Unit=>XI x.1) (fun x:Lin×Unit=> !(Zt x.1)):=dq e1i (tq Tryz.func105 Jy Zb) Tryz.func104
theorem e6t:ZP Tryz.prog 129 (fun x:List Lin×FnV 104×Unit=>decide (x.1.length<=1048576)&&x.1.all XI) (fun x:List Lin×FnV 104×Unit=>XT (fun l:Lin=> !(Zt l)) x.1):=dq f0h (tq Tryz.func104 L9 Zb) Tryz.func129
theorem f3r:ZP Tryz.prog 103 (fun x:List Lin×FnV 104×Unit=>decide (x.1.length<=1048576)&&x.1.all XI) (fun x:List Lin×FnV 104×Unit=>x.1.any fun l:Lin=> !(Zt l)):=dq e7f (tq Tryz.func129 e6t Zb) Tryz.func103
theorem BQ:ZP Tryz.prog 73 (fun x:Tm×Int×Int×Unit=>nW x.1) (fun x:Tm×Int×Int×Unit=>XA x.1.nd x.2.1 x.2.2.1):=dq b2p (tq Tryz.func103 f3r Zb) Tryz.func73
theorem Em:ZP Tryz.prog 108 (fun _:Int×Unit=>true) (fun x:Int×Unit=>YE x.1):=dq d7a Zb Tryz.func108
theorem f2u:ZP Tryz.prog 135 (fun x:List Int×FnV 108×Unit=>decide (x.1.length<=1048576)) (fun x:List Int×FnV 108×Unit=>XT YE x.1):=dq e6s (tq Tryz.func108 Em Zb) Tryz.func135
theorem f3m:ZP Tryz.prog 107 (fun x:List Int×FnV 108×Unit=>decide (x.1.length<=1048576)) (fun x:List Int×FnV 108×Unit=>x.1.any YE):=dq f0o (tq Tryz.func135 f2u Zb) Tryz.func107
theorem a9w:ZP Tryz.prog 76 (fun x:Tm×Unit=>nW x.1) (fun x:Tm×Unit=>callB x.1.nd x.1.ks.length):=dq c8i (tq Tryz.func77 Ht (tq Tryz.func73 BQ (tq Tryz.func107 f3m Zb))) Tryz.func76
theorem e2k:Ws Tryz.prog 175 YD G7:=JU (T:=QC) (ic:=V9) (rs:=Us) Zb U9 Tryz.func175 (by kernel_rfl) (by kernel_rfl) (by kernel_rfl) c6w
theorem a8h:Ws Tryz.prog 155 YD QH:=JU (T:=D9) (ic:=Hy) (rs:=Hw) (tq Tryz.func175 e2k Zb) U9 Tryz.func155 (by kernel_rfl) (by kernel_rfl) (by kernel_rfl) a0b
theorem f1b:Ws Tryz.prog 132 KY Xn:=JU (T:=WG) (ic:=XF) (rs:=XD) (tq Tryz.func155 a8h Zb) U9 Tryz.func132 (by kernel_rfl) (by kernel_rfl) (by kernel_rfl) d2z
theorem d3e:ZP Tryz.prog 132 (fun _:List Int×Unit=>true) (fun x:List Int×Unit=>Xz x.1):=ZP.ofPure f1b fun⟨l,_⟩ h=>⟨by show(Zx l).all PV.isNum=true;simp,by show Zd _ (.tup [.int .i64 (Xz ((Zx l).map PV.asInt)).1,.int .i64 (Xz ((Zx l).map PV.asInt)).2]);rw[Xw];exact Zp (x:=Xz l) rfl⟩
theorem c6h:ZP Tryz.prog 134 (fun x:List Int×Unit=>decide (x.1.length<=2000000)) (fun x:List Int×Unit=>x.1):=b4r (α:=Int) (by decide) (c6e g0r (by decide))
theorem a3i:ZP Tryz.prog 157 (fun _:Str×Int×Unit=>true) (fun x:Str×Int×Unit=>WA x.1 x.2.1):=dq e6n Zb Tryz.func157
theorem f7k:Xi Tryz.prog 156 RQ a5f:=FL (T:=e3p) (ic:=b6x) (rs:=b9u) (tq Tryz.func157 a3i Zb) U9 Tryz.func156 (by kernel_rfl) (by kernel_rfl) (by kernel_rfl) e9w
theorem f8m:Xi Tryz.prog 135 Uq RY:=FL (T:=PY) (ic:=CP) (rs:=Cb) (tq Tryz.func156 f7k Zb) U9 Tryz.func135 (by kernel_rfl) (by kernel_rfl) (by kernel_rfl) f1i
theorem f8b:Xi Tryz.prog 107 Uq a4n:=FL (T:=d3y) (ic:=b4d) (rs:=b7q) (tq Tryz.func135 f8m Zb) U9 Tryz.func107 (by kernel_rfl) (by kernel_rfl) (by kernel_rfl) f2o
theorem a6w:ZP Tryz.prog 133 (fun x:Str×List Int×Unit=>decide (x.2.1.length<=2000000)) (fun x:Str×List Int×Unit=>x.2.1.all (WA x.1)):=dq a3r (tq Tryz.func107 f8b Zb) Tryz.func133
theorem c9f:ZP Tryz.prog 106 (fun x:Str×List Int×List Int×Unit=>decide (x.2.1.length<=2000000)&&decide (x.2.2.1.length<=2000000)) (fun x:Str×List Int×List Int×Unit=>Gh x.1 x.2.1 x.2.2.1):=dq e0w (tq Tryz.func132 d3e (tq Tryz.func133 a6w (tq Tryz.func134 c6h Zb))) Tryz.func106
theorem a0k:ZP Tryz.prog 75 (fun x:Arr×Unit=>Lv x.1) (fun x:Arr×Unit=>MO x.1):=dq e8z (tq Tryz.func106 c9f Zb) Tryz.func75
theorem b1h:ZP Tryz.prog 52 (fun x:Tm×Unit=>nW x.1) (fun x:Tm×Unit=>Bv x.1):=dq d0c (tq Tryz.func72 UQ (tq Tryz.func73 BQ (tq Tryz.func74 NZ (tq Tryz.func75 a0k (tq Tryz.func76 a9w (tq Tryz.func77 Ht Zb)))))) Tryz.func52
theorem g1v:Xi Tryz.prog 51 Bu (a0j 70):=FL (T:=b8x) (ic:=a3b) (rs:=a3t) Zb U9 Tryz.func51 (by kernel_rfl) (by kernel_rfl) (by kernel_rfl) d5t
theorem c5w{cd:Code}(h:Dw Tryz.prog e0g Tryz.f28 0=some cd):C9 Tryz.prog cd=some (.t 7,[8,9],M3,Ml):=by
 have:(Dw Tryz.prog e0g Tryz.f28 0).bind (C9 Tryz.prog)=some (.t 7,[8,9],M3,Ml):=by kernel_rfl
 rw[h]at this
 exact this
theorem f1l(e:Yn Tryz.prog Dx): ∀ (B:Nat) (c:Ctx),c.w0.heap.size=B->(∀ i m,0<=i->c.μ0 i m=none)->d6c (Ng B 4 e U9) (fun n cd=>Dw Tryz.prog e0g Tryz.f28 n=some cd) tvE c:=by
 rintro B c h j n cd b st a w q hr ⟨rfl,g⟩
 exact c5x e U9 d8g (fun x=>by obtain⟨t,l⟩:=x;rfl) (c5w b) h j hr g
theorem c3c:Yn Tryz.prog Dx:=(tq Tryz.func51 g1v (tq Tryz.func52 b1h Zb))
theorem DL:ZP Tryz.prog 28 (fun x:Tm×Unit=>gW x.1) (fun x:Tm×Unit=>YJ x.1):=ZP.ofM (T:=Dx) (ic:=Sq) (rs:=D6) (E:=tvE) (sel:=e0g) c3c U9 Tryz.func28 (by kernel_rfl) (by kernel_rfl) (by kernel_rfl) (f1l c3c) f3g
theorem M9:Yn Tryz.prog Wo:=(tq Tryz.func176 e1s (tq Tryz.func105 JC Zb))
theorem c8n{cd:Code}(h:Dw Tryz.prog e3n Tryz.f160 0=some cd):Bt Tryz.prog cd=some d6b:=by
 have:(Dw Tryz.prog e3n Tryz.f160 0).bind (Bt Tryz.prog)=some d6b:=by kernel_rfl
 rw[h]at this
 exact this
theorem e7v(args:List AV)(os:List AObj)(h:WN args os=true)(c:Ctx)(e : ∀ i m,os.length<=i->c.μ0 i m=none):d6c (Pg M9 U9) (fun n cd=>Dw Tryz.prog e3n Tryz.f160 n=some cd) Ex c:=by
 rintro n cd b st a w q hr ⟨rfl,g⟩
 have h2:os.length=2:=by
  unfold WN at h
  split at h
  ·rfl
  ·cases h
 rw[h2]at e
 exact f0u M9 U9 (c8n b) e hr g
theorem e7h:Xi Tryz.prog 160 WN K4:=g6c (T:=Wo) (ic:=X5) (rs:=X6) (E:=Ex) (sel:=e3n) M9 U9 Tryz.func160 (by kernel_rfl) (by kernel_rfl) (by kernel_rfl) e7v d5b e0p
theorem g0z:Xi Tryz.prog 160 WN R6:=f0z e7h
theorem f7m:Xi Tryz.prog 159 Kt R8:=FL (T:=Gt) (ic:=Ku) (rs:=Kv) Zb U9 Tryz.func159 (by kernel_rfl) (by kernel_rfl) (by kernel_rfl) e6x
theorem Gd:ZP Tryz.prog 139 (fun x:Lin×Lin×Int×Unit=>ZZ x.1&&ZZ x.2.1) (fun x:Lin×Lin×Int×Unit=>ZV x.1 x.2.1 x.2.2.1):=dq b1d (tq Tryz.func105 JC (tq Tryz.func159 f7m (tq Tryz.func160 g0z Zb))) Tryz.func139
theorem Fy:ZP Tryz.prog 113 (fun x:Lin×Lin×Unit=>ZZ x.1&&ZZ x.2.1) (fun x:Lin×Lin×Unit=>ZV x.1 x.2.1 1):=dq d0l (tq Tryz.func139 Gd Zb) Tryz.func113
theorem Tx:ZP Tryz.prog 112 (fun x:Lin×Int×Unit=>ZZ x.1) (fun x:Lin×Int×Unit=>Q6 x.1 x.2.1):=dq b5a (tq Tryz.func139 Gd Zb) Tryz.func112
theorem c9y:ZP Tryz.prog 138 (fun _:Int×Unit=>true) (fun x:Int×Unit=>(⟨x.1,[]⟩:Lin)):=dq e9o Zb Tryz.func138
theorem F6:ZP Tryz.prog 114 (fun x:Lin×Lin×Unit=>ZZ x.1&&ZZ x.2.1) (fun x:Lin×Lin×Unit=>ZV x.1 x.2.1 (-1)):=dq c9v (tq Tryz.func139 Gd Zb) Tryz.func114
theorem b7a:ZP Tryz.prog 137 (fun _:Str×Unit=>true) (fun x:Str×Unit=>Rc x.1):=dq f3b Zb Tryz.func137
theorem He:ZP Tryz.prog 98 (fun x:Str×Unit=>decide (x.1.s.length<=1048576)) (fun x:Str×Unit=>Ql x.1):=dq f0p (tq Tryz.func95 DW (tq Tryz.func123 OU Zb)) Tryz.func98
theorem g3i:Ws Tryz.prog 99 Rw a0c:=JU (T:=d8y) (ic:=b8p) (rs:=b5c) Zb U9 Tryz.func99 (by kernel_rfl) (by kernel_rfl) (by kernel_rfl) fun ps h=>c4f (e9a ps h)
theorem a0y:ZP Tryz.prog 64 (fun x:Str×Unit=>decide (x.1.s.length<=1048576)) (fun x:Str×Unit=>J3 x.1):=dq f3p (tq Tryz.func89 UO (tq Tryz.func90 f0r Zb)) Tryz.func64
theorem a4w:ZP Tryz.prog 66 (fun x:Str×Unit=>decide (x.1.s.length<=1048576)) (fun x:Str×Unit=>Wv x.1):=dq f4c (tq Tryz.func94 J2 (tq Tryz.func95 DW (tq Tryz.func96 Hq (tq Tryz.func72 UQ (tq Tryz.func97 Bw (tq Tryz.func98 He (tq Tryz.func89 UO (tq Tryz.func99 g3i Zb)))))))) Tryz.func66
theorem Lu:ZP Tryz.prog 48 (fun _:Str×Unit=>true) (fun x:Str×Unit=>KJ x.1):=dq e7q (tq Tryz.func64 a0y (tq Tryz.func65 e2h (tq Tryz.func66 a4w Zb))) Tryz.func48
theorem g0y:Ws Tryz.prog 124 a5p a2s:=JU (T:=b6r) (ic:=a5g) (rs:=EF) Zb U9 Tryz.func124 (by kernel_rfl) (by kernel_rfl) (by kernel_rfl) fun ps h=>c4f (e5f ps h)
theorem EZ:ZP Tryz.prog 101 (fun _:Str×Bool×Unit=>true) (fun x:Str×Bool×Unit=>Dr x.1 x.2.1):=dq d3f (tq Tryz.func124 g0y Zb) Tryz.func101
theorem c7l:ZP Tryz.prog 115 (fun x:Str×Unit=>decide (x.1.s.length<=1048576)) (fun x:Str×Unit=>evB x.1.s):=dq e7m (tq Tryz.func140 c7w Zb) Tryz.func115
theorem c6u:ZP Tryz.prog 141 (fun x:Lin×Unit=>XI x.1) (fun x:Lin×Unit=> !(Zt x.1)):=dq f2l (tq Tryz.func105 Jy Zb) Tryz.func141
theorem f0b:ZP Tryz.prog 129 (fun x:List Lin×FnV 141×Unit=>decide (x.1.length<=1048576)&&x.1.all XI) (fun x:List Lin×FnV 141×Unit=>XT (fun l:Lin=> !(Zt l)) x.1):=dq f2j (tq Tryz.func141 c6u Zb) Tryz.func129
theorem e6f:ZP Tryz.prog 103 (fun x:List Lin×FnV 141×Unit=>decide (x.1.length<=1048576)&&x.1.all XI) (fun x:List Lin×FnV 141×Unit=>x.1.any fun l:Lin=> !(Zt l)):=dq e9q (tq Tryz.func129 f0b Zb) Tryz.func103
theorem a0q:ZP Tryz.prog 116 (fun x:Sp×Unit=>spW x.1) (fun x:Sp×Unit=>shV x.1.row x.1.dims):=dq b5x (tq Tryz.func130 TT (tq Tryz.func103 e6f Zb)) Tryz.func116
theorem LF:ZP Tryz.prog 80 (fun x:TyS×Unit=>Rk x.1) (fun x:TyS×Unit=>Du x.1):=dq a8f (tq Tryz.func115 c7l (tq Tryz.func116 a0q Zb)) Tryz.func80
theorem Y1: Ya Tryz.prog 38 ZH Y4 [] [] (fun(s:PS) (a:Int×Unit)=>Ze s&&(decide (0<=a.1)&&decide (a.1<=1000))) Nb:=C8 (e8n) ZQ Zb Tryz.func38
theorem UB: Ya Tryz.prog 50 ZH Y4 [] [] (fun(s:PS) (_:Unit)=>Ze s) Om:=C8 (f2b) ZQ (tq Tryz.func38 Y1 Zb) Tryz.func50
theorem Wq: Ya Tryz.prog 37 ZH Y4 [] [] (fun(s:PS) (_:Str×Unit)=>Ze s) CJ:=C8 (f3i) ZQ (tq Tryz.func38 Y1 Zb) Tryz.func37
theorem YO: Ya Tryz.prog 35 ZH Y4 [] [] (fun(s:PS) (_:Str×Unit)=>Ze s) Oh:=C8 (f0x) ZQ (tq Tryz.func37 Wq Zb) Tryz.func35
theorem VN: Ya Tryz.prog 33 ZH Y4 [] [] (fun(s:PS) (_:Str×Unit)=>Ze s) Mh:=C8 (e7j) ZQ (tq Tryz.func35 YO (tq Tryz.func50 UB Zb)) Tryz.func33
theorem WZ: Ya Tryz.prog 34 ZH Y4 [] [] (fun(s:PS) (_:Unit)=>Ze s) Me:=C8 (e9u) ZQ (tq Tryz.func38 Y1 (tq Tryz.func50 UB Zb)) Tryz.func34
theorem Vl: Ya Tryz.prog 100 ZH Y4 [] [] (fun(s:PS) (_:Int×Unit)=>Ze s) b5g:=C8 (e7a) ZQ (tq Tryz.func38 Y1 (tq Tryz.func98 He (tq Tryz.func50 UB Zb))) Tryz.func100
theorem Lh: Ya Tryz.prog 111 ZH Y4 [] [] (fun(s:PS) (_:Lin×Int×Unit)=>Ze s) O3:=C8 (f0k) ZQ Zb Tryz.func111
theorem b5u: Ya Tryz.prog 110 ZH Y4 [] [] (fun(s:PS) (_:Unit)=>Ze s) FT:=C8 (e7r) ZQ (tq Tryz.func38 Y1 (tq Tryz.func34 WZ (tq Tryz.func137 b7a (tq Tryz.func100 Vl (tq Tryz.func111 Lh (tq Tryz.func112 Tx (tq Tryz.func138 c9y Zb))))))) Tryz.func110
theorem Bo: Ya Tryz.prog 79 ZH Y4 [] [] (fun(s:PS) (_:Unit)=>Ze s) c5m:=C8 (e7c) ZQ (tq Tryz.func35 YO (tq Tryz.func110 b5u (tq Tryz.func111 Lh (tq Tryz.func112 Tx (tq Tryz.func113 Fy (tq Tryz.func114 F6 (tq Tryz.func105 JC Zb))))))) Tryz.func79
theorem a7b: Ya Tryz.prog 36 (Ry 34) CY [] [] (fun(s:PS) (_:Unit)=>Ze s) (Xl PS.name):=C8 (e7e) (H7 _) (tq Tryz.func34 WZ (tq Tryz.func35 YO Zb)) Tryz.func36
theorem TC: Ya Tryz.prog 78 (Ry 79) CY [] [] (fun(s:PS) (_:Unit)=>Ze s) (Xl PS.linear):=C8 (f3t) (H7 _) (tq Tryz.func79 Bo (tq Tryz.func35 YO Zb)) Tryz.func78
theorem Gj: Ya Tryz.prog 127 ZH Y4 [] [] (fun(s:PS) (_:Unit)=>Ze s) FB:=C8 (e6c) ZQ (tq Tryz.func34 WZ (tq Tryz.func35 YO Zb)) Tryz.func127
theorem PK: Ya Tryz.prog 69 ZH Y4 [] [] (fun(s:PS) (_:Unit)=>Ze s) PD:=C8 (e8e) ZQ (tq Tryz.func38 Y1 (tq Tryz.func101 EZ Zb)) Tryz.func69
theorem Fw: Ya Tryz.prog 57 ZH Y4 [] [] (fun(s:PS) (_:Unit)=>Ze s) c9i:=C8 (f1r) ZQ (tq Tryz.func35 YO (tq Tryz.func38 Y1 (tq Tryz.func34 WZ (tq Tryz.func37 Wq (tq Tryz.func33 VN (tq Tryz.func78 TC (tq Tryz.func80 LF (tq Tryz.func50 UB Zb)))))))) Tryz.func57
theorem a0i: Ya Tryz.prog 153 c6t CY [.box [.ptr 1 0]] [] (fun(s:PS) (_:Unit)=>Ze s) OZ:=C8 (e6h) c2c (tq Tryz.func100 Vl Zb) Tryz.func153
theorem a6c: Ya Tryz.prog 152 (c8r 153) CY [] [.box [.ptr 0 0]] (fun(s:PS) (_:Unit)=>Ze s) (Xl PS.numM):=C8 (e8r) (c0t _) (tq Tryz.func153 a0i (tq Tryz.func35 YO Zb)) Tryz.func152
theorem Lj: Ya Tryz.prog 128 ZH Y4 [] [] (fun(s:PS) (_:Unit)=>Ze s) c7j:=C8 (e6a) ZQ (tq Tryz.func38 Y1 (tq Tryz.func33 VN (tq Tryz.func100 Vl (tq Tryz.func37 Wq (tq Tryz.func35 YO Zb))))) Tryz.func128
theorem d0e{N:Nat}(a:Ya Tryz.prog 26 ZH Y4 [] [] (fun(s:PS) (_:Unit)=>Ze s&&decide (s.l.length - s.i<N)) (Ho N)):Ya Tryz.prog 126 (Ry 26) CY [] [] (fun(s:PS) (_:Unit)=>Ze s&&decide (s.l.length - s.i<N)) (Xl (Z0 N)):=C8 (e6p N) (H7 _) (tq Tryz.func26 a (tq Tryz.func35 YO Zb)) Tryz.func126
theorem d0o{N:Nat}(a:Ya Tryz.prog 126 (Ry 26) CY [] [] (fun(s:PS) (_:Unit)=>Ze s&&decide (s.l.length - s.i<N)) (Xl (Z0 N))):Ya Tryz.prog 125 ZH Y4 [] [] (fun(s:PS) (_:Unit)=>Ze s&&decide (s.l.length - s.i<N+1)) (Q3 N):=C8 ((e2c N)) ZQ (tq Tryz.func38 Y1 (tq Tryz.func127 Gj (tq Tryz.func109 KT (tq Tryz.func37 Wq (tq Tryz.func35 YO (tq Tryz.func78 TC (tq Tryz.func33 VN (tq Tryz.func100 Vl (tq Tryz.func152 a6c (tq Tryz.func126 a Zb)))))))))) Tryz.func125
theorem c7f{N:Nat}(b:Ya Tryz.prog 26 ZH Y4 [] [] (fun(s:PS) (_:Unit)=>Ze s&&decide (s.l.length - s.i<N)) (Ho N))(a:Ya Tryz.prog 126 (Ry 26) CY [] [] (fun(s:PS) (_:Unit)=>Ze s&&decide (s.l.length - s.i<N)) (Xl (Z0 N)))(hn:Ya Tryz.prog 125 ZH Y4 [] [] (fun(s:PS) (_:Unit)=>Ze s&&decide (s.l.length - s.i<N+1)) (Q3 N)):Ya Tryz.prog 102 ZH Y4 [] [] (fun(s:PS) (_:Unit)=>Ze s&&decide (s.l.length - s.i<N+1)) (NW N):=C8 ((e5z N)) ZQ (tq Tryz.func38 Y1 (tq Tryz.func100 Vl (tq Tryz.func125 hn (tq Tryz.func37 Wq (tq Tryz.func35 YO (tq Tryz.func26 b (tq Tryz.func33 VN (tq Tryz.func126 a (tq Tryz.func127 Gj (tq Tryz.func79 Bo (tq Tryz.func128 Lj (tq Tryz.func50 UB Zb)))))))))))) Tryz.func102
theorem c9h{N:Nat}(hu:Ya Tryz.prog 68 ZH Y4 [] [] (fun(s:PS) (_:Unit)=>Ze s&&decide (s.l.length - s.i<N)) (unF N))(a:Ya Tryz.prog 102 ZH Y4 [] [] (fun(s:PS) (_:Unit)=>Ze s&&decide (s.l.length - s.i<N+1)) (NW N)):Ya Tryz.prog 68 ZH Y4 [] [] (fun(s:PS) (_:Unit)=>Ze s&&decide (s.l.length - s.i<N+1)) (unF (N+1)):=C8 ((e7p N)) ZQ (tq Tryz.func38 Y1 (tq Tryz.func37 Wq (tq Tryz.func100 Vl (tq Tryz.func101 EZ (tq Tryz.func68 hu (tq Tryz.func102 a Zb)))))) Tryz.func68
theorem Nz{N:Nat}(b:Ya Tryz.prog 68 ZH Y4 [] [] (fun(s:PS) (_:Unit)=>Ze s&&decide (s.l.length - s.i<N+1)) (unF (N+1))): ∀ m:Nat,Ya Tryz.prog 67 mkB unI [.box [.ptr 2 0],.box [.fn 67 [] [.ptr 0 0,.ptr 1 0]]] [] (fun(s:PS) (a:Int×Unit)=>(Ze s&&decide (s.l.length - s.i<N+1))&&(decide (1<=a.1)&&(decide ((6 - (m:Int))<a.1)&&decide (a.1<=6)))) (Uo (N+1))
 | 0=>Ya.none (fun s a=>by
   rw[Bool.eq_false_iff]
   intro h
   simp only[Bool.and_eq_true,decide_eq_true_eq]at h
   omega)
 | m+1=>by
  have e:=Nz b m
  rw[show(6 - ((m+1:Nat):Int))=6 - (m:Int) - 1 by omega]
  exact C8 (e8d N (6 - (m:Int))) a2p (tq Tryz.func68 b (tq Tryz.func67 e (tq Tryz.func69 PK Zb))) Tryz.func67
theorem c7y{N:Nat}(b:Ya Tryz.prog 68 ZH Y4 [] [] (fun(s:PS) (_:Unit)=>Ze s&&decide (s.l.length - s.i<N+1)) (unF (N+1))):Ya Tryz.prog 67 mkB unI [.box [.ptr 2 0],.box [.fn 67 [] [.ptr 0 0,.ptr 1 0]]] [] (fun(s:PS) (a:Int×Unit)=>(Ze s&&decide (s.l.length - s.i<N+1))&&(decide (1<=a.1)&&decide (a.1<=6))) (Uo (N+1)):=Ya.weaken a2p (Nz b 6) (fun s a h=>by
  simp only[Bool.and_eq_true,decide_eq_true_eq]at h ⊢
  exact⟨h.1,h.2.1,by have:=h.2.1;show(6:Int) - 6<_;omega,h.2.2⟩) (fun _ _ _=>rfl)
theorem d0h{N:Nat}(hb:Ya Tryz.prog 67 mkB unI [.box [.ptr 2 0],.box [.fn 67 [] [.ptr 0 0,.ptr 1 0]]] [] (fun(s:PS) (a:Int×Unit)=>(Ze s&&decide (s.l.length - s.i<N+1))&&(decide (1<=a.1)&&decide (a.1<=6))) (Uo (N+1))):Ya Tryz.prog 49 ZH Y4 [] [] (fun(s:PS) (_:Unit)=>Ze s&&decide (s.l.length - s.i<N+1)) (b2k (N+1)):=C8 ((e9n N)) ZQ (tq Tryz.func67 hb Zb) Tryz.func49
theorem c6b{N:Nat}(a:Ya Tryz.prog 26 ZH Y4 [] [] (fun(s:PS) (_:Unit)=>Ze s&&decide (s.l.length - s.i<N)) (Ho N))(hb:Ya Tryz.prog 49 ZH Y4 [] [] (fun(s:PS) (_:Unit)=>Ze s&&decide (s.l.length - s.i<N+1)) (b2k (N+1))):Ya Tryz.prog 26 ZH Y4 [] [] (fun(s:PS) (_:Unit)=>Ze s&&decide (s.l.length - s.i<N+1)) (Ho (N+1)):=C8 (e6i N) ZQ (tq Tryz.func37 Wq (tq Tryz.func49 hb (tq Tryz.func38 Y1 (tq Tryz.func34 WZ (tq Tryz.func33 VN (tq Tryz.func26 a Zb)))))) Tryz.func26
theorem c5d: ∀ N:Nat,Ya Tryz.prog 26 ZH Y4 [] [] (fun(s:PS) (_:Unit)=>Ze s&&decide (s.l.length - s.i<N)) (Ho N)∧Ya Tryz.prog 68 ZH Y4 [] [] (fun(s:PS) (_:Unit)=>Ze s&&decide (s.l.length - s.i<N)) (unF N)
 | 0=>⟨Ya.none (fun s a=>by simp),Ya.none (fun s a=>by simp)⟩
 | N+1=>by
  obtain⟨e,hu⟩:=c5d N
  have g:=d0e e
  have b:=c9h hu (c7f e g (d0o g))
  exact⟨c6b e (d0h (c7y b)),b⟩
theorem b8j:Ya Tryz.prog 26 ZH Y4 [] [] (fun(s:PS) (_:Unit)=>Ze s) a5a:=Ya.weaken ZQ (c5d 4001).1 (fun s a h=>by
  have h0:=(Zv h).1
  rw[h]
  exact decide_eq_true (by omega)) (fun _ _ _=>rfl)
theorem a9b: Ya Tryz.prog 56 ZH Y4 [] [] (fun(s:PS) (_:Unit)=>Ze s) AZ:=C8 (f1z) ZQ (tq Tryz.func34 WZ (tq Tryz.func35 YO (tq Tryz.func57 Fw Zb))) Tryz.func56
theorem a7g: Ya Tryz.prog 55 (Ry 56) CY [] [] (fun(s:PS) (_:Unit)=>Ze s) (Xl PS.param):=C8 (e7u) (H7 _) (tq Tryz.func56 a9b (tq Tryz.func35 YO Zb)) Tryz.func55
theorem c5r: Ya Tryz.prog 27 ZH Y4 [] [] (fun(s:PS) (_:Unit)=>Ze s) O4:=C8 (f2p) ZQ (tq Tryz.func50 UB Zb) Tryz.func27
theorem g7n:Xi Tryz.prog 25 Ap a0w:=FL (T:=c2q) (ic:=a4s) (rs:=a3q) (tq Tryz.func48 Lu Zb) U9 Tryz.func25 (by kernel_rfl) (by kernel_rfl) (by kernel_rfl) e9h
theorem c9p: Ya Tryz.prog 39 ZH Y4 [] [] (fun(s:PS) (_:Unit)=>Ze s&&ZR s.l) c6x:=C8 (e6r) ZQ (tq Tryz.func38 Y1 (tq Tryz.func33 VN (tq Tryz.func34 WZ (tq Tryz.func37 Wq (tq Tryz.func55 a7g (tq Tryz.func35 YO (tq Tryz.func57 Fw (tq Tryz.func26 b8j (tq Tryz.func28 DL Zb))))))))) Tryz.func39
theorem a6i:ZP Tryz.prog 18 (fun _:Str×Unit=>true) (fun x:Str×Unit=>Bi x.1):=dq f2g (tq Tryz.func25 g7n (tq Tryz.func33 VN (tq Tryz.func34 WZ (tq Tryz.func35 YO (tq Tryz.func36 a7b (tq Tryz.func37 Wq (tq Tryz.func38 Y1 (tq Tryz.func39 c9p (tq Tryz.func27 c5r Zb))))))))) Tryz.func18
theorem a0m:ZP Tryz.prog 86 (fun _:UInt8×Unit=>true) (fun x:UInt8×Unit=>digB x.1):=dq d7x Zb Tryz.func86
theorem Fe:ZP Tryz.prog 87 (fun _:UInt8×Unit=>true) (fun x:UInt8×Unit=>lowB x.1):=dq d3m Zb Tryz.func87
theorem a3z:ZP Tryz.prog 85 (fun _:Int×Unit=>true) (fun x:Int×Unit=>YF x.1):=dq b6l Zb Tryz.func85
theorem Tz:ZP Tryz.prog 61 (fun _:Str×Unit=>true) (fun x:Str×Unit=>nameB x.1):=dq c8e (tq Tryz.func86 a0m (tq Tryz.func87 Fe Zb)) Tryz.func61
theorem CZ:ZP Tryz.prog 60 (fun x:Lin×Unit=>WB x.1) (fun x:Lin×Unit=>Zt x.1):=dq b3q (tq Tryz.func85 a3z (tq Tryz.func61 Tz Zb)) Tryz.func60
theorem d4t:Ws Tryz.prog 142 KY Xn:=JU (T:=Xh) (ic:=YQ) (rs:=YT) Zb U9 Tryz.func142 (by kernel_rfl) (by kernel_rfl) (by kernel_rfl) c5y
theorem c5q:ZP Tryz.prog 142 (fun _:List Int×Unit=>true) (fun x:List Int×Unit=>Xz x.1):=ZP.ofPure d4t fun⟨l,_⟩ h=>⟨by show(Zx l).all PV.isNum=true;simp,by show Zd _ (.tup [.int .i64 (Xz ((Zx l).map PV.asInt)).1,.int .i64 (Xz ((Zx l).map PV.asInt)).2]);rw[Xw];exact Zp (x:=Xz l) rfl⟩
theorem c6z:ZP Tryz.prog 144 (fun x:List Int×Unit=>decide (x.1.length<=2000000)) (fun x:List Int×Unit=>x.1):=dq c9j Zb Tryz.func144
theorem LW:ZP Tryz.prog 143 (fun _:Str×Int×Unit=>true) (fun x:Str×Int×Unit=>WA x.1 x.2.1):=dq d3i Zb Tryz.func143
theorem b4p:ZP Tryz.prog 117 (fun x:Str×List Int×List Int×Unit=>decide (x.2.1.length<=2000000)&&decide (x.2.2.1.length<=2000000)) (fun x:Str×List Int×List Int×Unit=>Gh x.1 x.2.1 x.2.2.1):=dq d0k (tq Tryz.func142 c5q (tq Tryz.func143 LW (tq Tryz.func144 c6z Zb))) Tryz.func117
theorem LM:ZP Tryz.prog 82 (fun x:Arr×Unit=>Lv x.1) (fun x:Arr×Unit=>MO x.1):=dq d2r (tq Tryz.func117 b4p Zb) Tryz.func82
theorem a1q:ZP Tryz.prog 42 (fun _:UInt8×Unit=>true) (fun x:UInt8×Unit=>lowB x.1):=dq b3w Zb Tryz.func42
theorem a3m:ZP Tryz.prog 43 (fun _:UInt8×Unit=>true) (fun x:UInt8×Unit=>digB x.1):=dq b5m Zb Tryz.func43
theorem Rm:ZP Tryz.prog 44 (fun _:Str×Unit=>true) (fun x:Str×Unit=>QW.contains x.1.s):=dq d6t Zb Tryz.func44
theorem UU:ZP Tryz.prog 20 (fun x:Str×Unit=>decide (x.1.s.length<=1048576)) (fun x:Str×Unit=>nameI x.1.s):=dq c7s (tq Tryz.func42 a1q (tq Tryz.func43 a3m (tq Tryz.func44 Rm Zb))) Tryz.func20
theorem Fg:ZP Tryz.prog 118 (fun x:Str×Unit=>decide (x.1.s.length<=1048576)) (fun x:Str×Unit=>fullI x.1.s):=dq c8g (tq Tryz.func20 UU Zb) Tryz.func118
theorem Rq:ZP Tryz.prog 84 (fun x:Str×Unit=>decide (x.1.s.length<=1048576)) (fun x:Str×Unit=>LG x.1.s):=dq d4d (tq Tryz.func20 UU (tq Tryz.func118 Fg Zb)) Tryz.func84
theorem a1y:ZP Tryz.prog 81 (fun x:Tm×Bool×Bool×Bool×Bool×Bool×Unit=>nW x.1) (fun x:Tm×Bool×Bool×Bool×Bool×Bool×Unit=>Yz x.1.nd x.2.1 x.2.2.1 x.2.2.2.1 x.2.2.2.2.1 x.2.2.2.2.2.1):=dq b7e Zb Tryz.func81
theorem LY:ZP Tryz.prog 83 (fun x:List Lin×Unit=>decide (x.1.length<=1048576)&&x.1.all WB) (fun x:List Lin×Unit=>x.1.all Zt):=dq d3t (tq Tryz.func60 CZ Zb) Tryz.func83
theorem a6a:ZP Tryz.prog 58 (fun x:Tm×Unit=>nW x.1) (fun x:Tm×Unit=>Bv x.1):=dq c7k (tq Tryz.func20 UU (tq Tryz.func81 a1y (tq Tryz.func84 Rq (tq Tryz.func83 LY (tq Tryz.func82 LM Zb))))) Tryz.func58
theorem b9l:ZP Tryz.prog 41 (fun x:Tm×Unit=>gW x.1) (fun x:Tm×Unit=>Gc x.1):=ZP.rec (fun a=>Xu a.1) fun N b=>dq (d2n N) (tq Tryz.func41 b (tq Tryz.func58 a6a Zb)) Tryz.func41
theorem LD:ZP Tryz.prog 14 (fun x:Tm×Unit=>gW x.1) (fun x:Tm×Unit=>(Xu x.1:Int)):=ZP.rec (fun a=>Xu a.1) fun N b=>dq (e1d N) (tq Tryz.func14 b Zb) Tryz.func14
theorem a1i:ZP Tryz.prog 40 (fun x:Tm×Unit=>gW x.1) (fun x:Tm×Unit=>(Yu x.1:Int)):=ZP.rec (fun a=>Xu a.1) fun N b=>dq (c6v N) (tq Tryz.func40 b Zb) Tryz.func40
theorem LJ:ZP Tryz.prog 19 (fun x:Tm×Unit=>gW x.1) (fun x:Tm×Unit=>YJ x.1):=dq b6h (tq Tryz.func40 a1i (tq Tryz.func14 LD (tq Tryz.func41 b9l Zb))) Tryz.func19
noncomputable def ivC(f:Nat):Option (IC×Nat×List IRes):=c5t Tryz.prog f
theorem a2f:ZP Tryz.prog 9 (fun _:Unit=>true) (fun _:Unit=>true):=ZP.iv (C:=ivC) (fun _ _ h=>h) (T9 Lu Tryz.func48 (by kernel_rfl) (T9 He Tryz.func98 (by kernel_rfl) (T9 KT Tryz.func109 (by kernel_rfl) (T9 EZ Tryz.func101 (by kernel_rfl) (T9 Fy Tryz.func113 (by kernel_rfl) (T9 F6 Tryz.func114 (by kernel_rfl) (T9 Jy Tryz.func105 (by kernel_rfl) (T9 DL Tryz.func28 (by kernel_rfl) Zb)))))))) U9 50 60 (fun _ _=>⟨.bool true,by kernel_rfl,rfl,rfl⟩)
theorem b4l:ZP Tryz.prog 59 (fun x:Str×Unit=>decide (x.1.s.length<=1048576)) (fun x:Str×Unit=>evB x.1.s):=ZP.of (T:=Km) (ic:=UX) (rs:=UW) Zb U9 Tryz.func59 (by kernel_rfl) (by kernel_rfl) (by kernel_rfl) c8h
theorem b1w:ZP Tryz.prog 45 (fun x:Str×Unit=>decide (x.1.s.length<=1048576)) (fun x:Str×Unit=>Ox x.1.s):=ZP.of (T:=a3a) (ic:=Nv) (rs:=M0) (Wx (ent Tryz.func59 (by kernel_rfl) b4l) Zb) U9 Tryz.func45 (by kernel_rfl) (by kernel_rfl) (by kernel_rfl) c6j
theorem Fb:ZP Tryz.prog 46 (fun x:Sp×Unit=>spW x.1) (fun x:Sp×Unit=>shV x.1.row x.1.dims):=ZP.of (T:=JS) (ic:=QM) (rs:=QS) (Wx (ent Tryz.func60 (by kernel_rfl) CZ) (Wx (ent Tryz.func61 (by kernel_rfl) Tz) Zb)) U9 Tryz.func46 (by kernel_rfl) (by kernel_rfl) (by kernel_rfl) c6c
theorem LH:ZP Tryz.prog 21 (fun x:TyS×Unit=>yW x.1) (fun x:TyS×Unit=>Du x.1):=ZP.of (T:=a5k) (ic:=Nw) (rs:=NR) (Wx (ent Tryz.func45 (by kernel_rfl) b1w) (Wx (ent Tryz.func46 (by kernel_rfl) Fb) Zb)) U9 Tryz.func21 (by kernel_rfl) (by kernel_rfl) (by kernel_rfl) c5o
theorem CK:ZP Tryz.prog 6 (fun _:Str×Unit=>true) (fun _:Str×Unit=>true):=ZP.of (T:=Qm) (ic:=VE) (rs:=VF) (Wx (ent Tryz.func9 (by kernel_rfl) a2f) (Wx (ent Tryz.func18 (by kernel_rfl) a6i) (Wx (ent Tryz.func19 (by kernel_rfl) LJ) (Wx (ent Tryz.func20 (by kernel_rfl) UU) (Wx (ent Tryz.func21 (by kernel_rfl) LH) Zb))))) U9 Tryz.func6 (by kernel_rfl) (by kernel_rfl) (by kernel_rfl) d8b
end Go.Proofs.YtgclceacfcdigaaGreatDoor
