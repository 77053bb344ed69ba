/-
  Texts of mine that belong together (packed by pack.py), for every input: Post, LaidZ, PlGb, OpYa, OpJx, ShV, Sh, ShB, ShN, ShW, Cl, OkYa, OkJr.
-/
import Derived.Test.YtgclceacfcdigaaGreatDoorChecked
import Derived.Test.YtgclceacfcdigaaGreatDoorRows
import Derived.Test.YtgclceacfcdigaaGreatDoorKE2
import Derived.Test.YtgclceacfcdigaaGreatDoorKE3
import Derived.Test.YtgclceacfcdigaaGreatDoorKE4
import Derived.Test.YtgclceacfcdigaaGreatDoorKE5
import Derived.Below
import Derived.ChangeSame
import Derived.Stop.LaidErr
import Derived.Lib.LaidTab
import Derived.Shelf.Vars
import Derived.KernelRfl
import Derived.Shelf.Strings.Cut
import Derived.Shelf.Strings.Count
import Derived.Shelf.Small.Strs
import Derived.Shelf.Strconv.AtoiAll
import Derived.Shelf.Strconv.Itoa3
import Derived.Shelf.Strings.Prefix
import Derived.Shelf.Sort.Plain
import Derived.Shelf.Slices.In.SortNone
import Derived.Shelf.Strings.SlTrimAscii
import Derived.WalkKit
import Derived.Deep.LoopGhost
import Derived.Lib.Walk
import Derived.Lib.SliceRun
set_option linter.unusedVariables false
set_option linter.unusedSimpArgs false
set_option linter.defProp false
namespace Go.Proofs.YtgclceacfcdigaaGreatDoor
open Go.RowKit Go.WideShapes Go.ChangeShapes
section
section
variable {H:Type} {enc:TypeId×Value->H} {P:Program}
theorem M4{f:Func}{s:ChangeSpec}{apart fresh k u:Bool}{W W':World}{args:Array Value}{v:Value}{ds A:List (DataW H)}{e pa pv:List MemPlace}
  (B:DataW.Whole enc P f.params.toList s.vars apart W args.toList ds A e)
  (l : ∀ (b:Nat) (sp:Nat->Bool) (hd:Bool),DataW.TrodAll enc P W' b sp hd f.resultTypes.toList (v.resultList f.resultTypes.size) (s.fn H (ds++A)).results [])
  (g : ∀ sp:Nat->Bool,(∀ p∈e,sp p.block=true)->DataW.TrodAll enc P W' 0 sp true f.params.toList args.toList (s.fn H (ds++A)).args pa)
  (i : ∀ sp:Nat->Bool,(∀ p∈e,sp p.block=true)->DataW.TrodVars enc P W' sp s.vars (s.fn H (ds++A)).vars pv)
  (hps:e=pa++pv) (hb:Below W.heap.size W W')
  (C : ∀ (j:Nat) (t:TypeId) (r:Value),f.resultTypes[j]? = some t->(v.resultList f.resultTypes.size)[j]? = some r->Value.okWide P W' .any 0 t r) :
  s.post enc P f apart fresh k u W args v W':=by
 have y : ∀ p∈e,p.block<W.heap.size:=fun p h=>B.lt p h
 have q : ∀ p∈e,(fun b=>decide (b<W.heap.size)) p.block=true:=fun p h=>by simpa using y p h
 refine⟨ds,A,e,[],pa,pv,B,l _ _ _,g _ q,i _ q,World.keptBut_mono (fun p h=>⟨h,?_⟩) (hb.frame (· ∈ e)),fun _=> ?_⟩
 ·rw[hps,List.mem_append]at h
  exact Or.inr h
 ·obtain⟨_,_,_,_,_,D,hn⟩:=B
  refine⟨C,_,_,([]++pa)++pv,⟨[]++pa,pv,trodAll_append (g _ (fun _ _=>rfl)) (l _ _ _),i _ (fun _ _=>rfl),rfl,?_,?_⟩,?_⟩
  ·intro b off h
   have z:MemPlace.cell b off∈e:=by rw[hps];simpa using h
   rw[hb.frozen (y _ z)]
   exact D b off z
  ·intro ha
   have:=hn ha
   rw[hps]at this
   simpa using this
  ·intro p h _
   rw[hps]
   simpa using h
end
end
end Go.Proofs.YtgclceacfcdigaaGreatDoor
namespace Go.Proofs.YtgclceacfcdigaaGreatDoor
open Go.Pl Go.RowKit Go.ChangeShapes
set_option maxRecDepth 100000
theorem b8d{P:Program}{W:World}{n:String}{g:Nat}{cs:Array Value}(e:P.globalNamed n=some g)(h:W.var? P n=some cs):Ry W g=some cs:=by
 unfold World.var? at h
 rw[e]at h
 simp only[Option.bind_some]at h
 unfold Ry
 exact h
theorem f2l:Tryz.prog.globalNamed "internal/strconv.uint64pow10" = some 5:=by kernel_rfl
theorem g4e:Tryz.prog.globalNamed "strconv.ErrRange" = some 2:=by kernel_rfl
theorem g6i:Tryz.prog.globalNamed "strconv.ErrSyntax" = some 1:=by kernel_rfl
theorem c7d:Tryz.prog.underlying 141=some (.interface ((match Tryz.prog.underlying 141 with|some (.interface ms)=>ms|_=>#[]))):=by kernel_rfl
theorem f9p{W:World}{r:List (String×DataW Unit)}(h:laidMet Tryz.prog (("internal/strconv.uint64pow10",Rows.laid_internal_strconv_uint64pow10)::r) W):Ry W 5=some NR:=by
 have h1:Lib.TabIs Tryz.prog W "internal/strconv.uint64pow10" .u64 ((List.range 20).map fun i=>((10 ^ i:Nat):Int)):=Lib.tabIs_of_head (e:=198) (t:=232) f2l (by kernel_rfl) (n:=20) (by kernel_rfl) (by kernel_rfl) (by kernel_rfl) (by kernel_rfl) h
 exact(b8d f2l h1).trans rfl
theorem d9b{W:World}{n:String}{g:Nat}{text:List UInt8}{r:List (String×DataW Unit)}(hg:Tryz.prog.globalNamed n=some g)(ht:(Tryz.prog.globals[g]?).map (·.type)=some 141)(h:laidMet Tryz.prog ((n,.iface "*errors.errorString" (.ptr (.agg [.lit (.string text)])))::r) W): ∃ cs,Ry W g=some cs∧P9 cs:=by
 obtain⟨ps,⟨g0,t0,cs0,f0,p0,q0,hg0,ht0,hv0,hd0,_,e0⟩,_,hrows⟩:=h
 obtain rfl:=Option.some.inj (hg.symm.trans hg0)
 obtain rfl:=Option.some.inj (ht.symm.trans ht0)
 subst e0
 refine⟨cs0,b8d hg hv0,?_⟩
 obtain⟨f1,u,v,e,_⟩:=iface_of_trod c7d hd0
 obtain⟨l0⟩:=cs0
 have e:l0=[.iface u v]:=e
 subst e
 exact⟨_,rfl,.inr ⟨u,v,rfl⟩⟩
theorem g3y{W:World}(h:W.ShapedOpen Tryz.prog): ∃ cs m,Ry W 0=some cs∧cs[0]? = some (Value.int .i64 m):=by
 obtain⟨m,hm⟩:=cell_of_shapedOpen_int (g:=0) (t:=3) (zero:=#[.int .i64 0]) (k:=.i64) h (of_decide_eq_true (by kernel_rfl)) (by kernel_rfl) rfl (by kernel_rfl) (by kernel_rfl) (by kernel_rfl)
 unfold World.cell? at hm
 unfold Ry
 split at hm
 ·rename_i cs T fz e
  exact⟨cs,m,by simp only[e],by simpa using hm⟩
 ·cases hm
theorem f0y{W:World}{x y z:String×DataW Unit}{r:List (String×DataW Unit)}(h:laidMet Tryz.prog (x::y::("internal/strconv.uint64pow10",Rows.laid_internal_strconv_uint64pow10)::z::("strconv.ErrRange",Rows.laid_strconv_ErrRange)::("strconv.ErrSyntax",Rows.laid_strconv_ErrSyntax)::r) W)(hs:W.ShapedOpen Tryz.prog):GlobOK (Ry W):=
 ⟨d9b g6i (by kernel_rfl) h.tail.tail.tail.tail.tail,d9b g4e (by kernel_rfl) h.tail.tail.tail.tail,f9p h.tail.tail,g3y hs⟩
noncomputable def g5a:DataW Unit->Value
 | .lit (.int k n)=>.int k n
 | _=>.int .i64 0
noncomputable def Me:DataW Unit->Array Value
 | .agg ds=>(ds.flatMap fun | .agg es=>es.map g5a|d=>[g5a d]).toArray
 | _=>#[]
noncomputable def d1w:DataW Unit->ByteArray
 | .iface _ (.ptr (.agg [.lit (.string bs)]))=>⟨bs.toArray⟩
 | _=>⟨#[]⟩
noncomputable def low:Nat:=(World.holding Tryz.prog default ⟨#[],#[],[]⟩).heap.size
noncomputable def b2g(cs:Array Value):Obj->Obj
 | .cells _ t frozen=>.cells cs t frozen
 | o=>o
noncomputable def AY(os:Os):World:=
 let w0:=World.holding Tryz.prog os ⟨#[.cells #[.string (d1w Rows.laid_strconv_ErrRange)] 212,.cells #[.string (d1w Rows.laid_strconv_ErrSyntax)] 212],#[],[]⟩
 {w0 with heap:=((((((w0.heap.modify 2 (b2g #[.iface 210 (.pointer (some ⟨low,0,none⟩))])).modify 1 (b2g #[.iface 210 (.pointer (some ⟨low+1,0,none⟩))])).modify 5 (b2g (Me Rows.laid_internal_strconv_uint64pow10))).modify 6 (b2g (Me Rows.laid_math_bits_deBruijn32tab))).modify 7 (b2g (Me Rows.laid_math_bits_deBruijn64tab))).modify 4 (b2g (Me Rows.laid_unicode_utf8_acceptRanges))).modify 3 (b2g (Me Rows.laid_unicode_utf8_first))}
end Go.Proofs.YtgclceacfcdigaaGreatDoor
namespace Go.Pl
open Go.RowKit Go.WideShapes Go.ChangeShapes
section
abbrev uB{H:Type}(d:DataW H):Nat:=Go.Proofs.YtgclceacfcdigaaGreatDoor.Rows.uptoBulk d
abbrev uBs{H:Type}(l:List (DataW H)):Nat:=Go.Proofs.YtgclceacfcdigaaGreatDoor.Rows.uptoBulkAll l
theorem a7y{H:Type}(d:DataW H)(l:List (DataW H)):uBs (d::l)=uB d+uBs l:=by unfold uBs uB;rw[Go.Proofs.YtgclceacfcdigaaGreatDoor.Rows.uptoBulkAll]
theorem b1o{H:Type}(d:DataW H):1<=uB d:=by
 cases d with
 | lit l=>cases l <;> simp[uB,Go.Proofs.YtgclceacfcdigaaGreatDoor.Rows.uptoBulk]
 | _=>simp[uB,Go.Proofs.YtgclceacfcdigaaGreatDoor.Rows.uptoBulk]
mutual
def pvW:PV->Nat
 | .str s=>s.length+1
 | .sl _ _ xs=>VA xs+1
 | .agg xs=>VA xs
 | _=>1
def VA:List PV->Nat
 | []=>0
 | p::ps=>pvW p+VA ps
end
theorem d7p(a b:List PV):VA (a++b)=VA a+VA b:=by
 induction a with
 | nil=>simp[VA]
 | cons x a ih=>rw[List.cons_append,VA,ih,VA];omega
theorem g4q{P:Program}{e:TypeId}{q:List PV}(g:X5 P e=true∨P.cellsOf e=1)(h:q.length=P.cellsOf e):pvW (TW P e q)<=VA q:=by
 cases ha:X5 P e with
 | true=>simp only[TW,ha];rw[pvW];exact Nat.le_refl _
 | false=>
  have h1:P.cellsOf e=1:=by simpa [ha]using g
  rw[h1]at h
  match q,h with
  | [x],_=>simp only[TW,ha,List.headD_cons];rw[VA,VA];exact Nat.le_refl _
theorem c1o{H:Type}{f:List PV->PV}: ∀ {qs:List (List PV)} {xs:List (DataW H×List MemPlace)},qs.length=xs.length->(∀ (i:Nat) (q:List PV) (x:DataW H×List MemPlace),qs[i]? = some q->xs[i]? = some x->pvW (f q)<=uB x.1)->VA (qs.map f)<=uBs (xs.map (·.1))
 | [],[],_,_=>by simp[VA]
 | q::qs,x::xs,hl,h=>by
  have h0:=h 0 q x rfl rfl
  have h1:=c1o (qs:=qs) (xs:=xs) (by simpa using hl) fun i q x e g=>h (i+1) q x (by simpa using e) (by simpa using g)
  rw[List.map_cons,VA,List.map_cons,a7y]
  omega
 | [],_::_,hl,_=>by cases hl
 | _::_,[],hl,_=>by cases hl
def d0n(P:Program)(S:List TypeId):Bool:=S.all fun t=>match P.underlying t with|some (.array _ _)=>false|_=>true
section
variable {H:Type} {enc:TypeId×Value->H} {P:Program} {w:World} {base:Nat} {sp:Nat->Bool} {held:Bool} {S:List TypeId}
theorem a1q{n:Nat}{cs:List Value}(y : ∀ (t:TypeId) (cs:List Value) (x:DataW H×List MemPlace),t∈S->DataW.trod enc P w base sp held n t cs=some x-> ∃ ps,Cl w cs ps∧Ha P n t ps∧VA ps<=uB x.1):
  ∀ (i:List Field) (o N:Nat) (xs:List (DataW H×List MemPlace)),Jp P o i N=true->(∀ f∈i,f.type∈S)->cs.length=N->o<=N ->
   i.mapM (fun f=>DataW.trod enc P w base sp held n f.type ((cs.drop f.offset).take (P.cellsOf f.type)))=some xs ->
   ∃ ps,Cl w (cs.drop o) ps∧VA ps<=uBs (xs.map (·.1))∧ ∀ qs:List PV,qs.length=o->(∀ f∈i,Ha P n f.type (((qs++ps).drop f.offset).take (P.cellsOf f.type))):=by
 intro i
 induction i with
 | nil=>
  intro o N xs hc _ A ho _
  simp[Jp]at hc
  refine⟨[],?_,by simp[VA],fun qs _ f C=>by simp at C⟩
  rw[List.drop_of_length_le (by omega)]
  exact Cl.nil
 | cons f i ihf=>
  intro o N xs hc hm A ho h
  simp only[Jp,Bool.and_eq_true,beq_iff_eq]at hc
  obtain⟨j,hc⟩:=hc
  simp only[List.mapM_cons,Option.bind_eq_bind,Option.bind_eq_some_iff]at h
  obtain⟨x,F,s,r,e⟩:=h
  cases e
  obtain⟨u,B,I,w1⟩:=y _ _ x (hm f List.mem_cons_self) F
  have q:o+P.cellsOf f.type<=N:=by
   have : ∀ (i:List Field) (a:Nat),Jp P a i N=true->a<=N:=by
    intro i
    induction i with
    | nil=>intro a h;simp[Jp]at h;omega
    | cons g i y=>intro a h;simp only[Jp,Bool.and_eq_true]at h;have:=y _ h.2;omega
   exact this _ _ hc
  obtain⟨E,D,w2,J⟩:=ihf (o+P.cellsOf f.type) N s hc (fun g l=>hm g (List.mem_cons_of_mem _ l)) A q r
  have k:u.length=P.cellsOf f.type:=by
   rw[<- B.1.1,List.length_take,List.length_drop,j]
   omega
  refine⟨u++E,?_,by rw[d7p,List.map_cons,a7y];omega,fun qs z g l=> ?_⟩
  ·have:=B.append D
   rw[j]at this
   have e:cs.drop o=(cs.drop o).take (P.cellsOf f.type)++cs.drop (o+P.cellsOf f.type):=by rw[<- List.drop_drop,List.take_append_drop]
   rw[e]
   exact this
  ·rcases List.mem_cons.1 l with rfl|l
   ·rw[j,<- z,List.drop_left,<- k,List.take_left]
    exact I
   ·have:=J (qs++u) (by simp[z,k]) g l
    rwa [List.append_assoc]at this
theorem a7q{n:Nat}{e:TypeId}{a:Addr}{len cap:Nat}{xs:List (DataW H×List MemPlace)}(J:0<P.cellsOf e)(C:X5 P e=true∨P.cellsOf e=1)(D:len<=cap)(hmax:cap<=maxLen)
  (ih : ∀ (cs:List Value) (x:DataW H×List MemPlace),DataW.trod enc P w base sp held n e cs=some x-> ∃ ps,Cl w cs ps∧Ha P n e ps∧VA ps<=uB x.1)
  (h:(List.range len).mapM (fun i=>(w.cells? base (a.add (i*P.cellsOf e)) (P.cellsOf e)).bind (DataW.trod enc P w base sp held n e))=some xs) :
  ∃ qs:List (List PV),RP (Ry w) (.slice (some a) len cap) (.sl (P.cellsOf e) false (qs.map (TW P e)))∧qs.length<=maxLen∧(∀ q∈qs,q.length=P.cellsOf e∧Ha P n e q)∧VA (qs.map (TW P e))<=uBs (xs.map (·.1)):=by
 obtain⟨T,hg⟩:=a4s h
 rw[List.length_range]at T
 have Q : ∀ i,i<len-> ∃ q:List PV,(q.length=P.cellsOf e∧Ha P n e q∧ ∃ x,xs[i]? = some x∧VA q<=uB x.1)∧ ∀ (r:Nat) p,q[r]? = some p-> ∃ v,w.cell? (a.add (i*P.cellsOf e+r))=some v∧v.oneCell'=true∧RP (Ry w) v p:=by
  intro i hi
  have B:=List.getElem?_eq_getElem (show i<xs.length by omega)
  have:=hg i i _ (by simp[hi]) B
  rw[Option.bind_eq_some_iff]at this
  obtain⟨cs,h1,h2⟩:=this
  obtain⟨q,K,k2,Y⟩:=ih cs _ h2
  obtain⟨c1,Z⟩:=c3x h1
  refine⟨q,⟨by rw[<- K.1.1,c1],k2,_,B,Y⟩,fun r p l=> ?_⟩
  have hr:r<cs.length:=by rw[K.1.1];exact(List.getElem?_eq_some_iff.1 l).1
  have A:=List.getElem?_eq_getElem hr
  refine⟨_,?_,K.2 _ (List.getElem_mem hr),K.1.2 r _ p A l⟩
  rw[<- c5f]
  exact Z r _ A
 obtain⟨qs,s,k⟩:=a7d len Q
 have g : ∀ q∈qs,(TW P e q).cells=q:=by
  intro q u
  obtain⟨i,hi,rfl⟩:=List.getElem_of_mem u
  have:=(k i _ (List.getElem?_eq_getElem hi)).1
  exact c5k C this.1 fun ha=>d0a this.2.1 ha
 refine⟨qs,?_,by omega,fun q u=> ?_,?_⟩
 ·by_cases h0:len=0
  ·subst h0
   have:qs=[]:=List.length_eq_zero_iff.1 s
   subst this
   exact .sl0 _ _ _ _ fun e=>by cases e
  ·-- the first cell tells the block
   obtain⟨b,off,cs,rfl,hb,-⟩ : ∃ b off cs,a=⟨b,off,none⟩∧Ry w b=some cs∧True:=by
    have O:=List.getElem?_eq_getElem (show 0<qs.length by omega)
    obtain⟨⟨f1,f2,-⟩,f3⟩:=k 0 _ O
    have l:=List.getElem?_eq_getElem (show 0<(qs[0]'(by omega)).length by omega)
    obtain⟨v,A,_⟩:=f3 0 _ l
    simp[Addr.add]at A
    obtain⟨b,off,cs,M,L,_⟩:=Fp A
    exact⟨b,off,cs,M,L,trivial⟩
   have hs : ∀ x∈qs.map (TW P e),x.cells.length=P.cellsOf e:=by
    intro x B
    obtain⟨q,u,rfl⟩:=List.mem_map.1 B
    rw[g q u]
    obtain⟨i,hi,rfl⟩:=List.getElem_of_mem u
    exact(k i _ (List.getElem?_eq_getElem hi)).1.1
   have E : ∀ (j:Nat) p,(flat (qs.map (TW P e)))[j]? = some p-> ∃ v,cs[off+j]? = some v∧v.oneCell'=true∧RP (Ry w) v p:=by
    intro j p l
    have W:j<len*P.cellsOf e:=by
     have:=(List.getElem?_eq_some_iff.1 l).1
     rw[WT hs]at this
     simpa [s]using this
    have hi:j / P.cellsOf e<qs.length:=by rw[s];exact(Nat.div_lt_iff_lt_mul J).2 W
    have hr:j % P.cellsOf e<P.cellsOf e:=Nat.mod_lt _ J
    have I:=List.getElem?_eq_getElem hi
    have U:j=j / P.cellsOf e*P.cellsOf e+j % P.cellsOf e:=by rw[Nat.mul_comm];exact(Nat.div_add_mod _ _).symm
    have N:(qs.map (TW P e))[j / P.cellsOf e]? = some (TW P e qs[j / P.cellsOf e]):=by rw[List.getElem?_map,I];rfl
    have F:=a6o hs N hr
    rw[<- U,g _ (List.getElem_mem hi)]at F
    rw[F]at l
    obtain⟨v,A,h1,h2⟩:=(k _ _ I).2 _ p l
    rw[<- U,WP]at A
    obtain⟨b',off',cs',M,L,X⟩:=Fp A
    cases M
    rw[hb]at L
    cases L
    exact⟨v,X,h1,h2⟩
   have z:len=(qs.map (TW P e)).length:=by simp[s]
   rw[z]
   refine .sl b off cs cap _ false _ (fun j=>(cs[off+j]?).getD default) hb (by rw[<- z];exact D) (fun e=>by cases e) hs (fun j p l=> ?_) (fun j p l=> ?_)
   ·obtain⟨v,h1,h2,h3⟩:=E j p l
    rw[h1]
    exact⟨rfl,h2⟩
   ·obtain⟨v,h1,h2,h3⟩:=E j p l
    rw[h1]
    exact h3
 ·obtain⟨i,hi,rfl⟩:=List.getElem_of_mem u
  have:=(k i _ (List.getElem?_eq_getElem hi)).1
  exact⟨this.1,this.2.1⟩
 ·refine c1o (by rw[s,T]) fun i q x u B=> ?_
  have:=(k i q u).1
  obtain⟨y,V,hw⟩:=this.2.2
  rw[B]at V
  cases V
  have hm:=g4q (P:=P) (e:=e) (q:=q) C this.1
  omega
theorem b7c(A:EW P S=true)(C:d0n P S=true): ∀ (n:Nat) (t:TypeId) (cs:List Value) (x:DataW H×List MemPlace),t∈S->DataW.trod enc P w base sp held n t cs=some x-> ∃ ps,Cl w cs ps∧Ha P n t ps∧VA ps<=uB x.1:=by
  intro n
  induction n with
  | zero=>intro t cs x _ h;simp[DataW.trod]at h
  | succ n ih=>
    intro t cs x ht h
    have g:=Lm A ht
    have j:=List.all_eq_true.1 C t ht
    unfold DataW.trod at h
    unfold Ha
    split at h <;> (try rename_i hu) <;> (try simp only[hu]at g j ⊢) <;> try (cases g;done)
    all_goals first
      | (exact⟨_,Cl.one (.bool _) rfl,⟨_,rfl⟩,b1o _⟩)
      | (split at h
         · rename_i hc
           obtain⟨rfl,y⟩:=hc
           exact⟨_,Cl.one (.int _ _) rfl,⟨_,rfl,y⟩,b1o _⟩
         · cases h)
      | (split at h
         · rename_i hc
           cases h
           refine⟨_,Cl.one (.str _) rfl,⟨_,rfl,hc⟩,?_⟩
           show VA [PV.str _]<=Go.Proofs.YtgclceacfcdigaaGreatDoor.Rows.uptoBulk (DataW.lit (.string _))
           rw[Go.Proofs.YtgclceacfcdigaaGreatDoor.Rows.uptoBulk,VA,VA,pvW]
           omega
         · cases h)
      | (cases h;done)
      | (cases j;done)
      | skip
    · exact⟨_,Cl.one (.sl0 _ _ _ false (fun e=>by cases e)) rfl,⟨[],rfl,by simp,fun q s=>by simp at s⟩,b1o _⟩
    · rename_i e a len cap
      simp only[Bool.and_eq_true,Bool.or_eq_true,beq_iff_eq,decide_eq_true_eq]at g
      simp only at h
      split at h
      · rename_i hc
        obtain⟨xs,h1,h3⟩:=Option.bind_eq_some_iff.1 h
        obtain⟨ys,h4,rfl⟩:=Option.map_eq_some_iff.1 h3
        obtain⟨qs,i,k,r,z⟩:=a7q g.1.2 g.2 hc.2.1 hc.2.2 (fun cs x B=>ih e cs x (by simpa using g.1.1.2) B) h1
        refine⟨_,Cl.one i rfl,⟨qs,rfl,k,r⟩,?_⟩
        show VA [PV.sl _ false (qs.map (TW P e))]<=Go.Proofs.YtgclceacfcdigaaGreatDoor.Rows.uptoBulk (DataW.slice (xs.map (·.1)) (ys.map (·.1)))
        rw[Go.Proofs.YtgclceacfcdigaaGreatDoor.Rows.uptoBulk,VA,VA,pvW]
        have:VA (qs.map (TW P e))<=Go.Proofs.YtgclceacfcdigaaGreatDoor.Rows.uptoBulkAll (xs.map (·.1)):=z
        omega
      · cases h
    · rename_i cs2 u
      simp only[Bool.and_eq_true]at g
      split at h
      · rename_i hc
        rw[Option.map_eq_some_iff]at h
        obtain⟨xs,h1,rfl⟩:=h
        obtain⟨ps,i,r,k⟩:=a1q ih u.toList 0 (P.cellsOf t) xs g.1 (fun f l=>by simpa using List.all_eq_true.1 g.2 f l) hc (Nat.zero_le _) h1
        rw[List.drop_zero]at i
        refine⟨ps,i,⟨by rw[<- i.1.1,hc],fun f l=>by simpa using k [] rfl f l⟩,?_⟩
        show VA ps<=Go.Proofs.YtgclceacfcdigaaGreatDoor.Rows.uptoBulk (DataW.agg (xs.map (·.1)))
        rw[Go.Proofs.YtgclceacfcdigaaGreatDoor.Rows.uptoBulk]
        have:VA ps<=Go.Proofs.YtgclceacfcdigaaGreatDoor.Rows.uptoBulkAll (xs.map (·.1)):=r
        omega
      · cases h
theorem LM(s:EW P S=true)(B:d0n P S=true){t:TypeId}(ht:t∈S){r:Reach}{b0:Nat}{v:Value}{d:DataW H}{p:List MemPlace}(e:Value.okWide P w r b0 t v)(h:DataW.Trod enc P w base sp held t v d p):
  ∃ n q,RP (Ry w) v (TW P t q)∧Ha P n t q∧VA q<=uB d:=by
 obtain⟨n,h⟩:=h
 obtain⟨q,i,z,C⟩:=b7c s B n t _ _ ht h
 refine⟨n,q,?_,z,C⟩
 have u:=Lm s ht
 have g:v.cells = #[v]->X5 P t=false->RP (Ry w) v (TW P t q):=by
  intro hc ha
  rw[hc]at i
  have D:=i.1.1
  match q,D with
  | [x],_=>simp only[TW,ha,List.headD_cons];exact i.1.2 0 v x rfl rfl
 have agg : ∀ cs,v = .agg cs->X5 P t=true->RP (Ry w) v (TW P t q):=by
  rintro cs rfl ha
  simp only[TW,ha]
  exact .agg cs q (by have:=i.1.1;simpa [Value.cells]using this) (fun x k=>i.2 x (by simpa [Value.cells]using k)) fun j x y k A=>i.1.2 j x y (by simpa [Value.cells]using k) A
 split at u
 ·rename_i hu
  obtain⟨b,rfl⟩:=okWide_bool hu e
  exact g rfl (by simp[X5,hu])
 ·rename_i hu
  obtain⟨b,rfl⟩:=okWide_int hu e
  exact g rfl (by simp[X5,hu])
 ·rename_i hu
  obtain⟨b,rfl⟩:=okWide_string hu e
  exact g rfl (by simp[X5,hu])
 ·rename_i hu
  obtain⟨a,l,c,rfl⟩:=okWide_slice hu e
  exact g rfl (by simp[X5,hu])
 ·rename_i hu
  simp only[Value.okWide,hu]at e
  obtain⟨cs,rfl,_⟩:=e
  exact agg cs rfl (by simp[X5,hu])
 ·rename_i hu
  simp only[Value.okWide,hu]at e
  obtain⟨cs,rfl,_⟩:=e
  exact agg cs rfl (by simp[X5,hu])
 ·cases u
end
end
end Go.Pl
namespace Go.Proofs.YtgclceacfcdigaaGreatDoor
open Go.Pl
section
set_option maxRecDepth 100000
open Enc (enc dec is)
open EncL (encL decL isL)
theorem e8d:Tryz.prog.underlying 9=some .string:=by kernel_rfl
theorem f9k:X5 Tryz.prog 9=false:=by kernel_rfl
theorem a5r{n:Nat}{q:List PV}(h:Ha Tryz.prog n 9 q): ∃ s:Str,TW Tryz.prog 9 q=enc s:=by
 obtain⟨s,e,_⟩:=d6l e8d h
 exact⟨⟨s⟩,by rw[e,TW,f9k];rfl⟩
end
section
set_option maxRecDepth 100000
open Enc (enc dec is)
open EncL (encL decL isL)
theorem e6e{n0 j:Nat}{g e:List PV}(i:Ha Tryz.prog n0 9 g)(h1:Ha Tryz.prog j 9 e):
  preT (fun _:Str×Str×Unit=>true) [TW Tryz.prog 9 g,TW Tryz.prog 9 e]=true:=by
 obtain⟨a,k⟩:=a5r i
 obtain⟨b,h⟩:=a5r h1
 rw[k,h]
 exact Zn (a,b,()) rfl rfl
end
end Go.Proofs.YtgclceacfcdigaaGreatDoor
namespace Go.Proofs.YtgclceacfcdigaaGreatDoor
open Go.Shelf
def Tryz.lays145_ren:Go.Shelf.Ren:=⟨fun|145=>136|220=>158|219=>122|217=>121|225=>147|224=>148|267=>149|266=>146|314=>168|n=>n,fun|9=>9|4=>4|59=>156|3=>3|5=>5|46=>164|146=>184|51=>183|n=>n,fun|1=>0|n=>n⟩
theorem Tryz.lays145:Go.Proofs.Lays.n145 Tryz.prog Tryz.lays145_ren:={
 mixed:=by kernel_rfl
 f145:=Go.Pl.ck_ Tryz.func136
 f217:=Go.Pl.ck_ Tryz.func121
 f219:=Go.Pl.ck_ Tryz.func122
 f220:=Go.Pl.ck_ Tryz.func158
 f224:=Go.Pl.ck_ Tryz.func148
 f225:=Go.Pl.ck_ Tryz.func147
 f266:=Go.Pl.ck_ Tryz.func146
 f267:=Go.Pl.ck_ Tryz.func149
 f314:=Go.Pl.ck_ Tryz.func168
 t3:=Tryz.underlying3
 a3:=Tryz.isAgg3
 z3:=Tryz.sizeOf3
 v3:=Tryz.zeroValue3
 t4:=Tryz.underlying4
 a4:=Tryz.isAgg4
 z4:=Tryz.sizeOf4
 v4:=Tryz.zeroValue4
 t5:=Tryz.underlying5
 a5:=Tryz.isAgg5
 z5:=Tryz.sizeOf5
 v5:=Tryz.zeroValue5
 t9:=Tryz.underlying9
 a9:=Tryz.isAgg9
 z9:=Tryz.sizeOf9
 v9:=Tryz.zeroValue9
 t46:=Tryz.underlying164
 a46:=Tryz.isAgg164
 z46:=Tryz.sizeOf164
 v46:=Tryz.zeroValue164
 t51:=Tryz.underlying183
 a51:=Tryz.isAgg183
 z51:=Tryz.sizeOf183
 v51:=Tryz.zeroValue183
 t59:=Tryz.underlying156
 a59:=Tryz.isAgg156
 z59:=Tryz.sizeOf156
 v59:=Tryz.zeroValue156
 t146:=Tryz.underlying184
 a146:=Tryz.isAgg184
 z146:=Tryz.sizeOf184
 v146:=Tryz.zeroValue184
 g1:=by kernel_rfl}
def Tryz.lays137_ren:Go.Shelf.Ren:=⟨fun|137=>90|217=>121|266=>146|n=>n,fun|9=>9|5=>5|3=>3|n=>n,fun|n=>n⟩
theorem Tryz.lays137:Go.Proofs.Lays.n137 Tryz.prog Tryz.lays137_ren:={
 mixed:=by kernel_rfl
 f137:=Go.Pl.ck_ Tryz.func90
 f217:=Go.Pl.ck_ Tryz.func121
 f266:=Go.Pl.ck_ Tryz.func146
 t3:=Tryz.underlying3
 a3:=Tryz.isAgg3
 z3:=Tryz.sizeOf3
 v3:=Tryz.zeroValue3
 t5:=Tryz.underlying5
 a5:=Tryz.isAgg5
 z5:=Tryz.sizeOf5
 v5:=Tryz.zeroValue5
 t9:=Tryz.underlying9
 a9:=Tryz.isAgg9
 z9:=Tryz.sizeOf9
 v9:=Tryz.zeroValue9}
def Tryz.lays138_ren:Go.Shelf.Ren:=⟨fun|138=>65|195=>91|218=>92|143=>93|219=>122|217=>121|225=>147|224=>148|267=>149|266=>146|314=>168|n=>n,fun|9=>9|3=>3|4=>4|5=>5|0=>0|46=>164|146=>184|51=>183|n=>n,fun|1=>0|n=>n⟩
theorem Tryz.lays138:Go.Proofs.Lays.n138 Tryz.prog Tryz.lays138_ren:={
 mixed:=by kernel_rfl
 f138:=Go.Pl.ck_ Tryz.func65
 f143:=Go.Pl.ck_ Tryz.func93
 f195:=Go.Pl.ck_ Tryz.func91
 f217:=Go.Pl.ck_ Tryz.func121
 f218:=Go.Pl.ck_ Tryz.func92
 f219:=Go.Pl.ck_ Tryz.func122
 f224:=Go.Pl.ck_ Tryz.func148
 f225:=Go.Pl.ck_ Tryz.func147
 f266:=Go.Pl.ck_ Tryz.func146
 f267:=Go.Pl.ck_ Tryz.func149
 f314:=Go.Pl.ck_ Tryz.func168
 t0:=Tryz.underlying0
 a0:=Tryz.isAgg0
 z0:=Tryz.sizeOf0
 v0:=Tryz.zeroValue0
 t3:=Tryz.underlying3
 a3:=Tryz.isAgg3
 z3:=Tryz.sizeOf3
 v3:=Tryz.zeroValue3
 t4:=Tryz.underlying4
 a4:=Tryz.isAgg4
 z4:=Tryz.sizeOf4
 v4:=Tryz.zeroValue4
 t5:=Tryz.underlying5
 a5:=Tryz.isAgg5
 z5:=Tryz.sizeOf5
 v5:=Tryz.zeroValue5
 t9:=Tryz.underlying9
 a9:=Tryz.isAgg9
 z9:=Tryz.sizeOf9
 v9:=Tryz.zeroValue9
 t46:=Tryz.underlying164
 a46:=Tryz.isAgg164
 z46:=Tryz.sizeOf164
 v46:=Tryz.zeroValue164
 t51:=Tryz.underlying183
 a51:=Tryz.isAgg183
 z51:=Tryz.sizeOf183
 v51:=Tryz.zeroValue183
 t146:=Tryz.underlying184
 a146:=Tryz.isAgg184
 z146:=Tryz.sizeOf184
 v146:=Tryz.zeroValue184
 g1:=by kernel_rfl}
def Tryz.lays172_ren:Go.Shelf.Ren:=⟨fun|172=>123|244=>150|245=>151|247=>169|279=>170|280=>171|281=>172|282=>173|287=>181|316=>182|171=>154|205=>183|321=>190|322=>191|243=>174|246=>184|283=>192|284=>193|285=>194|286=>195|129=>206|317=>208|318=>209|319=>210|320=>211|337=>218|338=>219|n=>n,fun|9=>9|3=>3|75=>141|76=>142|4=>4|5=>5|167=>186|37=>169|0=>0|85=>187|2=>2|168=>189|53=>198|175=>199|46=>164|210=>202|127=>209|145=>212|143=>210|21=>21|171=>213|173=>216|212=>232|51=>183|20=>20|213=>233|232=>243|233=>244|80=>82|n=>n,fun|15=>1|16=>2|17=>5|18=>6|19=>7|n=>n⟩
theorem Tryz.lays172:Go.Proofs.LaysC.n172 Tryz.prog Tryz.lays172_ren:={
 mixed:=by kernel_rfl
 f129:=Go.Pl.ck_ Tryz.func206
 f171:=Go.Pl.ck_ Tryz.func154
 f172:=Go.Pl.ck_ Tryz.func123
 f205:=Go.Pl.ck_ Tryz.func183
 f243:=Go.Pl.ck_ Tryz.func174
 f244:=Go.Pl.ck_ Tryz.func150
 f245:=Go.Pl.ck_ Tryz.func151
 f246:=Go.Pl.ck_ Tryz.func184
 f247:=Go.Pl.ck_ Tryz.func169
 f279:=Go.Pl.ck_ Tryz.func170
 f280:=Go.Pl.ck_ Tryz.func171
 f281:=Go.Pl.ck_ Tryz.func172
 f282:=Go.Pl.ck_ Tryz.func173
 f283:=Go.Pl.ck_ Tryz.func192
 f284:=Go.Pl.ck_ Tryz.func193
 f285:=Go.Pl.ck_ Tryz.func194
 f286:=Go.Pl.ck_ Tryz.func195
 f287:=Go.Pl.ck_ Tryz.func181
 f316:=Go.Pl.ck_ Tryz.func182
 f317:=Go.Pl.ck_ Tryz.func208
 f318:=Go.Pl.ck_ Tryz.func209
 f319:=Go.Pl.ck_ Tryz.func210
 f320:=Go.Pl.ck_ Tryz.func211
 f321:=Go.Pl.ck_ Tryz.func190
 f322:=Go.Pl.ck_ Tryz.func191
 f337:=Go.Pl.ck_ Tryz.func218
 f338:=Go.Pl.ck_ Tryz.func219
 t0:=Tryz.underlying0
 a0:=Tryz.isAgg0
 z0:=Tryz.sizeOf0
 v0:=Tryz.zeroValue0
 t2:=Tryz.underlying2
 a2:=Tryz.isAgg2
 z2:=Tryz.sizeOf2
 v2:=Tryz.zeroValue2
 t3:=Tryz.underlying3
 a3:=Tryz.isAgg3
 z3:=Tryz.sizeOf3
 v3:=Tryz.zeroValue3
 t4:=Tryz.underlying4
 a4:=Tryz.isAgg4
 z4:=Tryz.sizeOf4
 v4:=Tryz.zeroValue4
 t5:=Tryz.underlying5
 a5:=Tryz.isAgg5
 z5:=Tryz.sizeOf5
 v5:=Tryz.zeroValue5
 t9:=Tryz.underlying9
 a9:=Tryz.isAgg9
 z9:=Tryz.sizeOf9
 v9:=Tryz.zeroValue9
 t20:=Tryz.underlying20
 a20:=Tryz.isAgg20
 z20:=Tryz.sizeOf20
 v20:=Tryz.zeroValue20
 t21:=Tryz.underlying21
 a21:=Tryz.isAgg21
 z21:=Tryz.sizeOf21
 v21:=Tryz.zeroValue21
 t37:=Tryz.underlying169
 a37:=Tryz.isAgg169
 z37:=Tryz.sizeOf169
 v37:=Tryz.zeroValue169
 t46:=Tryz.underlying164
 a46:=Tryz.isAgg164
 z46:=Tryz.sizeOf164
 v46:=Tryz.zeroValue164
 t51:=Tryz.underlying183
 a51:=Tryz.isAgg183
 z51:=Tryz.sizeOf183
 v51:=Tryz.zeroValue183
 t53:=Tryz.underlying198
 a53:=Tryz.isAgg198
 z53:=Tryz.sizeOf198
 v53:=Tryz.zeroValue198
 t75:=Tryz.underlying141
 a75:=Tryz.isAgg141
 z75:=Tryz.sizeOf141
 v75:=Tryz.zeroValue141
 t76:=Tryz.underlying142
 a76:=Tryz.isAgg142
 z76:=Tryz.sizeOf142
 v76:=Tryz.zeroValue142
 t85:=Tryz.underlying187
 a85:=Tryz.isAgg187
 z85:=Tryz.sizeOf187
 v85:=Tryz.zeroValue187
 t127:=Tryz.underlying209
 a127:=Tryz.isAgg209
 z127:=Tryz.sizeOf209
 v127:=Tryz.zeroValue209
 t143:=Tryz.underlying210
 a143:=Tryz.isAgg210
 z143:=Tryz.sizeOf210
 v143:=Tryz.zeroValue210
 t145:=Tryz.underlying212
 a145:=Tryz.isAgg212
 z145:=Tryz.sizeOf212
 v145:=Tryz.zeroValue212
 t167:=Tryz.underlying186
 a167:=Tryz.isAgg186
 z167:=Tryz.sizeOf186
 v167:=Tryz.zeroValue186
 t168:=Tryz.underlying189
 a168:=Tryz.isAgg189
 z168:=Tryz.sizeOf189
 v168:=Tryz.zeroValue189
 t171:=Tryz.underlying213
 a171:=Tryz.isAgg213
 z171:=Tryz.sizeOf213
 v171:=Tryz.zeroValue213
 t173:=Tryz.underlying216
 a173:=Tryz.isAgg216
 z173:=Tryz.sizeOf216
 v173:=Tryz.zeroValue216
 t175:=Tryz.underlying199
 a175:=Tryz.isAgg199
 z175:=Tryz.sizeOf199
 v175:=Tryz.zeroValue199
 t210:=Tryz.underlying202
 a210:=Tryz.isAgg202
 z210:=Tryz.sizeOf202
 v210:=Tryz.zeroValue202
 t212:=Tryz.underlying232
 a212:=Tryz.isAgg232
 z212:=Tryz.sizeOf232
 v212:=Tryz.zeroValue232
 t213:=Tryz.underlying233
 a213:=Tryz.isAgg233
 z213:=Tryz.sizeOf233
 t232:=Tryz.underlying243
 a232:=Tryz.isAgg243
 z232:=Tryz.sizeOf243
 v232:=Tryz.zeroValue243
 t233:=Tryz.underlying244
 a233:=Tryz.isAgg244
 z233:=Tryz.sizeOf244
 v233:=Tryz.zeroValue244
 g15:=by kernel_rfl
 g16:=by kernel_rfl
 g17:=by kernel_rfl
 g18:=by kernel_rfl
 g19:=by kernel_rfl
 t80:=Tryz.underlying82
 a80:=Tryz.isAgg82
 z80:=Tryz.sizeOf82
 v80:=Tryz.zeroValue82
 i0:=by kernel_rfl
 i2:=by kernel_rfl
 i3:=by kernel_rfl
 i4:=by kernel_rfl
 i5:=by kernel_rfl
 i9:=by kernel_rfl
 i20:=by kernel_rfl
 i21:=by kernel_rfl
 i37:=by kernel_rfl
 i46:=by kernel_rfl
 i51:=by kernel_rfl
 i53:=by kernel_rfl
 i75:=by kernel_rfl
 i76:=by kernel_rfl
 i80:=by kernel_rfl
 i85:=by kernel_rfl
 i127:=by kernel_rfl
 i143:=by kernel_rfl
 i145:=by kernel_rfl
 i167:=by kernel_rfl
 i168:=by kernel_rfl
 i171:=by kernel_rfl
 i173:=by kernel_rfl
 i175:=by kernel_rfl
 i210:=by kernel_rfl
 i212:=by kernel_rfl
 i232:=by kernel_rfl
 i233:=by kernel_rfl
 m15:=by kernel_rfl
 m16:=by kernel_rfl
 m17:=by kernel_rfl
 m18:=by kernel_rfl
 m19:=by kernel_rfl
 c0:=by kernel_rfl
 c2:=by kernel_rfl
 c3:=by kernel_rfl
 c4:=by kernel_rfl
 c5:=by kernel_rfl
 c9:=by kernel_rfl
 c20:=by kernel_rfl
 c21:=by kernel_rfl
 c37:=by kernel_rfl
 c46:=by kernel_rfl
 c51:=by kernel_rfl
 c53:=by kernel_rfl
 c75:=by kernel_rfl
 c76:=by kernel_rfl
 c80:=by kernel_rfl
 c85:=by kernel_rfl
 c127:=by kernel_rfl
 c143:=by kernel_rfl
 c145:=by kernel_rfl
 c167:=by kernel_rfl
 c168:=by kernel_rfl
 c171:=by kernel_rfl
 c173:=by kernel_rfl
 c175:=by kernel_rfl
 c210:=by kernel_rfl
 c212:=by kernel_rfl
 c213:=by kernel_rfl
 c232:=by kernel_rfl
 c233:=by kernel_rfl}
def Tryz.lays171_ren:Go.Shelf.Ren:=⟨fun|171=>154|243=>174|246=>184|283=>192|284=>193|285=>194|286=>195|129=>206|317=>208|318=>209|319=>210|320=>211|337=>218|338=>219|n=>n,fun|3=>3|9=>9|2=>2|4=>4|171=>213|0=>0|53=>198|37=>169|5=>5|173=>216|212=>232|51=>183|20=>20|213=>233|46=>164|232=>243|233=>244|n=>n,fun|17=>5|18=>6|19=>7|n=>n⟩
theorem Tryz.lays171:Go.Proofs.LaysM.n171 Tryz.prog Tryz.lays171_ren:={
 mixed:=by kernel_rfl
 f129:=Go.Pl.ck_ Tryz.func206
 f171:=Go.Pl.ck_ Tryz.func154
 f243:=Go.Pl.ck_ Tryz.func174
 f246:=Go.Pl.ck_ Tryz.func184
 f283:=Go.Pl.ck_ Tryz.func192
 f284:=Go.Pl.ck_ Tryz.func193
 f285:=Go.Pl.ck_ Tryz.func194
 f286:=Go.Pl.ck_ Tryz.func195
 f317:=Go.Pl.ck_ Tryz.func208
 f318:=Go.Pl.ck_ Tryz.func209
 f319:=Go.Pl.ck_ Tryz.func210
 f320:=Go.Pl.ck_ Tryz.func211
 f337:=Go.Pl.ck_ Tryz.func218
 f338:=Go.Pl.ck_ Tryz.func219
 t0:=Tryz.underlying0
 a0:=Tryz.isAgg0
 z0:=Tryz.sizeOf0
 v0:=Tryz.zeroValue0
 t2:=Tryz.underlying2
 a2:=Tryz.isAgg2
 z2:=Tryz.sizeOf2
 v2:=Tryz.zeroValue2
 t3:=Tryz.underlying3
 a3:=Tryz.isAgg3
 z3:=Tryz.sizeOf3
 v3:=Tryz.zeroValue3
 t4:=Tryz.underlying4
 a4:=Tryz.isAgg4
 z4:=Tryz.sizeOf4
 v4:=Tryz.zeroValue4
 t5:=Tryz.underlying5
 a5:=Tryz.isAgg5
 z5:=Tryz.sizeOf5
 v5:=Tryz.zeroValue5
 t9:=Tryz.underlying9
 a9:=Tryz.isAgg9
 z9:=Tryz.sizeOf9
 v9:=Tryz.zeroValue9
 t20:=Tryz.underlying20
 a20:=Tryz.isAgg20
 z20:=Tryz.sizeOf20
 v20:=Tryz.zeroValue20
 t37:=Tryz.underlying169
 a37:=Tryz.isAgg169
 z37:=Tryz.sizeOf169
 v37:=Tryz.zeroValue169
 t46:=Tryz.underlying164
 a46:=Tryz.isAgg164
 z46:=Tryz.sizeOf164
 v46:=Tryz.zeroValue164
 t51:=Tryz.underlying183
 a51:=Tryz.isAgg183
 z51:=Tryz.sizeOf183
 v51:=Tryz.zeroValue183
 t53:=Tryz.underlying198
 a53:=Tryz.isAgg198
 z53:=Tryz.sizeOf198
 v53:=Tryz.zeroValue198
 t171:=Tryz.underlying213
 a171:=Tryz.isAgg213
 z171:=Tryz.sizeOf213
 v171:=Tryz.zeroValue213
 t173:=Tryz.underlying216
 a173:=Tryz.isAgg216
 z173:=Tryz.sizeOf216
 v173:=Tryz.zeroValue216
 t212:=Tryz.underlying232
 a212:=Tryz.isAgg232
 z212:=Tryz.sizeOf232
 v212:=Tryz.zeroValue232
 t213:=Tryz.underlying233
 a213:=Tryz.isAgg233
 z213:=Tryz.sizeOf233
 t232:=Tryz.underlying243
 a232:=Tryz.isAgg243
 z232:=Tryz.sizeOf243
 v232:=Tryz.zeroValue243
 t233:=Tryz.underlying244
 a233:=Tryz.isAgg244
 z233:=Tryz.sizeOf244
 v233:=Tryz.zeroValue244
 g17:=by kernel_rfl
 g18:=by kernel_rfl
 g19:=by kernel_rfl
 i0:=by kernel_rfl
 i2:=by kernel_rfl
 i3:=by kernel_rfl
 i4:=by kernel_rfl
 i5:=by kernel_rfl
 i9:=by kernel_rfl
 i20:=by kernel_rfl
 i37:=by kernel_rfl
 i46:=by kernel_rfl
 i51:=by kernel_rfl
 i53:=by kernel_rfl
 i171:=by kernel_rfl
 i173:=by kernel_rfl
 i212:=by kernel_rfl
 i232:=by kernel_rfl
 i233:=by kernel_rfl
 m17:=by kernel_rfl
 m18:=by kernel_rfl
 m19:=by kernel_rfl}
def Tryz.lays99_ren:Go.Shelf.Ren:=⟨fun|99=>89|206=>120|n=>n,fun|9=>9|4=>4|3=>3|n=>n,fun|n=>n⟩
theorem Tryz.lays99:Go.Proofs.Lays.n99 Tryz.prog Tryz.lays99_ren:={
 mixed:=by kernel_rfl
 f99:=Go.Pl.ck_ Tryz.func89
 f206:=Go.Pl.ck_ Tryz.func120
 t3:=Tryz.underlying3
 a3:=Tryz.isAgg3
 z3:=Tryz.sizeOf3
 v3:=Tryz.zeroValue3
 t4:=Tryz.underlying4
 a4:=Tryz.isAgg4
 z4:=Tryz.sizeOf4
 v4:=Tryz.zeroValue4
 t9:=Tryz.underlying9
 a9:=Tryz.isAgg9
 z9:=Tryz.sizeOf9
 v9:=Tryz.zeroValue9}
def Tryz.lays190_ren:Go.Shelf.Ren:=⟨fun|190=>176|125=>186|258=>185|128=>205|129=>206|302=>196|303=>197|304=>198|305=>199|306=>200|307=>201|308=>202|309=>203|310=>204|333=>212|329=>213|330=>214|334=>215|335=>216|336=>217|344=>220|n=>n,fun|31=>23|9=>9|3=>3|46=>164|0=>0|51=>183|53=>198|4=>4|183=>220|182=>219|131=>100|5=>5|218=>234|222=>238|228=>240|229=>241|n=>n,fun|n=>n⟩
theorem Tryz.lays190:Go.Proofs.Lays.n190 Tryz.prog Tryz.lays190_ren:={
 mixed:=by kernel_rfl
 f125:=Go.Pl.ck_ Tryz.func186
 f128:=Go.Pl.ck_ Tryz.func205
 f129:=Go.Pl.ck_ Tryz.func206
 f190:=Go.Pl.ck_ Tryz.func176
 f258:=Go.Pl.ck_ Tryz.func185
 f302:=Go.Pl.ck_ Tryz.func196
 f303:=Go.Pl.ck_ Tryz.func197
 f304:=Go.Pl.ck_ Tryz.func198
 f305:=Go.Pl.ck_ Tryz.func199
 f306:=Go.Pl.ck_ Tryz.func200
 f307:=Go.Pl.ck_ Tryz.func201
 f308:=Go.Pl.ck_ Tryz.func202
 f309:=Go.Pl.ck_ Tryz.func203
 f310:=Go.Pl.ck_ Tryz.func204
 f329:=Go.Pl.ck_ Tryz.func213
 f330:=Go.Pl.ck_ Tryz.func214
 f333:=Go.Pl.ck_ Tryz.func212
 f334:=Go.Pl.ck_ Tryz.func215
 f335:=Go.Pl.ck_ Tryz.func216
 f336:=Go.Pl.ck_ Tryz.func217
 f344:=Go.Pl.ck_ Tryz.func220
 t0:=Tryz.underlying0
 a0:=Tryz.isAgg0
 z0:=Tryz.sizeOf0
 v0:=Tryz.zeroValue0
 t3:=Tryz.underlying3
 a3:=Tryz.isAgg3
 z3:=Tryz.sizeOf3
 v3:=Tryz.zeroValue3
 t4:=Tryz.underlying4
 a4:=Tryz.isAgg4
 z4:=Tryz.sizeOf4
 v4:=Tryz.zeroValue4
 t5:=Tryz.underlying5
 a5:=Tryz.isAgg5
 z5:=Tryz.sizeOf5
 v5:=Tryz.zeroValue5
 t9:=Tryz.underlying9
 a9:=Tryz.isAgg9
 z9:=Tryz.sizeOf9
 v9:=Tryz.zeroValue9
 t31:=Tryz.underlying23
 a31:=Tryz.isAgg23
 z31:=Tryz.sizeOf23
 v31:=Tryz.zeroValue23
 t46:=Tryz.underlying164
 a46:=Tryz.isAgg164
 z46:=Tryz.sizeOf164
 v46:=Tryz.zeroValue164
 t51:=Tryz.underlying183
 a51:=Tryz.isAgg183
 z51:=Tryz.sizeOf183
 v51:=Tryz.zeroValue183
 t53:=Tryz.underlying198
 a53:=Tryz.isAgg198
 z53:=Tryz.sizeOf198
 v53:=Tryz.zeroValue198
 t131:=Tryz.underlying100
 a131:=Tryz.isAgg100
 z131:=Tryz.sizeOf100
 v131:=Tryz.zeroValue100
 t182:=Tryz.underlying219
 a182:=Tryz.isAgg219
 z182:=Tryz.sizeOf219
 v182:=Tryz.zeroValue219
 t183:=Tryz.underlying220
 a183:=Tryz.isAgg220
 z183:=Tryz.sizeOf220
 v183:=Tryz.zeroValue220
 t218:=Tryz.underlying234
 a218:=Tryz.isAgg234
 z218:=Tryz.sizeOf234
 v218:=Tryz.zeroValue234
 t222:=Tryz.underlying238
 a222:=Tryz.isAgg238
 z222:=Tryz.sizeOf238
 v222:=Tryz.zeroValue238
 t228:=Tryz.underlying240
 a228:=Tryz.isAgg240
 z228:=Tryz.sizeOf240
 v228:=Tryz.zeroValue240
 t229:=Tryz.underlying241
 a229:=Tryz.isAgg241
 z229:=Tryz.sizeOf241
 v229:=Tryz.zeroValue241}
end Go.Proofs.YtgclceacfcdigaaGreatDoor
namespace Go.Proofs.YtgclceacfcdigaaGreatDoor
open Go.Pl Go.RowKit
open Enc (enc dec is)
open EncL (encL decL isL)
set_option maxRecDepth 100000
theorem UN:Ya Tryz.prog 89 (fun _:Str×Str×Unit=>true) (fun x:Str×Str×Unit=>x.2.1.s.isPrefixOf x.1.s):=Xu (by
  rintro⟨⟨s⟩,⟨p⟩,⟨⟩⟩ hps Φ w vs hL hΦ hv
  obtain⟨u,v,rfl,h1,h2⟩:=e2v hv
  rw[QZ h1,QZ h2]
  refine(Any.strings_HasPrefix Tryz.lays99 ⟨s.toArray⟩ ⟨p.toArray⟩ w).mono ?_
  rintro e w' ⟨rfl,rfl⟩
  exact⟨_,rfl,.bool _,.refl _ _⟩)
theorem d8h:Ya Tryz.prog 123 (fun x:Str×Unit=>decide (x.1.s.length<=1000000)) (fun x:Str×Unit=>Yx x.1):=Xu (by
  rintro⟨⟨s⟩,⟨⟩⟩ hps Φ w vs hL hΦ g
  have hs:s.length<=1000000:=by simpa using hps
  obtain⟨v,rfl,h1⟩:=f7y g
  rw[QZ h1]
  have l:(⟨s.toArray⟩:ByteArray).size=s.length:=rfl
  cases h:Lib.atoiAll s
  ·rename_i n
   have q:Yx ⟨s⟩=(n,⟨false⟩):=by simp only[Yx,h]
   rw[q]
   refine(Any.strconv_Atoi_ok Tryz.lays172 ⟨s.toArray⟩ (by rw[l];omega) n h w).mono ?_
   rintro e w' ⟨rfl,u⟩
   refine⟨_,rfl,.tup _ _ rfl ?_,?_⟩
   ·intro j v x g i
    match j with
    | 0=>cases g;cases i;exact .int _ _
    | 1=>cases g;cases i;exact .nili
    | j+2=>simp at g
   ·rcases u with rfl|⟨t,rfl⟩
    ·exact .refl _ _
    ·exact TB _ _ 0 _
  ·skip
   have q:Yx ⟨s⟩=(0,⟨true⟩):=by simp only[Yx,h]
   rw[q]
   obtain⟨cs,hc,ev,r,k⟩:=hL.syn
   refine(Any.strconv_Atoi_syntax Tryz.lays172 ⟨s.toArray⟩ (by rw[l];omega) h ev w (KT hΦ hc r) k).mono ?_
   rintro e w' ⟨N,rfl,_,_,hb⟩
   refine⟨_,rfl,.tup _ _ rfl ?_,hb⟩
   intro j v x g i
   match j with
   | 0=>cases g;cases i;exact .int _ _
   | 1=>cases g;cases i;exact .ifc _ _
   | j+2=>simp at g
  ·skip
   have q:Yx ⟨s⟩=(Lib.atoiSat s,⟨true⟩):=by simp only[Yx,h]
   rw[q]
   obtain⟨cs,hc,ev,r,k⟩:=hL.rng
   refine(Any.strconv_Atoi_range Tryz.lays172 ⟨s.toArray⟩ (by rw[l];omega) h ev w (KT hΦ hc r) k).mono ?_
   rintro e w' ⟨N,rfl,_,_,hb⟩
   refine⟨_,rfl,.tup _ _ rfl ?_,hb⟩
   intro j v x g i
   match j with
   | 0=>cases g;cases i;exact .int _ _
   | 1=>cases g;cases i;exact .ifc _ _
   | j+2=>simp at g)
theorem a5a:Ya Tryz.prog 154 (fun x:Int×Unit=>decide (-9223372036854775808<=x.1)&&decide (x.1<=9223372036854775807)) (fun x:Int×Unit=>Pi x.1):=Xu (by
  rintro⟨n,⟨⟩⟩ hps Φ w vs hL hΦ hv
  obtain⟨v,rfl,h1⟩:=f7y hv
  have h1:RP Φ v (.int .i64 n):=h1
  rw[c8p h1]
  have hn : -9223372036854775808<=n∧n<=9223372036854775807:=by simpa using hps
  have hg:=hL.pow
  obtain⟨T,fz,hh⟩:=hΦ _ _ hg
  refine(Any.strconv_Itoa Tryz.lays171 n hn.1 hn.2 w ?_).mono ?_
  ·unfold Lib.TabIs World.var?
   rw[show Program.globalNamed Tryz.prog "internal/strconv.uint64pow10" = some 5 by kernel_rfl]
   simp only[Option.bind_some,hh]
   rfl
  ·rintro e w' ⟨rfl,k,os,rfl⟩
   refine⟨_,rfl,.str _,?_⟩
   exact⟨rfl,rfl,rfl,by show w.heap.size<=(w.heap++os).size;simp,fun j hj=>by show(w.heap++os)[j]? = _;rw[Array.getElem?_append_left hj]⟩)
end Go.Proofs.YtgclceacfcdigaaGreatDoor
namespace Go.Proofs.YtgclceacfcdigaaGreatDoor
open Go.Shelf
def Tryz.lays160_ren:Go.Shelf.Ren:=⟨fun|160=>140|232=>162|231=>161|227=>163|234=>165|233=>164|236=>167|235=>166|228=>177|271=>180|151=>179|197=>178|120=>189|152=>188|260=>187|137=>90|119=>207|224=>148|225=>147|217=>121|266=>146|n=>n,fun|9=>9|4=>4|3=>3|5=>5|117=>179|116=>178|0=>0|124=>182|21=>21|105=>195|46=>164|119=>226|139=>229|138=>228|n=>n,fun|3=>3|4=>4|n=>n⟩
theorem Tryz.lays160:Go.Proofs.Lays.n160 Tryz.prog Tryz.lays160_ren:={
 mixed:=by kernel_rfl
 f119:=Go.Pl.ck_ Tryz.func207
 f120:=Go.Pl.ck_ Tryz.func189
 f137:=Go.Pl.ck_ Tryz.func90
 f151:=Go.Pl.ck_ Tryz.func179
 f152:=Go.Pl.ck_ Tryz.func188
 f160:=Go.Pl.ck_ Tryz.func140
 f197:=Go.Pl.ck_ Tryz.func178
 f217:=Go.Pl.ck_ Tryz.func121
 f224:=Go.Pl.ck_ Tryz.func148
 f225:=Go.Pl.ck_ Tryz.func147
 f227:=Go.Pl.ck_ Tryz.func163
 f228:=Go.Pl.ck_ Tryz.func177
 f231:=Go.Pl.ck_ Tryz.func161
 f232:=Go.Pl.ck_ Tryz.func162
 f233:=Go.Pl.ck_ Tryz.func164
 f234:=Go.Pl.ck_ Tryz.func165
 f235:=Go.Pl.ck_ Tryz.func166
 f236:=Go.Pl.ck_ Tryz.func167
 f260:=Go.Pl.ck_ Tryz.func187
 f266:=Go.Pl.ck_ Tryz.func146
 f271:=Go.Pl.ck_ Tryz.func180
 t0:=Tryz.underlying0
 a0:=Tryz.isAgg0
 z0:=Tryz.sizeOf0
 v0:=Tryz.zeroValue0
 t3:=Tryz.underlying3
 a3:=Tryz.isAgg3
 z3:=Tryz.sizeOf3
 v3:=Tryz.zeroValue3
 t4:=Tryz.underlying4
 a4:=Tryz.isAgg4
 z4:=Tryz.sizeOf4
 v4:=Tryz.zeroValue4
 t5:=Tryz.underlying5
 a5:=Tryz.isAgg5
 z5:=Tryz.sizeOf5
 v5:=Tryz.zeroValue5
 t9:=Tryz.underlying9
 a9:=Tryz.isAgg9
 z9:=Tryz.sizeOf9
 v9:=Tryz.zeroValue9
 t21:=Tryz.underlying21
 a21:=Tryz.isAgg21
 z21:=Tryz.sizeOf21
 v21:=Tryz.zeroValue21
 t46:=Tryz.underlying164
 a46:=Tryz.isAgg164
 z46:=Tryz.sizeOf164
 v46:=Tryz.zeroValue164
 t105:=Tryz.underlying195
 a105:=Tryz.isAgg195
 z105:=Tryz.sizeOf195
 v105:=Tryz.zeroValue195
 t116:=Tryz.underlying178
 a116:=Tryz.isAgg178
 z116:=Tryz.sizeOf178
 t117:=Tryz.underlying179
 a117:=Tryz.isAgg179
 z117:=Tryz.sizeOf179
 v117:=Tryz.zeroValue179
 t119:=Tryz.underlying226
 a119:=Tryz.isAgg226
 z119:=Tryz.sizeOf226
 t124:=Tryz.underlying182
 a124:=Tryz.isAgg182
 z124:=Tryz.sizeOf182
 v124:=Tryz.zeroValue182
 t138:=Tryz.underlying228
 a138:=Tryz.isAgg228
 z138:=Tryz.sizeOf228
 v138:=Tryz.zeroValue228
 t139:=Tryz.underlying229
 a139:=Tryz.isAgg229
 z139:=Tryz.sizeOf229
 v139:=Tryz.zeroValue229
 g3:=by kernel_rfl
 g4:=by kernel_rfl}
end Go.Proofs.YtgclceacfcdigaaGreatDoor
namespace Go.Proofs.YtgclceacfcdigaaGreatDoor
open Go.Pl Go.RowKit
open Enc (enc dec is)
open EncL (encL decL isL)
set_option maxRecDepth 100000
theorem f1w: ∀ s:List UInt8,((s.dropWhile fun c=>c != 46)=[]->Lib.index s [46] = -1) ∧
  ∀ (c:UInt8) (r:List UInt8),(s.dropWhile fun c=>c != 46)=c::r->Lib.index s [46]=((s.takeWhile fun c=>c != 46).length:Nat)∧s.drop ((s.takeWhile fun c=>c != 46).length+1)=r∧s.take (s.takeWhile fun c=>c != 46).length=s.takeWhile fun c=>c != 46
 | []=>⟨fun _=>rfl,fun _ _ h=>by cases h⟩
 | b::l=>by
  obtain⟨h1,h2⟩:=f1w l
  by_cases hb:b=46
  ·subst hb
   refine⟨fun h=>by simp at h,fun c r h=> ?_⟩
   have h:(46:UInt8)::l=c::r:=by simpa using h
   cases h
   exact⟨rfl,rfl,rfl⟩
  ·have g:(b != 46)=true:=by simpa using hb
   have j:([46]:List UInt8).isPrefixOf (b::l)=false:=by simp[List.isPrefixOf];exact fun e=>hb e.symm
   have i:Lib.index (b::l) [46]=if Lib.index l [46] == -1 then -1 else Lib.index l [46]+1:=by rw[Lib.index,j];rfl
   rw[List.dropWhile_cons,if_pos g,List.takeWhile_cons,if_pos g]
   refine⟨fun h=>by rw[i,h1 h];rfl,fun c r h=> ?_⟩
   obtain⟨k,u,q⟩:=h2 c r h
   rw[i,k]
   refine⟨?_,?_,?_⟩
   ·rw[if_neg (by simp),List.length_cons];rfl
   ·rw[List.length_cons,List.drop_succ_cons];exact u
   ·rw[List.length_cons,List.take_succ_cons,q]
theorem f0z(s:List UInt8):Lib.cut s [46]=((Qn ⟨s⟩).a.s,(Qn ⟨s⟩).b.s,(Qn ⟨s⟩).c):=by
 obtain⟨h1,h2⟩:=f1w s
 unfold Lib.cut Qn
 cases hd:s.dropWhile fun c=>c != 46 with
 | nil=>
  rw[h1 hd]
  rfl
 | cons c r=>
  obtain⟨e,h,g⟩:=h2 c r hd
  rw[e,if_pos (by omega),Int.toNat_natCast,g]
  show(_,s.drop ((s.takeWhile fun c=>c != 46).length+1),true)=_
  rw[h]
theorem d5n:Ya Tryz.prog 136 (fun x:Str×Str×Unit=>decide (x.1.s.length<=1048576)&&decide (x.2.1.s=[46])) (fun x:Str×Str×Unit=>Qn x.1):=Xu (by
  rintro⟨⟨s⟩,⟨p⟩,⟨⟩⟩ hps Φ w vs hL hΦ g
  simp only[Bool.and_eq_true,decide_eq_true_eq]at hps
  obtain⟨hs,i⟩:=hps
  have i:p=[46]:=i
  subst i
  obtain⟨u,v,rfl,h1,h2⟩:=e2v g
  rw[QZ h1,QZ h2]
  obtain⟨cs,m,hc,hm⟩:=hL.mx
  have l:(⟨s.toArray⟩:ByteArray).size=s.length:=rfl
  refine(Any.strings_Cut Tryz.lays145 ⟨s.toArray⟩ ⟨#[46]⟩ m w (by rw[l];have hs:s.length<=1048576:=hs;omega) (KT hΦ hc hm)).mono ?_
  rintro e w' ⟨rfl,k,rfl⟩
  refine⟨_,rfl,.tup _ _ rfl ?_,?_⟩
  ·rw[show(⟨s.toArray⟩:ByteArray).data.toList=s from rfl,show(⟨#[46]⟩:ByteArray).data.toList=[46]from rfl,f0z]
   intro j v x g h
   match j with
   | 0=>cases g;cases h;exact .str _
   | 1=>cases g;cases h;exact .str _
   | 2=>cases g;cases h;exact .bool _
   | j+3=>simp at g
  ·exact⟨rfl,rfl,rfl,Nat.le_refl _,fun _ _=>rfl⟩)
theorem e9e:Ya Tryz.prog 90 (fun x:Str×UInt8×Unit=>decide (x.1.s.length<=1048576)) (fun x:Str×UInt8×Unit=>Lib.indexByte x.1.s x.2.1):=Xu (by
  rintro⟨⟨s⟩,c,⟨⟩⟩ hps Φ w vs hL hΦ hv
  obtain⟨u,v,rfl,h1,h2⟩:=e2v hv
  rw[QZ h1,c8p h2]
  refine(Any.strings_IndexByte Tryz.lays137 ⟨s.toArray⟩ (c.toNat:Int) w).mono ?_
  rintro e w' ⟨rfl,rfl⟩
  have hc:((c.toNat:Int)).toNat.toUInt8=c:=by
   rw[Int.toNat_natCast]
   exact UInt8.ofNat_toNat
  rw[hc]
  exact⟨_,rfl,.int _ _,.refl _ _⟩)
theorem d5d:Ya Tryz.prog 65 (fun x:Str×Str×Unit=>decide (x.1.s.length<=1048576)&&decide (x.2.1.s=[10])) (fun x:Str×Str×Unit=>(Lib.countByte x.1.s 10:Int)):=Xu (by
  rintro⟨⟨s⟩,⟨p⟩,⟨⟩⟩ hps Φ w vs hL hΦ hv
  obtain⟨-,rfl⟩:s.length<=1048576∧p=[10]:=by simpa using hps
  obtain⟨u,v,rfl,h1,h2⟩:=e2v hv
  rw[QZ h1,QZ h2]
  refine(Any.strings_Count_one Tryz.lays138 ⟨s.toArray⟩ 10 w).mono ?_
  rintro e w' ⟨rfl,rfl⟩
  exact⟨_,rfl,.int _ _,.refl _ _⟩)
theorem c6t:Ya Tryz.prog 140 (fun x:Str×Str×Unit=>decide (x.1.s.length<=1048576)&&decide (x.2.1.s=J5)) (fun x:Str×Str×Unit=>(⟨Mh x.1.s⟩:Str)):=Xu (by
  rintro⟨⟨s⟩,⟨p⟩,⟨⟩⟩ hps Φ w vs hL hΦ hv
  simp only[Bool.and_eq_true,decide_eq_true_eq]at hps
  obtain⟨hs,h⟩:=hps
  have h:p=J5:=h
  subst h
  obtain⟨u,v,rfl,h1,h2⟩:=e2v hv
  rw[QZ h1,QZ h2]
  have g:(⟨s.toArray⟩:ByteArray).size=s.length:=rfl
  refine(Any.strings_Trim_laid Tryz.lays160 (by kernel_rfl) ⟨s.toArray⟩ ⟨J5.toArray⟩ w (by rw[g];have hs:s.length<=1048576:=hs;omega) (by decide) (ascii_of_all (l:=J5) (by decide))).mono ?_
  rintro e w' ⟨rfl,hb⟩
  exact⟨_,rfl,.str _,hb⟩)
end Go.Proofs.YtgclceacfcdigaaGreatDoor
namespace Go.Proofs.YtgclceacfcdigaaGreatDoor
open Go.RowKit Go.Lib Go.Pl
theorem c8s:(Tryz.prog.info? 3).map (fun i=>(i.zero,i.size,i.bytes))=some (some (.int .i64 0),1,8):=by kernel_rfl
theorem CY:Tryz.prog.underlying 25=some (.slice 3):=by kernel_rfl
theorem b0l(n c:Nat)(w:World):Calls Tryz.prog 134 #[.slice none n c] w fun e w'=>e = .returned (.slice none 0 0)∧w'=w:=by
 have q22 : ∀ (w:World) (a:Option Addr) (n c h g:Nat),(binOp .eql 25 (.slice a n c) (.slice none h g)).run Tryz.prog w = .ok (.bool a.isNone) w:=fun w a n c h g=>Lib.run_eql_slice_nil w _ _ a n c h g CY
 go_enter Tryz.func134,Tryz.ntmps134
 go_wp2
 go_ret
 exact⟨rfl,rfl⟩
theorem b0e(a:Addr)(c:Nat)(w:World):Calls Tryz.prog 134 #[.slice (some a) 0 c] w fun e w'=>(∃ g,e = .returned (.slice (some g) 0 0))∧Below w.heap.size w w':=by
 have q22 : ∀ (w:World) (a:Option Addr) (n c i h:Nat),(binOp .eql 25 (.slice a n c) (.slice none i h)).run Tryz.prog w = .ok (.bool a.isNone) w:=fun w a n c i h=>Lib.run_eql_slice_nil w _ _ a n c i h CY
 obtain⟨i0,hi,hz0,hz1,hz2⟩:=info_parts c8s
 go_enter Tryz.func134,Tryz.ntmps134
 go_wp2_with (at_builtin;refine Lib.wpList_append_run _ rfl _ _ _ _ rfl _ _ rfl rfl _ _ (VI CY hi (Nat.le_refl _)) ?_)
 go_ret
 exact⟨⟨_,rfl⟩,(Below.refl _ w).alloc (Nat.le_refl _) _⟩
theorem a8m(a:Addr)(n c:Nat)(news:List Value)(w:World)(h0:0<n)(hn:n<=2000000)(C:news.length=n*1)(hc : ∀ j u,news[j]? = some u->w.cell? (a.add j)=some u)(h1 : ∀ u∈news,u.oneCell'=true):
  Calls Tryz.prog 134 #[.slice (some a) n c] w fun e w'=> ∃ v',e = .returned v'∧w'.ownsRow w.heap.size 3 1 v' n news∧Below w.heap.size w w':=by
 have q22 : ∀ (w:World) (a:Option Addr) (n c l i:Nat),(binOp .eql 25 (.slice a n c) (.slice none l i)).run Tryz.prog w = .ok (.bool a.isNone) w:=fun w a n c l i=>Lib.run_eql_slice_nil w _ _ a n c l i CY
 obtain⟨z,hi,r,q,s⟩:=info_parts c8s
 have A:Aside (∀ j u,news[j]? = some u->w.cell? (a.add j)=some u):=hc
 clear hc
 go_enter Tryz.func134,Tryz.ntmps134
 go_wp2_with (at_builtin;refine wpList_append_own _ rfl _ _ 25 rfl w.heap.size 3 z (.int .i64 0) 1 8 CY hi r q s rfl (by decide) _ _ _ rfl (World.ownsRow_made w #[] 0 (Nat.le_refl _) (Nat.zero_le _) rfl) a n c news rfl ?qc1 ?qc2 ?qc3 ?qc4 ?qc5 ?qc6 ?_)
 case qc1=>exact C
 case qc2=>intro j u y;exact Lib.cell?_alloc_some _ (A.out j u y)
 case qc3=>exact h1
 case qc4=>unfold maxLen;omega
 case qc5=>omega
 case qc6=>simp
 intro v' w1 h g hnil
 go_wp2
 go_ret
 refine⟨v',rfl,by simpa using h,?_⟩
 exact((Below.refl _ w).alloc (Nat.le_refl _) _).grown g (by simp) (by intro k B;simp[Value.ownBlock]at B;omega)
theorem f7r:CloneC Tryz.prog 134 3 1:=⟨b0l,b0e,a8m⟩
end Go.Proofs.YtgclceacfcdigaaGreatDoor
namespace Go.Proofs.YtgclceacfcdigaaGreatDoor
open Go.Pl
open Enc (enc dec is)
open EncL (encL decL isL)
set_option maxRecDepth 100000
theorem Kl:Tryz.prog.follows .mixedOrders=true:=by kernel_rfl
theorem tq{f:Nat}{D:Den}{l:List (Nat×Den)}{fn:Func}(hf:Tryz.prog.funcs[f]? = some fn)(h:b8r Tryz.prog f D)(k:Yk Tryz.prog (Xa l))(hb:(fn.body.isSome&& !(fn.name == "runtime.NumGoroutine"))=true:=by kernel_rfl):Yk Tryz.prog (Xa ((f,D)::l)):=Gh (ent hf hb h) k
theorem dq{f nt:Nat}{α β:Type}[EncL α][Enc β]{fn:Func}{T:ZP}{ic:IC}{rs:List IRes}{pre:α->Bool}{F:α->β}(h : ∀ a,pre a=true->Zm T 0 (Za rs (Ze (F a))) ic [] (YI nt (encL a)))(k:Yk Tryz.prog T)(j:Tryz.prog.funcs[f]? = some fn)(g:TQ Tryz.prog fn=some ic:=by kernel_rfl)(i:XH (Y8 Tryz.prog) fn.results.toList=some rs:=by kernel_rfl)(e:fn.ntmps=nt:=by kernel_rfl):Ya Tryz.prog f pre F:=Ya.of k Kl j g i e h
theorem Bc{α β S:Type}[EncL α][Enc β][EncL S]{T:ZP}{f:Nat}{fn:Func}{ic:IC}{rs:List IRes}{mk:α->List AV}{e g:List AObj}{pre:S->α->Bool}{un:List AV->α}{F:S->α->β×S}{nt k:Nat}(h : ∀ s a,pre s a=true->Zm T k (ZB k rs (ZJ e g (F s a).1 (F s a).2)) ic [] (Z8 nt (mk a) (e++Zj s::g)))(hm:MC mk un)(q:Yk Tryz.prog T)(r:Tryz.prog.funcs[f]? = some fn)(u:e.length+1+g.length=k:=by exact rfl)(j:TQ Tryz.prog fn=some ic:=by kernel_rfl)(l:XH (Y8 Tryz.prog) fn.results.toList=some rs:=by kernel_rfl)(i:fn.ntmps=nt:=by kernel_rfl):Z9 Tryz.prog f mk un e g pre F:=Z9.of hm q Kl r j l i u h
theorem Ot:Ya Tryz.prog 123 (fun x:Str×Unit=>decide (x.1.s.length<=281474976710656)) (fun x:Str×Unit=>Yx x.1):=Xu (by
  rintro⟨⟨s⟩,⟨⟩⟩ hps Φ w vs hL hΦ g
  have hs:s.length<=281474976710656:=by simpa using hps
  obtain⟨v,rfl,h1⟩:=f7y g
  rw[QZ h1]
  have l:(⟨s.toArray⟩:ByteArray).size=s.length:=rfl
  cases h:Lib.atoiAll s
  ·rename_i n
   have q:Yx ⟨s⟩=(n,⟨false⟩):=by simp only[Yx,h]
   rw[q]
   refine(Any.strconv_Atoi_ok Tryz.lays172 ⟨s.toArray⟩ (by rw[l];omega) n h w).mono ?_
   rintro e w' ⟨rfl,u⟩
   refine⟨_,rfl,.tup _ _ rfl ?_,?_⟩
   ·intro j v x g i
    match j with
    | 0=>cases g;cases i;exact .int _ _
    | 1=>cases g;cases i;exact .nili
    | j+2=>simp at g
   ·rcases u with rfl|⟨t,rfl⟩
    ·exact .refl _ _
    ·exact TB _ _ 0 _
  ·skip
   have q:Yx ⟨s⟩=(0,⟨true⟩):=by simp only[Yx,h]
   rw[q]
   obtain⟨cs,hc,ev,r,k⟩:=hL.syn
   refine(Any.strconv_Atoi_syntax Tryz.lays172 ⟨s.toArray⟩ (by rw[l];omega) h ev w (KT hΦ hc r) k).mono ?_
   rintro e w' ⟨N,rfl,_,_,hb⟩
   refine⟨_,rfl,.tup _ _ rfl ?_,hb⟩
   intro j v x g i
   match j with
   | 0=>cases g;cases i;exact .int _ _
   | 1=>cases g;cases i;exact .ifc _ _
   | j+2=>simp at g
  ·skip
   have q:Yx ⟨s⟩=(Lib.atoiSat s,⟨true⟩):=by simp only[Yx,h]
   rw[q]
   obtain⟨cs,hc,ev,r,k⟩:=hL.rng
   refine(Any.strconv_Atoi_range Tryz.lays172 ⟨s.toArray⟩ (by rw[l];omega) h ev w (KT hΦ hc r) k).mono ?_
   rintro e w' ⟨N,rfl,_,_,hb⟩
   refine⟨_,rfl,.tup _ _ rfl ?_,hb⟩
   intro j v x g i
   match j with
   | 0=>cases g;cases i;exact .int _ _
   | 1=>cases g;cases i;exact .ifc _ _
   | j+2=>simp at g)
theorem c9u:Xj Tryz.prog 176 UG Qz:=c4t (Any.slices_Sort_string Tryz.lays190) (Any.slices_Sort_string_none Tryz.lays190)
theorem OC:Ya Tryz.prog 131 (fun _:Int×Unit=>true) (fun x:Int×Unit=>Xl x.1):=dq e6s Zg Tryz.func131
theorem a4t:Ya Tryz.prog 130 (fun x:Str×Unit=>decide (x.1.s.length<=1000000)) (fun x:Str×Unit=>nameB x.1):=dq c7e (tq Tryz.func89 UN (tq Tryz.func123 d8h (tq Tryz.func154 a5a Zg))) Tryz.func130
theorem TI:Ya Tryz.prog 130 (fun x:Str×Unit=>decide (x.1.s.length<=281474976710656)) (fun x:Str×Unit=>nameB x.1):=dq b6h (tq Tryz.func89 UN (tq Tryz.func123 Ot (tq Tryz.func154 a5a Zg))) Tryz.func130
theorem JD:Ya Tryz.prog 105 (fun x:Lin×Unit=>Z0 x.1) (fun x:Lin×Unit=>ZA x.1):=dq b5j (tq Tryz.func131 OC (tq Tryz.func130 a4t Zg)) Tryz.func105
theorem Jf:Ya Tryz.prog 105 (fun x:Lin×Unit=>X4 x.1) (fun x:Lin×Unit=>ZA x.1):=dq c7m (tq Tryz.func131 OC (tq Tryz.func130 TI Zg)) Tryz.func105
theorem JS:Ya Tryz.prog 94 (fun _:UInt8×Unit=>true) (fun x:UInt8×Unit=>lowB x.1):=dq b6p Zg Tryz.func94
theorem Bq:Ya Tryz.prog 97 (fun _:UInt8×Unit=>true) (fun x:UInt8×Unit=>digB x.1):=dq b0h Zg Tryz.func97
theorem Cu:Ya Tryz.prog 95 (fun x:Str×Bool×Unit=>decide (x.1.s.length<=1048576)) (fun x:Str×Bool×Unit=>Yj x.1 x.2.1):=dq d0v (tq Tryz.func97 Bq (tq Tryz.func94 JS Zg)) Tryz.func95
theorem JX:Ya Tryz.prog 96 (fun _:Str×Unit=>true) (fun x:Str×Unit=>VC.contains x.1.s):=dq c8k Zg Tryz.func96
theorem UO:Ya Tryz.prog 72 (fun x:Str×Unit=>decide (x.1.s.length<=1048576)) (fun x:Str×Unit=>nameI x.1.s):=dq c4z (tq Tryz.func94 JS (tq Tryz.func95 Cu (tq Tryz.func96 JX Zg))) Tryz.func72
theorem Ko:Ya Tryz.prog 109 (fun x:Str×Unit=>decide (x.1.s.length<=1048576)) (fun x:Str×Unit=>fullI x.1.s):=dq c6h (tq Tryz.func136 d5n (tq Tryz.func72 UO Zg)) Tryz.func109
theorem JY:Ya Tryz.prog 77 (fun x:Str×Unit=>decide (x.1.s.length<=1048576)) (fun x:Str×Unit=>fnI x.1.s):=dq d2b (tq Tryz.func72 UO (tq Tryz.func109 Ko Zg)) Tryz.func77
theorem R7:Ya Tryz.prog 74 (fun x:Tm×Unit=>nW x.1) (fun x:Tm×Unit=>Ai x.1.nd):=dq d7o Zg Tryz.func74
theorem Lh:Ya Tryz.prog 104 (fun x:Lin×Unit=>X4 x.1) (fun x:Lin×Unit=> !(ZA x.1)):=dq e0i (tq Tryz.func105 Jf Zg) Tryz.func104
theorem e2z:Ya Tryz.prog 129 (fun x:List Lin×FnV 104×Unit=>decide (x.1.length<=1048576)&&x.1.all X4) (fun x:List Lin×FnV 104×Unit=>XT (fun l:Lin=> !(ZA l)) x.1):=dq e9m (tq Tryz.func104 Lh Zg) Tryz.func129
theorem e4v:Ya Tryz.prog 103 (fun x:List Lin×FnV 104×Unit=>decide (x.1.length<=1048576)&&x.1.all X4) (fun x:List Lin×FnV 104×Unit=>x.1.any fun l:Lin=> !(ZA l)):=dq e7q (tq Tryz.func129 e2z Zg) Tryz.func103
theorem BD:Ya Tryz.prog 73 (fun x:Tm×Int×Int×Unit=>nW x.1) (fun x:Tm×Int×Int×Unit=>Xw x.1.nd x.2.1 x.2.2.1):=dq b2e (tq Tryz.func103 e4v Zg) Tryz.func73
theorem a4l:Ya Tryz.prog 108 (fun _:Int×Unit=>true) (fun x:Int×Unit=>YB x.1):=dq d6z Zg Tryz.func108
theorem e3z:Ya Tryz.prog 135 (fun x:List Int×FnV 108×Unit=>decide (x.1.length<=1048576)) (fun x:List Int×FnV 108×Unit=>XT YB x.1):=dq e4x (tq Tryz.func108 a4l Zg) Tryz.func135
theorem e3r:Ya Tryz.prog 107 (fun x:List Int×FnV 108×Unit=>decide (x.1.length<=1048576)) (fun x:List Int×FnV 108×Unit=>x.1.any YB):=dq e8i (tq Tryz.func135 e3z Zg) Tryz.func107
theorem a9w:Ya Tryz.prog 76 (fun x:Tm×Unit=>nW x.1) (fun x:Tm×Unit=>callB x.1.nd x.1.ks.length):=dq c3v (tq Tryz.func77 JY (tq Tryz.func73 BD (tq Tryz.func107 e3r Zg))) Tryz.func76
theorem d7v:WG Tryz.prog 175 YA Da:=GM (T:=Qw) (ic:=Uh) (rs:=V6) Zg Kl Tryz.func175 (by kernel_rfl) (by kernel_rfl) (by kernel_rfl) c5d
theorem a4r:WG Tryz.prog 155 YA Qx:=GM (T:=CF) (ic:=Gc) (rs:=He) (tq Tryz.func175 d7v Zg) Kl Tryz.func155 (by kernel_rfl) (by kernel_rfl) (by kernel_rfl) Ey
theorem e8l:WG Tryz.prog 132 PX UX:=GM (T:=WJ) (ic:=XD) (rs:=XC) (tq Tryz.func155 a4r Zg) Kl Tryz.func132 (by kernel_rfl) (by kernel_rfl) (by kernel_rfl) d7h
theorem d2a:Ya Tryz.prog 132 (fun _:List Int×Unit=>true) (fun x:List Int×Unit=>Qg x.1):=Ya.ofPure e8l fun⟨l,_⟩ h=>⟨by show(ZQ l).all PV.isNum=true;simp,by show Ze _ (.tup [.int .i64 (Qg ((ZQ l).map PV.asInt)).1,.int .i64 (Qg ((ZQ l).map PV.asInt)).2]);rw[UI];exact Zt (x:=Qg l) rfl⟩
theorem c5h:Ya Tryz.prog 134 (fun x:List Int×Unit=>decide (x.1.length<=2000000)) (fun x:List Int×Unit=>x.1):=b2c (α:=Int) (by decide) (c6f f7r (by decide))
theorem ES:Ya Tryz.prog 157 (fun _:Str×Int×Unit=>true) (fun x:Str×Int×Unit=>Ut x.1 x.2.1):=dq f0w Zg Tryz.func157
theorem f8p:Xj Tryz.prog 156 RD EE:=FT (T:=d0d) (ic:=b1y) (rs:=b4w) (tq Tryz.func157 ES Zg) Kl Tryz.func156 (by kernel_rfl) (by kernel_rfl) (by kernel_rfl) f0e
theorem f5p:Xj Tryz.prog 135 Uo Re:=FT (T:=Nz) (ic:=Ci) (rs:=Dz) (tq Tryz.func156 f8p Zg) Kl Tryz.func135 (by kernel_rfl) (by kernel_rfl) (by kernel_rfl) e7w
theorem f5j:Xj Tryz.prog 107 Uo EK:=FT (T:=e1g) (ic:=b5b) (rs:=b7i) (tq Tryz.func135 f5p Zg) Kl Tryz.func107 (by kernel_rfl) (by kernel_rfl) (by kernel_rfl) e5k
theorem a7w:Ya Tryz.prog 133 (fun x:Str×List Int×Unit=>decide (x.2.1.length<=2000000)) (fun x:Str×List Int×Unit=>x.2.1.all (Ut x.1)):=dq a0x (tq Tryz.func107 f5j Zg) Tryz.func133
theorem c5l:Ya Tryz.prog 106 (fun x:Str×List Int×List Int×Unit=>decide (x.2.1.length<=2000000)&&decide (x.2.2.1.length<=2000000)) (fun x:Str×List Int×List Int×Unit=>c3p x.1 x.2.1 x.2.2.1):=dq d7b (tq Tryz.func132 d2a (tq Tryz.func133 a7w (tq Tryz.func134 c5h Zg))) Tryz.func106
theorem a3f:Ya Tryz.prog 75 (fun x:Arr×Unit=>c5w x.1) (fun x:Arr×Unit=>d9t x.1):=dq e7p (tq Tryz.func106 c5l Zg) Tryz.func75
theorem a6t:Ya Tryz.prog 52 (fun x:Tm×Unit=>nW x.1) (fun x:Tm×Unit=>a1k x.1):=dq c4b (tq Tryz.func72 UO (tq Tryz.func73 BD (tq Tryz.func74 R7 (tq Tryz.func75 a3f (tq Tryz.func76 a9w (tq Tryz.func77 JY Zg)))))) Tryz.func52
theorem f7a:Xj Tryz.prog 51 Ba (a4b 70):=FT (T:=b4z) (ic:=Ed) (rs:=Eh) Zg Kl Tryz.func51 (by kernel_rfl) (by kernel_rfl) (by kernel_rfl) d8p
theorem c3h{cd:Code}(h:Dq Tryz.prog e2c Tryz.f28 0=some cd):CW Tryz.prog cd=some (.t 7,[8,9],MO,NM):=by
 have:(Dq Tryz.prog e2c Tryz.f28 0).bind (CW Tryz.prog)=some (.t 7,[8,9],MO,NM):=by kernel_rfl
 rw[h]at this
 exact this
theorem e6n(g:Yk Tryz.prog Dw): ∀ (B:Nat) (c:Ctx),c.w0.heap.size=B->(∀ i m,0<=i->c.μ0 i m=none)->c9d (NW B 4 g Kl) (fun n cd=>Dq Tryz.prog e2c Tryz.f28 n=some cd) tvE c:=by
 rintro B c j k n cd e st a w q hr ⟨rfl,h⟩
 exact c5j g Kl c8o (fun x=>by obtain⟨t,l⟩:=x;rfl) (c3h e) j k hr h
theorem c1y:Yk Tryz.prog Dw:=(tq Tryz.func51 f7a (tq Tryz.func52 a6t Zg))
theorem Dx:Ya Tryz.prog 28 (fun x:Tm×Unit=>gW x.1) (fun x:Tm×Unit=>Xh x.1):=Ya.ofM (T:=Dw) (ic:=AX) (rs:=Cz) (E:=tvE) (sel:=e2c) c1y Kl Tryz.func28 (by kernel_rfl) (by kernel_rfl) (by kernel_rfl) (e6n c1y) f0x
theorem Ns:Yk Tryz.prog X6:=(tq Tryz.func176 c9u (tq Tryz.func105 JD Zg))
theorem c7k{cd:Code}(h:Dq Tryz.prog d1s Tryz.f160 0=some cd):Aa Tryz.prog cd=some c9j:=by
 have:(Dq Tryz.prog d1s Tryz.f160 0).bind (Aa Tryz.prog)=some c9j:=by kernel_rfl
 rw[h]at this
 exact this
theorem e3i(args:List AV)(os:List AObj)(h:WO args os=true)(c:Ctx)(g : ∀ i m,os.length<=i->c.μ0 i m=none):c9d (RG Ns Kl) (fun n cd=>Dq Tryz.prog d1s Tryz.f160 n=some cd) a2s c:=by
 rintro n cd e st a w q hr ⟨rfl,j⟩
 have h2:os.length=2:=by
  unfold WO at h
  split at h
  ·rfl
  ·cases h
 rw[h2]at g
 exact e8u Ns Kl (c7k e) g hr j
theorem e3d:Xj Tryz.prog 160 WO KQ:=g5p (T:=X6) (ic:=X0) (rs:=X3) (E:=a2s) (sel:=d1s) Ns Kl Tryz.func160 (by kernel_rfl) (by kernel_rfl) (by kernel_rfl) e3i d2p d5g
theorem f6t:Xj Tryz.prog 160 WO Rf:=e3n e3d
theorem f4l:Xj Tryz.prog 159 Q8 Rt:=FT (T:=Gg) (ic:=Q6) (rs:=Q5) Zg Kl Tryz.func159 (by kernel_rfl) (by kernel_rfl) (by kernel_rfl) e3s
theorem Gf:Ya Tryz.prog 139 (fun x:Lin×Lin×Int×Unit=>Z0 x.1&&Z0 x.2.1) (fun x:Lin×Lin×Int×Unit=>ZL x.1 x.2.1 x.2.2.1):=dq a4x (tq Tryz.func105 JD (tq Tryz.func159 f4l (tq Tryz.func160 f6t Zg))) Tryz.func139
theorem Oh:Ya Tryz.prog 113 (fun x:Lin×Lin×Unit=>Z0 x.1&&Z0 x.2.1) (fun x:Lin×Lin×Unit=>ZL x.1 x.2.1 1):=dq c6a (tq Tryz.func139 Gf Zg) Tryz.func113
theorem TF:Ya Tryz.prog 112 (fun x:Lin×Int×Unit=>Z0 x.1) (fun x:Lin×Int×Unit=>UA x.1 x.2.1):=dq b4p (tq Tryz.func139 Gf Zg) Tryz.func112
theorem c7o:Ya Tryz.prog 138 (fun _:Int×Unit=>true) (fun x:Int×Unit=>(⟨x.1,[]⟩:Lin)):=dq f1m Zg Tryz.func138
theorem Ls:Ya Tryz.prog 114 (fun x:Lin×Lin×Unit=>Z0 x.1&&Z0 x.2.1) (fun x:Lin×Lin×Unit=>ZL x.1 x.2.1 (-1)):=dq c3n (tq Tryz.func139 Gf Zg) Tryz.func114
theorem b3e:Ya Tryz.prog 137 (fun _:Str×Unit=>true) (fun x:Str×Unit=>Bd x.1):=dq e8x Zg Tryz.func137
theorem Jl:Ya Tryz.prog 98 (fun x:Str×Unit=>decide (x.1.s.length<=1048576)) (fun x:Str×Unit=>XG x.1):=dq e6l (tq Tryz.func95 Cu (tq Tryz.func123 Ot Zg)) Tryz.func98
theorem f5f:WG Tryz.prog 99 Rq Ef:=GM (T:=d4f) (ic:=b0j) (rs:=b6c) Zg Kl Tryz.func99 (by kernel_rfl) (by kernel_rfl) (by kernel_rfl) fun ps h=>c1r (e4t ps h)
theorem a0f:Ya Tryz.prog 64 (fun x:Str×Unit=>decide (x.1.s.length<=1048576)) (fun x:Str×Unit=>Uu x.1):=dq e8y (tq Tryz.func89 UN (tq Tryz.func90 e9e Zg)) Tryz.func64
theorem a2z:Ya Tryz.prog 66 (fun x:Str×Unit=>decide (x.1.s.length<=1048576)) (fun x:Str×Unit=>Zc x.1):=dq e3e (tq Tryz.func94 JS (tq Tryz.func95 Cu (tq Tryz.func96 JX (tq Tryz.func72 UO (tq Tryz.func97 Bq (tq Tryz.func98 Jl (tq Tryz.func89 UN (tq Tryz.func99 f5f Zg)))))))) Tryz.func66
theorem Nv:Ya Tryz.prog 48 (fun _:Str×Unit=>true) (fun x:Str×Unit=>Yt x.1):=dq e3h (tq Tryz.func64 a0f (tq Tryz.func65 d5d (tq Tryz.func66 a2z Zg))) Tryz.func48
theorem f7u:WG Tryz.prog 124 Em a1j:=GM (T:=b2b) (ic:=EF) (rs:=a2a) Zg Kl Tryz.func124 (by kernel_rfl) (by kernel_rfl) (by kernel_rfl) fun ps h=>c1r (d4z ps h)
theorem a3v:Ya Tryz.prog 101 (fun _:Str×Bool×Unit=>true) (fun x:Str×Bool×Unit=>J7 x.1 x.2.1):=dq d7r (tq Tryz.func124 f7u Zg) Tryz.func101
theorem c5n:Ya Tryz.prog 115 (fun x:Str×Unit=>decide (x.1.s.length<=1048576)) (fun x:Str×Unit=>evB x.1.s):=dq e7z (tq Tryz.func140 c6t Zg) Tryz.func115
theorem c5r:Ya Tryz.prog 141 (fun x:Lin×Unit=>X4 x.1) (fun x:Lin×Unit=> !(ZA x.1)):=dq f1d (tq Tryz.func105 Jf Zg) Tryz.func141
theorem f1n:Ya Tryz.prog 129 (fun x:List Lin×FnV 141×Unit=>decide (x.1.length<=1048576)&&x.1.all X4) (fun x:List Lin×FnV 141×Unit=>XT (fun l:Lin=> !(ZA l)) x.1):=dq e5o (tq Tryz.func141 c5r Zg) Tryz.func129
theorem e9o:Ya Tryz.prog 103 (fun x:List Lin×FnV 141×Unit=>decide (x.1.length<=1048576)&&x.1.all X4) (fun x:List Lin×FnV 141×Unit=>x.1.any fun l:Lin=> !(ZA l)):=dq e6b (tq Tryz.func129 f1n Zg) Tryz.func103
theorem a3z:Ya Tryz.prog 116 (fun x:Sp×Unit=>spW x.1) (fun x:Sp×Unit=>shV x.1.row x.1.dims):=dq b7m (tq Tryz.func130 TI (tq Tryz.func103 e9o Zg)) Tryz.func116
theorem La:Ya Tryz.prog 80 (fun x:TyS×Unit=>Pq x.1) (fun x:TyS×Unit=>tyV x.1):=dq a9i (tq Tryz.func115 c5n (tq Tryz.func116 a3z Zg)) Tryz.func80
theorem Y0: Z9 Tryz.prog 38 ZG Y2 [] [] (fun(s:PS) (a:Int×Unit)=>Zd s&&(decide (0<=a.1)&&decide (a.1<=1000))) NZ:=Bc (e5l) ZT Zg Tryz.func38
theorem Uv: Z9 Tryz.prog 50 ZG Y2 [] [] (fun(s:PS) (_:Unit)=>Zd s) Fh:=Bc (f0n) ZT (tq Tryz.func38 Y0 Zg) Tryz.func50
theorem Wt: Z9 Tryz.prog 37 ZG Y2 [] [] (fun(s:PS) (_:Str×Unit)=>Zd s) DX:=Bc (e9i) ZT (tq Tryz.func38 Y0 Zg) Tryz.func37
theorem YK: Z9 Tryz.prog 35 ZG Y2 [] [] (fun(s:PS) (_:Str×Unit)=>Zd s) FC:=Bc (e7u) ZT (tq Tryz.func37 Wt Zg) Tryz.func35
theorem VO: Z9 Tryz.prog 33 ZG Y2 [] [] (fun(s:PS) (_:Str×Unit)=>Zd s) MZ:=Bc (f1j) ZT (tq Tryz.func35 YK (tq Tryz.func50 Uv Zg)) Tryz.func33
theorem Vh: Z9 Tryz.prog 34 ZG Y2 [] [] (fun(s:PS) (_:Unit)=>Zd s) NA:=Bc (f0m) ZT (tq Tryz.func38 Y0 (tq Tryz.func50 Uv Zg)) Tryz.func34
theorem Vm: Z9 Tryz.prog 100 ZG Y2 [] [] (fun(s:PS) (_:Int×Unit)=>Zd s) b2p:=Bc (e6i) ZT (tq Tryz.func38 Y0 (tq Tryz.func98 Jl (tq Tryz.func50 Uv Zg))) Tryz.func100
theorem Mo: Z9 Tryz.prog 111 ZG Y2 [] [] (fun(s:PS) (_:Lin×Int×Unit)=>Zd s) FN:=Bc (e8e) ZT Zg Tryz.func111
theorem b6g: Z9 Tryz.prog 110 ZG Y2 [] [] (fun(s:PS) (_:Unit)=>Zd s) L9:=Bc (e7y) ZT (tq Tryz.func38 Y0 (tq Tryz.func34 Vh (tq Tryz.func137 b3e (tq Tryz.func100 Vm (tq Tryz.func111 Mo (tq Tryz.func112 TF (tq Tryz.func138 c7o Zg))))))) Tryz.func110
theorem BL: Z9 Tryz.prog 79 ZG Y2 [] [] (fun(s:PS) (_:Unit)=>Zd s) c7n:=Bc (e8z) ZT (tq Tryz.func35 YK (tq Tryz.func110 b6g (tq Tryz.func111 Mo (tq Tryz.func112 TF (tq Tryz.func113 Oh (tq Tryz.func114 Ls (tq Tryz.func105 JD Zg))))))) Tryz.func79
theorem a7a: Z9 Tryz.prog 36 (Ri 34) CQ [] [] (fun(s:PS) (_:Unit)=>Zd s) (Xm PS.name):=Bc (e8w) (Hw _) (tq Tryz.func34 Vh (tq Tryz.func35 YK Zg)) Tryz.func36
theorem Td: Z9 Tryz.prog 78 (Ri 79) CQ [] [] (fun(s:PS) (_:Unit)=>Zd s) (Xm PS.linear):=Bc (e6t) (Hw _) (tq Tryz.func79 BL (tq Tryz.func35 YK Zg)) Tryz.func78
theorem HV: Z9 Tryz.prog 127 ZG Y2 [] [] (fun(s:PS) (_:Unit)=>Zd s) Og:=Bc (f1e) ZT (tq Tryz.func34 Vh (tq Tryz.func35 YK Zg)) Tryz.func127
theorem P8: Z9 Tryz.prog 69 ZG Y2 [] [] (fun(s:PS) (_:Unit)=>Zd s) R5:=Bc (f0g) ZT (tq Tryz.func38 Y0 (tq Tryz.func101 a3v Zg)) Tryz.func69
theorem F9: Z9 Tryz.prog 57 ZG Y2 [] [] (fun(s:PS) (_:Unit)=>Zd s) c6v:=Bc (e4f) ZT (tq Tryz.func35 YK (tq Tryz.func38 Y0 (tq Tryz.func34 Vh (tq Tryz.func37 Wt (tq Tryz.func33 VO (tq Tryz.func78 Td (tq Tryz.func80 La (tq Tryz.func50 Uv Zg)))))))) Tryz.func57
theorem ED: Z9 Tryz.prog 153 c6r CQ [.box [.ptr 1 0]] [] (fun(s:PS) (_:Unit)=>Zd s) F4:=Bc (e7i) c1e (tq Tryz.func100 Vm Zg) Tryz.func153
theorem a6j: Z9 Tryz.prog 152 (c6n 153) CQ [] [.box [.ptr 0 0]] (fun(s:PS) (_:Unit)=>Zd s) (Xm PS.numM):=Bc (e5y) (c2o _) (tq Tryz.func153 ED (tq Tryz.func35 YK Zg)) Tryz.func152
theorem Pb: Z9 Tryz.prog 128 ZG Y2 [] [] (fun(s:PS) (_:Unit)=>Zd s) c5t:=Bc (e9p) ZT (tq Tryz.func38 Y0 (tq Tryz.func33 VO (tq Tryz.func100 Vm (tq Tryz.func37 Wt (tq Tryz.func35 YK Zg))))) Tryz.func128
theorem c7b{N:Nat}(e:Z9 Tryz.prog 26 ZG Y2 [] [] (fun(s:PS) (_:Unit)=>Zd s&&decide (s.l.length - s.i<N)) (JV N)):Z9 Tryz.prog 126 (Ri 26) CQ [] [] (fun(s:PS) (_:Unit)=>Zd s&&decide (s.l.length - s.i<N)) (Xm (Z4 N)):=Bc (e7l N) (Hw _) (tq Tryz.func26 e (tq Tryz.func35 YK Zg)) Tryz.func126
theorem c3a{N:Nat}(e:Z9 Tryz.prog 126 (Ri 26) CQ [] [] (fun(s:PS) (_:Unit)=>Zd s&&decide (s.l.length - s.i<N)) (Xm (Z4 N))):Z9 Tryz.prog 125 ZG Y2 [] [] (fun(s:PS) (_:Unit)=>Zd s&&decide (s.l.length - s.i<N+1)) (QQ N):=Bc ((e0n N)) ZT (tq Tryz.func38 Y0 (tq Tryz.func127 HV (tq Tryz.func109 Ko (tq Tryz.func37 Wt (tq Tryz.func35 YK (tq Tryz.func78 Td (tq Tryz.func33 VO (tq Tryz.func100 Vm (tq Tryz.func152 a6j (tq Tryz.func126 e Zg)))))))))) Tryz.func125
theorem c5p{N:Nat}(e:Z9 Tryz.prog 26 ZG Y2 [] [] (fun(s:PS) (_:Unit)=>Zd s&&decide (s.l.length - s.i<N)) (JV N))(g:Z9 Tryz.prog 126 (Ri 26) CQ [] [] (fun(s:PS) (_:Unit)=>Zd s&&decide (s.l.length - s.i<N)) (Xm (Z4 N)))(hn:Z9 Tryz.prog 125 ZG Y2 [] [] (fun(s:PS) (_:Unit)=>Zd s&&decide (s.l.length - s.i<N+1)) (QQ N)):Z9 Tryz.prog 102 ZG Y2 [] [] (fun(s:PS) (_:Unit)=>Zd s&&decide (s.l.length - s.i<N+1)) (Ph N):=Bc ((e4m N)) ZT (tq Tryz.func38 Y0 (tq Tryz.func100 Vm (tq Tryz.func125 hn (tq Tryz.func37 Wt (tq Tryz.func35 YK (tq Tryz.func26 e (tq Tryz.func33 VO (tq Tryz.func126 g (tq Tryz.func127 HV (tq Tryz.func79 BL (tq Tryz.func128 Pb (tq Tryz.func50 Uv Zg)))))))))))) Tryz.func102
theorem c4j{N:Nat}(hu:Z9 Tryz.prog 68 ZG Y2 [] [] (fun(s:PS) (_:Unit)=>Zd s&&decide (s.l.length - s.i<N)) (unF N))(e:Z9 Tryz.prog 102 ZG Y2 [] [] (fun(s:PS) (_:Unit)=>Zd s&&decide (s.l.length - s.i<N+1)) (Ph N)):Z9 Tryz.prog 68 ZG Y2 [] [] (fun(s:PS) (_:Unit)=>Zd s&&decide (s.l.length - s.i<N+1)) (unF (N+1)):=Bc ((e8s N)) ZT (tq Tryz.func38 Y0 (tq Tryz.func37 Wt (tq Tryz.func100 Vm (tq Tryz.func101 a3v (tq Tryz.func68 hu (tq Tryz.func102 e Zg)))))) Tryz.func68
theorem PT{N:Nat}(e:Z9 Tryz.prog 68 ZG Y2 [] [] (fun(s:PS) (_:Unit)=>Zd s&&decide (s.l.length - s.i<N+1)) (unF (N+1))): ∀ m:Nat,Z9 Tryz.prog 67 mkB unI [.box [.ptr 2 0],.box [.fn 67 [] [.ptr 0 0,.ptr 1 0]]] [] (fun(s:PS) (a:Int×Unit)=>(Zd s&&decide (s.l.length - s.i<N+1))&&(decide (1<=a.1)&&(decide ((6 - (m:Int))<a.1)&&decide (a.1<=6)))) (Ua (N+1))
 | 0=>Z9.none (fun s a=>by
   rw[Bool.eq_false_iff]
   intro h
   simp only[Bool.and_eq_true,decide_eq_true_eq]at h
   omega)
 | m+1=>by
  have g:=PT e m
  rw[show(6 - ((m+1:Nat):Int))=6 - (m:Int) - 1 by omega]
  exact Bc (f0v N (6 - (m:Int))) Eg (tq Tryz.func68 e (tq Tryz.func67 g (tq Tryz.func69 P8 Zg))) Tryz.func67
theorem c3q{N:Nat}(e:Z9 Tryz.prog 68 ZG Y2 [] [] (fun(s:PS) (_:Unit)=>Zd s&&decide (s.l.length - s.i<N+1)) (unF (N+1))):Z9 Tryz.prog 67 mkB unI [.box [.ptr 2 0],.box [.fn 67 [] [.ptr 0 0,.ptr 1 0]]] [] (fun(s:PS) (a:Int×Unit)=>(Zd s&&decide (s.l.length - s.i<N+1))&&(decide (1<=a.1)&&decide (a.1<=6))) (Ua (N+1)):=Z9.weaken Eg (PT e 6) (fun s a h=>by
  simp only[Bool.and_eq_true,decide_eq_true_eq]at h ⊢
  exact⟨h.1,h.2.1,by have:=h.2.1;show(6:Int) - 6<_;omega,h.2.2⟩) (fun _ _ _=>rfl)
theorem c7i{N:Nat}(hb:Z9 Tryz.prog 67 mkB unI [.box [.ptr 2 0],.box [.fn 67 [] [.ptr 0 0,.ptr 1 0]]] [] (fun(s:PS) (a:Int×Unit)=>(Zd s&&decide (s.l.length - s.i<N+1))&&(decide (1<=a.1)&&decide (a.1<=6))) (Ua (N+1))):Z9 Tryz.prog 49 ZG Y2 [] [] (fun(s:PS) (_:Unit)=>Zd s&&decide (s.l.length - s.i<N+1)) (b4f (N+1)):=Bc ((e7r N)) ZT (tq Tryz.func67 hb Zg) Tryz.func49
theorem c5m{N:Nat}(e:Z9 Tryz.prog 26 ZG Y2 [] [] (fun(s:PS) (_:Unit)=>Zd s&&decide (s.l.length - s.i<N)) (JV N))(hb:Z9 Tryz.prog 49 ZG Y2 [] [] (fun(s:PS) (_:Unit)=>Zd s&&decide (s.l.length - s.i<N+1)) (b4f (N+1))):Z9 Tryz.prog 26 ZG Y2 [] [] (fun(s:PS) (_:Unit)=>Zd s&&decide (s.l.length - s.i<N+1)) (JV (N+1)):=Bc (e7g N) ZT (tq Tryz.func37 Wt (tq Tryz.func49 hb (tq Tryz.func38 Y0 (tq Tryz.func34 Vh (tq Tryz.func33 VO (tq Tryz.func26 e Zg)))))) Tryz.func26
theorem b8m: ∀ N:Nat,Z9 Tryz.prog 26 ZG Y2 [] [] (fun(s:PS) (_:Unit)=>Zd s&&decide (s.l.length - s.i<N)) (JV N)∧Z9 Tryz.prog 68 ZG Y2 [] [] (fun(s:PS) (_:Unit)=>Zd s&&decide (s.l.length - s.i<N)) (unF N)
 | 0=>⟨Z9.none (fun s a=>by simp),Z9.none (fun s a=>by simp)⟩
 | N+1=>by
  obtain⟨g,hu⟩:=b8m N
  have h:=c7b g
  have e:=c4j hu (c5p g h (c3a h))
  exact⟨c5m g (c7i (c3q e)),e⟩
theorem b4b:Z9 Tryz.prog 26 ZG Y2 [] [] (fun(s:PS) (_:Unit)=>Zd s) a2j:=Z9.weaken ZT (b8m 4001).1 (fun s a h=>by
  have h0:=(Zu h).1
  rw[h]
  exact decide_eq_true (by omega)) (fun _ _ _=>rfl)
theorem a8h: Z9 Tryz.prog 56 ZG Y2 [] [] (fun(s:PS) (_:Unit)=>Zd s) Sl:=Bc (e8f) ZT (tq Tryz.func34 Vh (tq Tryz.func35 YK (tq Tryz.func57 F9 Zg))) Tryz.func56
theorem a5i: Z9 Tryz.prog 55 (Ri 56) CQ [] [] (fun(s:PS) (_:Unit)=>Zd s) (Xm PS.param):=Bc (e5j) (Hw _) (tq Tryz.func56 a8h (tq Tryz.func35 YK Zg)) Tryz.func55
theorem c6p: Z9 Tryz.prog 27 ZG Y2 [] [] (fun(s:PS) (_:Unit)=>Zd s) LQ:=Bc (e4e) ZT (tq Tryz.func50 Uv Zg) Tryz.func27
theorem g2u:Xj Tryz.prog 25 SC a3o:=FT (T:=b8v) (ic:=Es) (rs:=a2w) (tq Tryz.func48 Nv Zg) Kl Tryz.func25 (by kernel_rfl) (by kernel_rfl) (by kernel_rfl) e6z
theorem c5z: Z9 Tryz.prog 39 ZG Y2 [] [] (fun(s:PS) (_:Unit)=>Zd s&&ZX s.l) c3y:=Bc (f0c) ZT (tq Tryz.func38 Y0 (tq Tryz.func33 VO (tq Tryz.func34 Vh (tq Tryz.func37 Wt (tq Tryz.func55 a5i (tq Tryz.func35 YK (tq Tryz.func57 F9 (tq Tryz.func26 b4b (tq Tryz.func28 Dx Zg))))))))) Tryz.func39
theorem a6s:Ya Tryz.prog 18 (fun _:Str×Unit=>true) (fun x:Str×Unit=>U1 x.1):=dq f0p (tq Tryz.func25 g2u (tq Tryz.func33 VO (tq Tryz.func34 Vh (tq Tryz.func35 YK (tq Tryz.func36 a7a (tq Tryz.func37 Wt (tq Tryz.func38 Y0 (tq Tryz.func39 c5z (tq Tryz.func27 c6p Zg))))))))) Tryz.func18
theorem BC:Ya Tryz.prog 42 (fun _:UInt8×Unit=>true) (fun x:UInt8×Unit=>lowB x.1):=dq b7n Zg Tryz.func42
theorem JL:Ya Tryz.prog 43 (fun _:UInt8×Unit=>true) (fun x:UInt8×Unit=>digB x.1):=dq b2u Zg Tryz.func43
theorem JZ:Ya Tryz.prog 44 (fun _:Str×Unit=>true) (fun x:Str×Unit=>VC.contains x.1.s):=dq d1z Zg Tryz.func44
theorem M9:Ya Tryz.prog 20 (fun x:Str×Unit=>decide (x.1.s.length<=1048576)) (fun x:Str×Unit=>nameI x.1.s):=dq c3o (tq Tryz.func42 BC (tq Tryz.func43 JL (tq Tryz.func44 JZ Zg))) Tryz.func20
theorem M7:Ya Tryz.prog 53 (fun x:Str×Unit=>decide (x.1.s.length<=1048576)) (fun x:Str×Unit=>XG x.1):=dq e6m (tq Tryz.func43 JL Zg) Tryz.func53
theorem PD:Ya Tryz.prog 54 (fun x:Str×Unit=>decide (x.1.s.length<=1048576)) (fun x:Str×Unit=>(Zk Zo x.1.s).2):=dq e6g Zg Tryz.func54
theorem EL:Ya Tryz.prog 32 (fun x:Str×Unit=>decide (x.1.s.length<=1048576)&& !x.1.s.isEmpty) (fun x:Str×Unit=>(⟨(Zc x.1).1,(Zc x.1).2,0,0⟩:Tok)):=dq f1c (tq Tryz.func42 BC (tq Tryz.func43 JL (tq Tryz.func44 JZ (tq Tryz.func20 M9 (tq Tryz.func53 M7 (tq Tryz.func54 PD Zg)))))) Tryz.func32
theorem EG:Ya Tryz.prog 31 (fun x:Str×Int×Unit=>decide (x.1.s.length<=1048576)&&(decide (0<=x.2.1)&&decide (x.2.1<=x.1.s.length))) (fun x:Str×Int×Unit=>((ZR (x.1.s.length+1) x.1.s x.2.1.toNat:Nat):Int)):=dq e8o Zg Tryz.func31
theorem a9c:Ya Tryz.prog 16 (fun x:Str×Unit=>decide (x.1.s.length<=1048576)) (fun x:Str×Unit=>Yt x.1):=dq e3f (tq Tryz.func31 EG (tq Tryz.func32 EL Zg)) Tryz.func16
noncomputable def ivC(f:Nat):Option (IC×Nat×List IRes):=c3s Tryz.prog f
theorem a4f:Ya Tryz.prog 9 (fun _:Unit=>true) (fun _:Unit=>true):=Ya.iv (C:=ivC) (fun _ _ h=>h) (Tf Nv Tryz.func48 (by kernel_rfl) (Tf Jl Tryz.func98 (by kernel_rfl) (Tf Ko Tryz.func109 (by kernel_rfl) (Tf a3v Tryz.func101 (by kernel_rfl) (Tf Oh Tryz.func113 (by kernel_rfl) (Tf Ls Tryz.func114 (by kernel_rfl) (Tf Jf Tryz.func105 (by kernel_rfl) (Tf Dx Tryz.func28 (by kernel_rfl) Zg)))))))) Kl 50 60 (fun _ _=>⟨.bool true,by kernel_rfl,rfl,rfl⟩)
theorem Dj:Ya Tryz.prog 7 (fun _:Str×Str×Unit=>true) (fun _:Str×Str×Unit=>true):=Ya.of (T:=Ce) (ic:=Jt) (rs:=JQ) (Gh (ent Tryz.func9 (by kernel_rfl) a4f) (Gh (ent Tryz.func18 (by kernel_rfl) a6s) (Gh (ent Tryz.func16 (by kernel_rfl) a9c) Zg))) Kl Tryz.func7 (by kernel_rfl) (by kernel_rfl) (by kernel_rfl) c9v
end Go.Proofs.YtgclceacfcdigaaGreatDoor
