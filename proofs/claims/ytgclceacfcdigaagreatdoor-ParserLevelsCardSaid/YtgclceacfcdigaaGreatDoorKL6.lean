/-
  Texts of mine that belong together (packed by pack.py), for every input: Post, LaidZ, PlGb, OpYa, OpJx, ShV, Sh, ShB, ShN, ShW, Cl, OkYa, OkJx.
-/
import Derived.Test.YtgclceacfcdigaaGreatDoorChecked
import Derived.Test.YtgclceacfcdigaaGreatDoorRows
import Derived.Test.YtgclceacfcdigaaGreatDoorKL2
import Derived.Test.YtgclceacfcdigaaGreatDoorKL3
import Derived.Test.YtgclceacfcdigaaGreatDoorKL4
import Derived.Test.YtgclceacfcdigaaGreatDoorKL5
import Derived.Below
import Derived.ChangeSame
import Derived.Stop.LaidErr
import Derived.Lib.LaidTab
import Derived.Shelf.Vars
import Derived.KernelRfl
import Derived.Shelf.Strings.Cut
import Derived.Shelf.Strings.Count
import Derived.Shelf.Small.Strs
import Derived.Shelf.Strconv.AtoiAll
import Derived.Shelf.Strconv.Itoa3
import Derived.Shelf.Strings.Prefix
import Derived.Shelf.Sort.Plain
import Derived.Shelf.Slices.In.SortNone
import Derived.Shelf.Strings.SlTrimAscii
import Derived.WalkKit
import Derived.Deep.LoopGhost
import Derived.Lib.Walk
import Derived.Lib.SliceRun
set_option linter.unusedVariables false
set_option linter.unusedSimpArgs false
namespace Go.Proofs.YtgclceacfcdigaaGreatDoor
open Go.RowKit Go.WideShapes Go.ChangeShapes
section
section
variable {H:Type} {enc:TypeId×Value->H} {P:Program}
theorem Ab{f:Func}{s:ChangeSpec}{apart fresh h u:Bool}{W W':World}{args:Array Value}{v:Value}{ds z:List (DataW H)}{a pa pv:List MemPlace}
  (D:DataW.Whole enc P f.params.toList s.vars apart W args.toList ds z a)
  (l : ∀ (b:Nat) (y:Nat->Bool) (hd:Bool),DataW.TrodAll enc P W' b y hd f.resultTypes.toList (v.resultList f.resultTypes.size) (s.fn H (ds++z)).results [])
  (k : ∀ y:Nat->Bool,(∀ p∈a,y p.block=true)->DataW.TrodAll enc P W' 0 y true f.params.toList args.toList (s.fn H (ds++z)).args pa)
  (e : ∀ y:Nat->Bool,(∀ p∈a,y p.block=true)->DataW.TrodVars enc P W' y s.vars (s.fn H (ds++z)).vars pv)
  (hps:a=pa++pv) (hb:Below W.heap.size W W')
  (C : ∀ (j:Nat) (t:TypeId) (r:Value),f.resultTypes[j]? = some t->(v.resultList f.resultTypes.size)[j]? = some r->Value.okWide P W' .any 0 t r) :
  s.post enc P f apart fresh h u W args v W':=by
 have A : ∀ p∈a,p.block<W.heap.size:=fun p g=>D.lt p g
 have q : ∀ p∈a,(fun b=>decide (b<W.heap.size)) p.block=true:=fun p g=>by simpa using A p g
 refine⟨ds,z,a,[],pa,pv,D,l _ _ _,k _ q,e _ q,World.keptBut_mono (fun p g=>⟨g,?_⟩) (hb.frame (· ∈ a)),fun _=> ?_⟩
 ·rw[hps,List.mem_append]at g
  exact Or.inr g
 ·obtain⟨_,_,_,_,_,E,hn⟩:=D
  refine⟨C,_,_,([]++pa)++pv,⟨[]++pa,pv,trodAll_append (k _ (fun _ _=>rfl)) (l _ _ _),e _ (fun _ _=>rfl),rfl,?_,?_⟩,?_⟩
  ·intro b off g
   have B:MemPlace.cell b off∈a:=by rw[hps];simpa using g
   rw[hb.frozen (A _ B)]
   exact E b off B
  ·intro ha
   have:=hn ha
   rw[hps]at this
   simpa using this
  ·intro p g _
   rw[hps]
   simpa using g
end
end
end Go.Proofs.YtgclceacfcdigaaGreatDoor
namespace Go.Proofs.YtgclceacfcdigaaGreatDoor
open Go.Pl Go.RowKit Go.ChangeShapes
set_option maxRecDepth 100000
theorem a1g{P:Program}{W:World}{n:String}{g:Nat}{cs:Array Value}(a:P.globalNamed n=some g)(h:W.var? P n=some cs):DL W g=some cs:=by
 unfold World.var? at h
 rw[a]at h
 simp only[Option.bind_some]at h
 unfold DL
 exact h
theorem c6s:Tryz.prog.globalNamed "internal/strconv.uint64pow10" = some 5:=by kernel_rfl
theorem d4o:Tryz.prog.globalNamed "strconv.ErrRange" = some 2:=by kernel_rfl
theorem d4c:Tryz.prog.globalNamed "strconv.ErrSyntax" = some 1:=by kernel_rfl
theorem a2e:Tryz.prog.underlying 141=some (.interface ((match Tryz.prog.underlying 141 with|some (.interface ms)=>ms|_=>#[]))):=by kernel_rfl
theorem d0h{W:World}{r:List (String×DataW Unit)}(h:laidMet Tryz.prog (("internal/strconv.uint64pow10",Rows.laid_internal_strconv_uint64pow10)::r) W):DL W 5=some CO:=by
 have h1:Lib.TabIs Tryz.prog W "internal/strconv.uint64pow10" .u64 ((List.range 20).map fun i=>((10 ^ i:Nat):Int)):=Lib.tabIs_of_head (e:=198) (t:=232) c6s (by kernel_rfl) (n:=20) (by kernel_rfl) (by kernel_rfl) (by kernel_rfl) (by kernel_rfl) h
 exact(a1g c6s h1).trans rfl
theorem a6b{W:World}{n:String}{g:Nat}{text:List UInt8}{r:List (String×DataW Unit)}(hg:Tryz.prog.globalNamed n=some g)(ht:(Tryz.prog.globals[g]?).map (·.type)=some 141)(h:laidMet Tryz.prog ((n,.iface "*errors.errorString" (.ptr (.agg [.lit (.string text)])))::r) W): ∃ cs,DL W g=some cs∧D5 cs:=by
 obtain⟨ps,⟨g0,t0,cs0,f0,p0,q0,hg0,ht0,hv0,hd0,_,e0⟩,_,hrows⟩:=h
 obtain rfl:=Option.some.inj (hg.symm.trans hg0)
 obtain rfl:=Option.some.inj (ht.symm.trans ht0)
 subst e0
 refine⟨cs0,a1g hg hv0,?_⟩
 obtain⟨f1,u,v,e,_⟩:=iface_of_trod a2e hd0
 obtain⟨l0⟩:=cs0
 have e:l0=[.iface u v]:=e
 subst e
 exact⟨_,rfl,.inr ⟨u,v,rfl⟩⟩
theorem d6m{W:World}(h:W.ShapedOpen Tryz.prog): ∃ cs m,DL W 0=some cs∧cs[0]? = some (Value.int .i64 m):=by
 obtain⟨m,hm⟩:=cell_of_shapedOpen_int (g:=0) (t:=3) (zero:=#[.int .i64 0]) (k:=.i64) h (of_decide_eq_true (by kernel_rfl)) (by kernel_rfl) rfl (by kernel_rfl) (by kernel_rfl) (by kernel_rfl)
 unfold World.cell? at hm
 unfold DL
 split at hm
 ·rename_i cs T fz a
  exact⟨cs,m,by simp only[a],by simpa using hm⟩
 ·cases hm
theorem c4s{W:World}{x y z:String×DataW Unit}{r:List (String×DataW Unit)}(h:laidMet Tryz.prog (x::y::("internal/strconv.uint64pow10",Rows.laid_internal_strconv_uint64pow10)::z::("strconv.ErrRange",Rows.laid_strconv_ErrRange)::("strconv.ErrSyntax",Rows.laid_strconv_ErrSyntax)::r) W)(hs:W.ShapedOpen Tryz.prog):GlobOK (DL W):=
 ⟨a6b d4c (by kernel_rfl) h.tail.tail.tail.tail.tail,a6b d4o (by kernel_rfl) h.tail.tail.tail.tail,d0h h.tail.tail,d6m hs⟩
noncomputable def d4j:DataW Unit->Value
 | .lit (.int k n)=>.int k n
 | _=>.int .i64 0
noncomputable def CW:DataW Unit->Array Value
 | .agg ds=>(ds.flatMap fun | .agg es=>es.map d4j|d=>[d4j d]).toArray
 | _=>#[]
noncomputable def b1l:DataW Unit->ByteArray
 | .iface _ (.ptr (.agg [.lit (.string bs)]))=>⟨bs.toArray⟩
 | _=>⟨#[]⟩
noncomputable def low:Nat:=(World.holding Tryz.prog default ⟨#[],#[],[]⟩).heap.size
noncomputable def LW(cs:Array Value):Obj->Obj
 | .cells _ t frozen=>.cells cs t frozen
 | o=>o
noncomputable def Ho(os:Os):World:=
 let w0:=World.holding Tryz.prog os ⟨#[.cells #[.string (b1l Rows.laid_strconv_ErrRange)] 212,.cells #[.string (b1l Rows.laid_strconv_ErrSyntax)] 212],#[],[]⟩
 {w0 with heap:=((((((w0.heap.modify 2 (LW #[.iface 210 (.pointer (some ⟨low,0,none⟩))])).modify 1 (LW #[.iface 210 (.pointer (some ⟨low+1,0,none⟩))])).modify 5 (LW (CW Rows.laid_internal_strconv_uint64pow10))).modify 6 (LW (CW Rows.laid_math_bits_deBruijn32tab))).modify 7 (LW (CW Rows.laid_math_bits_deBruijn64tab))).modify 4 (LW (CW Rows.laid_unicode_utf8_acceptRanges))).modify 3 (LW (CW Rows.laid_unicode_utf8_first))}
end Go.Proofs.YtgclceacfcdigaaGreatDoor
namespace Go.Pl
open Go.RowKit Go.WideShapes Go.ChangeShapes
section
abbrev uB{H:Type}(d:DataW H):Nat:=Go.Proofs.YtgclceacfcdigaaGreatDoor.Rows.uptoBulk d
abbrev uBs{H:Type}(l:List (DataW H)):Nat:=Go.Proofs.YtgclceacfcdigaaGreatDoor.Rows.uptoBulkAll l
theorem PO{H:Type}(d:DataW H)(l:List (DataW H)):uBs (d::l)=uB d+uBs l:=by unfold uBs uB;rw[Go.Proofs.YtgclceacfcdigaaGreatDoor.Rows.uptoBulkAll]
theorem LA{H:Type}(d:DataW H):1<=uB d:=by
 cases d with
 | lit l=>cases l <;> simp[uB,Go.Proofs.YtgclceacfcdigaaGreatDoor.Rows.uptoBulk]
 | _=>simp[uB,Go.Proofs.YtgclceacfcdigaaGreatDoor.Rows.uptoBulk]
mutual
def pvW:PV->Nat
 | .str s=>s.length+1
 | .sl _ _ xs=>Wt xs+1
 | .agg xs=>Wt xs
 | _=>1
def Wt:List PV->Nat
 | []=>0
 | p::ps=>pvW p+Wt ps
end
theorem a6x(a b:List PV):Wt (a++b)=Wt a+Wt b:=by
 induction a with
 | nil=>simp[Wt]
 | cons x a ih=>rw[List.cons_append,Wt,ih,Wt];omega
theorem d7b{P:Program}{e:TypeId}{q:List PV}(a:Xp P e=true∨P.cellsOf e=1)(b:q.length=P.cellsOf e):pvW (GR P e q)<=Wt q:=by
 cases ha:Xp P e with
 | true=>simp only[GR,ha];rw[pvW];exact Nat.le_refl _
 | false=>
  have h1:P.cellsOf e=1:=by simpa [ha]using a
  rw[h1]at b
  match q,b with
  | [x],_=>simp only[GR,ha,List.headD_cons];rw[Wt,Wt];exact Nat.le_refl _
theorem a1e{H:Type}{f:List PV->PV}: ∀ {qs:List (List PV)} {xs:List (DataW H×List MemPlace)},qs.length=xs.length->(∀ (i:Nat) (q:List PV) (x:DataW H×List MemPlace),qs[i]? = some q->xs[i]? = some x->pvW (f q)<=uB x.1)->Wt (qs.map f)<=uBs (xs.map (·.1))
 | [],[],_,_=>by simp[Wt]
 | q::qs,x::xs,hl,h=>by
  have h0:=h 0 q x rfl rfl
  have h1:=a1e (qs:=qs) (xs:=xs) (by simpa using hl) fun i q x a b=>h (i+1) q x (by simpa using a) (by simpa using b)
  rw[List.map_cons,Wt,List.map_cons,PO]
  omega
 | [],_::_,hl,_=>by cases hl
 | _::_,[],hl,_=>by cases hl
def b4k(P:Program)(S:List TypeId):Bool:=S.all fun t=>match P.underlying t with|some (.array _ _)=>false|_=>true
section
variable {H:Type} {enc:TypeId×Value->H} {P:Program} {w:World} {base:Nat} {sp:Nat->Bool} {held:Bool} {S:List TypeId}
theorem RN{n:Nat}{cs:List Value}(y : ∀ (t:TypeId) (cs:List Value) (x:DataW H×List MemPlace),t∈S->DataW.trod enc P w base sp held n t cs=some x-> ∃ ps,Cl w cs ps∧QI P n t ps∧Wt ps<=uB x.1):
  ∀ (b:List Field) (o N:Nat) (xs:List (DataW H×List MemPlace)),Qg P o b N=true->(∀ f∈b,f.type∈S)->cs.length=N->o<=N ->
   b.mapM (fun f=>DataW.trod enc P w base sp held n f.type ((cs.drop f.offset).take (P.cellsOf f.type)))=some xs ->
   ∃ ps,Cl w (cs.drop o) ps∧Wt ps<=uBs (xs.map (·.1))∧ ∀ qs:List PV,qs.length=o->(∀ f∈b,QI P n f.type (((qs++ps).drop f.offset).take (P.cellsOf f.type))):=by
 intro b
 induction b with
 | nil=>
  intro o N xs hc _ A ho _
  simp[Qg]at hc
  refine⟨[],?_,by simp[Wt],fun qs _ f E=>by simp at E⟩
  rw[List.drop_of_length_le (by omega)]
  exact Cl.nil
 | cons f b ihf=>
  intro o N xs hc hm A ho h
  simp only[Qg,Bool.and_eq_true,beq_iff_eq]at hc
  obtain⟨j,hc⟩:=hc
  simp only[List.mapM_cons,Option.bind_eq_bind,Option.bind_eq_some_iff]at h
  obtain⟨x,D,u,r,e⟩:=h
  cases e
  obtain⟨q,z,J,w1⟩:=y _ _ x (hm f List.mem_cons_self) D
  have s:o+P.cellsOf f.type<=N:=by
   have : ∀ (b:List Field) (a:Nat),Qg P a b N=true->a<=N:=by
    intro b
    induction b with
    | nil=>intro a h;simp[Qg]at h;omega
    | cons g b y=>intro a h;simp only[Qg,Bool.and_eq_true]at h;have:=y _ h.2;omega
   exact this _ _ hc
  obtain⟨C,F,w2,I⟩:=ihf (o+P.cellsOf f.type) N u hc (fun g l=>hm g (List.mem_cons_of_mem _ l)) A s r
  have k:q.length=P.cellsOf f.type:=by
   rw[<- z.1.1,List.length_take,List.length_drop,j]
   omega
  refine⟨q++C,?_,by rw[a6x,List.map_cons,PO];omega,fun qs B g l=> ?_⟩
  ·have:=z.append F
   rw[j]at this
   have e:cs.drop o=(cs.drop o).take (P.cellsOf f.type)++cs.drop (o+P.cellsOf f.type):=by rw[<- List.drop_drop,List.take_append_drop]
   rw[e]
   exact this
  ·rcases List.mem_cons.1 l with rfl|l
   ·rw[j,<- B,List.drop_left,<- k,List.take_left]
    exact J
   ·have:=I (qs++q) (by simp[B,k]) g l
    rwa [List.append_assoc]at this
theorem PH{n:Nat}{e:TypeId}{a:Addr}{len cap:Nat}{xs:List (DataW H×List MemPlace)}(J:0<P.cellsOf e)(E:Xp P e=true∨P.cellsOf e=1)(I:len<=cap)(hmax:cap<=maxLen)
  (ih : ∀ (cs:List Value) (x:DataW H×List MemPlace),DataW.trod enc P w base sp held n e cs=some x-> ∃ ps,Cl w cs ps∧QI P n e ps∧Wt ps<=uB x.1)
  (h:(List.range len).mapM (fun i=>(w.cells? base (a.add (i*P.cellsOf e)) (P.cellsOf e)).bind (DataW.trod enc P w base sp held n e))=some xs) :
  ∃ qs:List (List PV),RP (DL w) (.slice (some a) len cap) (.sl (P.cellsOf e) false (qs.map (GR P e)))∧qs.length<=maxLen∧(∀ q∈qs,q.length=P.cellsOf e∧QI P n e q)∧Wt (qs.map (GR P e))<=uBs (xs.map (·.1)):=by
 obtain⟨T,hg⟩:=PZ h
 rw[List.length_range]at T
 have O : ∀ i,i<len-> ∃ q:List PV,(q.length=P.cellsOf e∧QI P n e q∧ ∃ x,xs[i]? = some x∧Wt q<=uB x.1)∧ ∀ (r:Nat) p,q[r]? = some p-> ∃ v,w.cell? (a.add (i*P.cellsOf e+r))=some v∧v.oneCell'=true∧RP (DL w) v p:=by
  intro i hi
  have B:=List.getElem?_eq_getElem (show i<xs.length by omega)
  have:=hg i i _ (by simp[hi]) B
  rw[Option.bind_eq_some_iff]at this
  obtain⟨cs,h1,h2⟩:=this
  obtain⟨q,L,k2,Z⟩:=ih cs _ h2
  obtain⟨X,c2⟩:=a4a h1
  refine⟨q,⟨by rw[<- L.1.1,X],k2,_,B,Z⟩,fun r p l=> ?_⟩
  have hr:r<cs.length:=by rw[L.1.1];exact(List.getElem?_eq_some_iff.1 l).1
  have u:=List.getElem?_eq_getElem hr
  refine⟨_,?_,L.2 _ (List.getElem_mem hr),L.1.2 r _ p u l⟩
  rw[<- a2y]
  exact c2 r _ u
 obtain⟨qs,s,k⟩:=Pv len O
 have g : ∀ q∈qs,(GR P e q).cells=q:=by
  intro q A
  obtain⟨i,hi,rfl⟩:=List.getElem_of_mem A
  have:=(k i _ (List.getElem?_eq_getElem hi)).1
  exact a1w E this.1 fun ha=>a9h this.2.1 ha
 refine⟨qs,?_,by omega,fun q A=> ?_,?_⟩
 ·by_cases h0:len=0
  ·subst h0
   have:qs=[]:=List.length_eq_zero_iff.1 s
   subst this
   exact .sl0 _ _ _ _ fun e=>by cases e
  ·-- the first cell tells the block
   obtain⟨b,off,cs,rfl,hb,-⟩ : ∃ b off cs,a=⟨b,off,none⟩∧DL w b=some cs∧True:=by
    have N:=List.getElem?_eq_getElem (show 0<qs.length by omega)
    obtain⟨⟨f1,f2,-⟩,f3⟩:=k 0 _ N
    have l:=List.getElem?_eq_getElem (show 0<(qs[0]'(by omega)).length by omega)
    obtain⟨v,u,_⟩:=f3 0 _ l
    simp[Addr.add]at u
    obtain⟨b,off,cs,Q,K,_⟩:=SE u
    exact⟨b,off,cs,Q,K,trivial⟩
   have hs : ∀ x∈qs.map (GR P e),x.cells.length=P.cellsOf e:=by
    intro x B
    obtain⟨q,A,rfl⟩:=List.mem_map.1 B
    rw[g q A]
    obtain⟨i,hi,rfl⟩:=List.getElem_of_mem A
    exact(k i _ (List.getElem?_eq_getElem hi)).1.1
   have F : ∀ (j:Nat) p,(flat (qs.map (GR P e)))[j]? = some p-> ∃ v,cs[off+j]? = some v∧v.oneCell'=true∧RP (DL w) v p:=by
    intro j p l
    have W:j<len*P.cellsOf e:=by
     have:=(List.getElem?_eq_some_iff.1 l).1
     rw[X8 hs]at this
     simpa [s]using this
    have hi:j / P.cellsOf e<qs.length:=by rw[s];exact(Nat.div_lt_iff_lt_mul J).2 W
    have hr:j % P.cellsOf e<P.cellsOf e:=Nat.mod_lt _ J
    have C:=List.getElem?_eq_getElem hi
    have U:j=j / P.cellsOf e*P.cellsOf e+j % P.cellsOf e:=by rw[Nat.mul_comm];exact(Nat.div_add_mod _ _).symm
    have M:(qs.map (GR P e))[j / P.cellsOf e]? = some (GR P e qs[j / P.cellsOf e]):=by rw[List.getElem?_map,C];rfl
    have D:=Ps hs M hr
    rw[<- U,g _ (List.getElem_mem hi)]at D
    rw[D]at l
    obtain⟨v,u,h1,h2⟩:=(k _ _ C).2 _ p l
    rw[<- U,Y9]at u
    obtain⟨b',off',cs',Q,K,Y⟩:=SE u
    cases Q
    rw[hb]at K
    cases K
    exact⟨v,Y,h1,h2⟩
   have z:len=(qs.map (GR P e)).length:=by simp[s]
   rw[z]
   refine .sl b off cs cap _ false _ (fun j=>(cs[off+j]?).getD default) hb (by rw[<- z];exact I) (fun e=>by cases e) hs (fun j p l=> ?_) (fun j p l=> ?_)
   ·obtain⟨v,h1,h2,h3⟩:=F j p l
    rw[h1]
    exact⟨rfl,h2⟩
   ·obtain⟨v,h1,h2,h3⟩:=F j p l
    rw[h1]
    exact h3
 ·obtain⟨i,hi,rfl⟩:=List.getElem_of_mem A
  have:=(k i _ (List.getElem?_eq_getElem hi)).1
  exact⟨this.1,this.2.1⟩
 ·refine a1e (by rw[s,T]) fun i q x A B=> ?_
  have:=(k i q A).1
  obtain⟨y,V,hw⟩:=this.2.2
  rw[B]at V
  cases V
  have hm:=d7b (P:=P) (e:=e) (q:=q) E this.1
  omega
theorem Lb(y:Tv P S=true)(z:b4k P S=true): ∀ (n:Nat) (t:TypeId) (cs:List Value) (x:DataW H×List MemPlace),t∈S->DataW.trod enc P w base sp held n t cs=some x-> ∃ ps,Cl w cs ps∧QI P n t ps∧Wt ps<=uB x.1:=by
  intro n
  induction n with
  | zero=>intro t cs x _ h;simp[DataW.trod]at h
  | succ n ih=>
    intro t cs x ht h
    have b:=Sl y ht
    have j:=List.all_eq_true.1 z t ht
    unfold DataW.trod at h
    unfold QI
    split at h <;> (try rename_i hu) <;> (try simp only[hu]at b j ⊢) <;> try (cases b;done)
    all_goals first
      | (exact⟨_,Cl.one (.bool _) rfl,⟨_,rfl⟩,LA _⟩)
      | (split at h
         · rename_i hc
           obtain⟨rfl,B⟩:=hc
           exact⟨_,Cl.one (.int _ _) rfl,⟨_,rfl,B⟩,LA _⟩
         · cases h)
      | (split at h
         · rename_i hc
           cases h
           refine⟨_,Cl.one (.str _) rfl,⟨_,rfl,hc⟩,?_⟩
           show Wt [PV.str _]<=Go.Proofs.YtgclceacfcdigaaGreatDoor.Rows.uptoBulk (DataW.lit (.string _))
           rw[Go.Proofs.YtgclceacfcdigaaGreatDoor.Rows.uptoBulk,Wt,Wt,pvW]
           omega
         · cases h)
      | (cases h;done)
      | (cases j;done)
      | skip
    · exact⟨_,Cl.one (.sl0 _ _ _ false (fun e=>by cases e)) rfl,⟨[],rfl,by simp,fun q s=>by simp at s⟩,LA _⟩
    · rename_i e a len cap
      simp only[Bool.and_eq_true,Bool.or_eq_true,beq_iff_eq,decide_eq_true_eq]at b
      simp only at h
      split at h
      · rename_i hc
        obtain⟨xs,h1,h3⟩:=Option.bind_eq_some_iff.1 h
        obtain⟨ys,h4,rfl⟩:=Option.map_eq_some_iff.1 h3
        obtain⟨qs,g,l,r,u⟩:=PH b.1.2 b.2 hc.2.1 hc.2.2 (fun cs x C=>ih e cs x (by simpa using b.1.1.2) C) h1
        refine⟨_,Cl.one g rfl,⟨qs,rfl,l,r⟩,?_⟩
        show Wt [PV.sl _ false (qs.map (GR P e))]<=Go.Proofs.YtgclceacfcdigaaGreatDoor.Rows.uptoBulk (DataW.slice (xs.map (·.1)) (ys.map (·.1)))
        rw[Go.Proofs.YtgclceacfcdigaaGreatDoor.Rows.uptoBulk,Wt,Wt,pvW]
        have:Wt (qs.map (GR P e))<=Go.Proofs.YtgclceacfcdigaaGreatDoor.Rows.uptoBulkAll (xs.map (·.1)):=u
        omega
      · cases h
    · rename_i cs2 A
      simp only[Bool.and_eq_true]at b
      split at h
      · rename_i hc
        rw[Option.map_eq_some_iff]at h
        obtain⟨xs,h1,rfl⟩:=h
        obtain⟨ps,g,r,l⟩:=RN ih A.toList 0 (P.cellsOf t) xs b.1 (fun f k=>by simpa using List.all_eq_true.1 b.2 f k) hc (Nat.zero_le _) h1
        rw[List.drop_zero]at g
        refine⟨ps,g,⟨by rw[<- g.1.1,hc],fun f k=>by simpa using l [] rfl f k⟩,?_⟩
        show Wt ps<=Go.Proofs.YtgclceacfcdigaaGreatDoor.Rows.uptoBulk (DataW.agg (xs.map (·.1)))
        rw[Go.Proofs.YtgclceacfcdigaaGreatDoor.Rows.uptoBulk]
        have:Wt ps<=Go.Proofs.YtgclceacfcdigaaGreatDoor.Rows.uptoBulkAll (xs.map (·.1)):=r
        omega
      · cases h
theorem AO(u:Tv P S=true)(A:b4k P S=true){t:TypeId}(ht:t∈S){r:Reach}{b0:Nat}{v:Value}{d:DataW H}{p:List MemPlace}(e:Value.okWide P w r b0 t v)(h:DataW.Trod enc P w base sp held t v d p):
  ∃ n q,RP (DL w) v (GR P t q)∧QI P n t q∧Wt q<=uB d:=by
 obtain⟨n,h⟩:=h
 obtain⟨q,k,B,E⟩:=Lb u A n t _ _ ht h
 refine⟨n,q,?_,B,E⟩
 have z:=Sl u ht
 have g:v.cells = #[v]->Xp P t=false->RP (DL w) v (GR P t q):=by
  intro hc ha
  rw[hc]at k
  have C:=k.1.1
  match q,C with
  | [x],_=>simp only[GR,ha,List.headD_cons];exact k.1.2 0 v x rfl rfl
 have agg : ∀ cs,v = .agg cs->Xp P t=true->RP (DL w) v (GR P t q):=by
  rintro cs rfl ha
  simp only[GR,ha]
  exact .agg cs q (by have:=k.1.1;simpa [Value.cells]using this) (fun x s=>k.2 x (by simpa [Value.cells]using s)) fun j x y s D=>k.1.2 j x y (by simpa [Value.cells]using s) D
 split at z
 ·rename_i hu
  obtain⟨b,rfl⟩:=okWide_bool hu e
  exact g rfl (by simp[Xp,hu])
 ·rename_i hu
  obtain⟨b,rfl⟩:=okWide_int hu e
  exact g rfl (by simp[Xp,hu])
 ·rename_i hu
  obtain⟨b,rfl⟩:=okWide_string hu e
  exact g rfl (by simp[Xp,hu])
 ·rename_i hu
  obtain⟨a,l,c,rfl⟩:=okWide_slice hu e
  exact g rfl (by simp[Xp,hu])
 ·rename_i hu
  simp only[Value.okWide,hu]at e
  obtain⟨cs,rfl,_⟩:=e
  exact agg cs rfl (by simp[Xp,hu])
 ·rename_i hu
  simp only[Value.okWide,hu]at e
  obtain⟨cs,rfl,_⟩:=e
  exact agg cs rfl (by simp[Xp,hu])
 ·cases z
end
end
end Go.Pl
namespace Go.Proofs.YtgclceacfcdigaaGreatDoor
open Go.Pl
section
set_option maxRecDepth 100000
open Enc (enc dec is)
open EncL (encL decL isL)
end
section
set_option maxRecDepth 100000
open Enc (enc dec is)
open EncL (encL decL isL)
theorem c4n:Tryz.prog.underlying 5=some (.int .u8):=by kernel_rfl
theorem d3x:Xp Tryz.prog 5=false:=by kernel_rfl
theorem b5h{n:Nat}{q:List PV}(h:QI Tryz.prog n 5 q): ∃ c:UInt8,GR Tryz.prog 5 q=enc c:=by
 obtain⟨m,rfl,hm⟩:=b5y c4n h
 have h0:0<=m∧m<=255:=by
  have:=hm
  simp only[Lit.wf,Bool.and_eq_true,decide_eq_true_eq,show IntKind.u8.min=0 by decide,show IntKind.u8.max=255 by decide]at this
  exact this
 refine⟨UInt8.ofNat m.toNat,?_⟩
 rw[GR,d3x]
 show PV.int .u8 m=PV.int .u8 ((UInt8.ofNat m.toNat).toNat:Int)
 rw[UInt8.toNat_ofNat']
 congr 1
 omega
theorem c4u{n0 h:Nat}{g e:List PV}(j:QI Tryz.prog n0 5 g)(h1:QI Tryz.prog h 5 e):
  preT (fun _:UInt8×UInt8×Unit=>true) [GR Tryz.prog 5 g,GR Tryz.prog 5 e]=true:=by
 obtain⟨a,l⟩:=b5h j
 obtain⟨b,k⟩:=b5h h1
 rw[l,k]
 exact Zv (a,b,()) rfl rfl
end
end Go.Proofs.YtgclceacfcdigaaGreatDoor
namespace Go.Proofs.YtgclceacfcdigaaGreatDoor
open Go.Shelf
def Tryz.lays145_ren:Go.Shelf.Ren:=⟨fun|145=>136|220=>158|219=>122|217=>121|225=>147|224=>148|267=>149|266=>146|314=>168|n=>n,fun|9=>9|4=>4|59=>156|3=>3|5=>5|46=>164|146=>184|51=>183|n=>n,fun|1=>0|n=>n⟩
theorem Tryz.lays145:Go.Proofs.Lays.n145 Tryz.prog Tryz.lays145_ren:={
 mixed:=by kernel_rfl
 f145:=Tryz.func136.trans (congrArg some (by kernel_rfl))
 f217:=Tryz.func121.trans (congrArg some (by kernel_rfl))
 f219:=Tryz.func122.trans (congrArg some (by kernel_rfl))
 f220:=Tryz.func158.trans (congrArg some (by kernel_rfl))
 f224:=Tryz.func148.trans (congrArg some (by kernel_rfl))
 f225:=Tryz.func147.trans (congrArg some (by kernel_rfl))
 f266:=Tryz.func146.trans (congrArg some (by kernel_rfl))
 f267:=Tryz.func149.trans (congrArg some (by kernel_rfl))
 f314:=Tryz.func168.trans (congrArg some (by kernel_rfl))
 t3:=Tryz.underlying3
 a3:=Tryz.isAgg3
 z3:=Tryz.sizeOf3
 v3:=Tryz.zeroValue3
 t4:=Tryz.underlying4
 a4:=Tryz.isAgg4
 z4:=Tryz.sizeOf4
 v4:=Tryz.zeroValue4
 t5:=Tryz.underlying5
 a5:=Tryz.isAgg5
 z5:=Tryz.sizeOf5
 v5:=Tryz.zeroValue5
 t9:=Tryz.underlying9
 a9:=Tryz.isAgg9
 z9:=Tryz.sizeOf9
 v9:=Tryz.zeroValue9
 t46:=Tryz.underlying164
 a46:=Tryz.isAgg164
 z46:=Tryz.sizeOf164
 v46:=Tryz.zeroValue164
 t51:=Tryz.underlying183
 a51:=Tryz.isAgg183
 z51:=Tryz.sizeOf183
 v51:=Tryz.zeroValue183
 t59:=Tryz.underlying156
 a59:=Tryz.isAgg156
 z59:=Tryz.sizeOf156
 v59:=Tryz.zeroValue156
 t146:=Tryz.underlying184
 a146:=Tryz.isAgg184
 z146:=Tryz.sizeOf184
 v146:=Tryz.zeroValue184
 g1:=by kernel_rfl}
def Tryz.lays137_ren:Go.Shelf.Ren:=⟨fun|137=>90|217=>121|266=>146|n=>n,fun|9=>9|5=>5|3=>3|n=>n,fun|n=>n⟩
theorem Tryz.lays137:Go.Proofs.Lays.n137 Tryz.prog Tryz.lays137_ren:={
 mixed:=by kernel_rfl
 f137:=Tryz.func90.trans (congrArg some (by kernel_rfl))
 f217:=Tryz.func121.trans (congrArg some (by kernel_rfl))
 f266:=Tryz.func146.trans (congrArg some (by kernel_rfl))
 t3:=Tryz.underlying3
 a3:=Tryz.isAgg3
 z3:=Tryz.sizeOf3
 v3:=Tryz.zeroValue3
 t5:=Tryz.underlying5
 a5:=Tryz.isAgg5
 z5:=Tryz.sizeOf5
 v5:=Tryz.zeroValue5
 t9:=Tryz.underlying9
 a9:=Tryz.isAgg9
 z9:=Tryz.sizeOf9
 v9:=Tryz.zeroValue9}
def Tryz.lays138_ren:Go.Shelf.Ren:=⟨fun|138=>65|195=>91|218=>92|143=>93|219=>122|217=>121|225=>147|224=>148|267=>149|266=>146|314=>168|n=>n,fun|9=>9|3=>3|4=>4|5=>5|0=>0|46=>164|146=>184|51=>183|n=>n,fun|1=>0|n=>n⟩
theorem Tryz.lays138:Go.Proofs.Lays.n138 Tryz.prog Tryz.lays138_ren:={
 mixed:=by kernel_rfl
 f138:=Tryz.func65.trans (congrArg some (by kernel_rfl))
 f143:=Tryz.func93.trans (congrArg some (by kernel_rfl))
 f195:=Tryz.func91.trans (congrArg some (by kernel_rfl))
 f217:=Tryz.func121.trans (congrArg some (by kernel_rfl))
 f218:=Tryz.func92.trans (congrArg some (by kernel_rfl))
 f219:=Tryz.func122.trans (congrArg some (by kernel_rfl))
 f224:=Tryz.func148.trans (congrArg some (by kernel_rfl))
 f225:=Tryz.func147.trans (congrArg some (by kernel_rfl))
 f266:=Tryz.func146.trans (congrArg some (by kernel_rfl))
 f267:=Tryz.func149.trans (congrArg some (by kernel_rfl))
 f314:=Tryz.func168.trans (congrArg some (by kernel_rfl))
 t0:=Tryz.underlying0
 a0:=Tryz.isAgg0
 z0:=Tryz.sizeOf0
 v0:=Tryz.zeroValue0
 t3:=Tryz.underlying3
 a3:=Tryz.isAgg3
 z3:=Tryz.sizeOf3
 v3:=Tryz.zeroValue3
 t4:=Tryz.underlying4
 a4:=Tryz.isAgg4
 z4:=Tryz.sizeOf4
 v4:=Tryz.zeroValue4
 t5:=Tryz.underlying5
 a5:=Tryz.isAgg5
 z5:=Tryz.sizeOf5
 v5:=Tryz.zeroValue5
 t9:=Tryz.underlying9
 a9:=Tryz.isAgg9
 z9:=Tryz.sizeOf9
 v9:=Tryz.zeroValue9
 t46:=Tryz.underlying164
 a46:=Tryz.isAgg164
 z46:=Tryz.sizeOf164
 v46:=Tryz.zeroValue164
 t51:=Tryz.underlying183
 a51:=Tryz.isAgg183
 z51:=Tryz.sizeOf183
 v51:=Tryz.zeroValue183
 t146:=Tryz.underlying184
 a146:=Tryz.isAgg184
 z146:=Tryz.sizeOf184
 v146:=Tryz.zeroValue184
 g1:=by kernel_rfl}
def Tryz.lays172_ren:Go.Shelf.Ren:=⟨fun|172=>123|244=>150|245=>151|247=>169|279=>170|280=>171|281=>172|282=>173|287=>181|316=>182|171=>154|205=>183|321=>190|322=>191|243=>174|246=>184|283=>192|284=>193|285=>194|286=>195|129=>206|317=>208|318=>209|319=>210|320=>211|337=>218|338=>219|n=>n,fun|9=>9|3=>3|75=>141|76=>142|4=>4|5=>5|167=>186|37=>169|0=>0|85=>187|2=>2|168=>189|53=>198|175=>199|46=>164|210=>202|127=>209|145=>212|143=>210|21=>21|171=>213|173=>216|212=>232|51=>183|20=>20|213=>233|232=>243|233=>244|80=>82|n=>n,fun|15=>1|16=>2|17=>5|18=>6|19=>7|n=>n⟩
theorem Tryz.lays172:Go.Proofs.LaysC.n172 Tryz.prog Tryz.lays172_ren:={
 mixed:=by kernel_rfl
 f129:=Tryz.func206.trans (congrArg some (by kernel_rfl))
 f171:=Tryz.func154.trans (congrArg some (by kernel_rfl))
 f172:=Tryz.func123.trans (congrArg some (by kernel_rfl))
 f205:=Tryz.func183.trans (congrArg some (by kernel_rfl))
 f243:=Tryz.func174.trans (congrArg some (by kernel_rfl))
 f244:=Tryz.func150.trans (congrArg some (by kernel_rfl))
 f245:=Tryz.func151.trans (congrArg some (by kernel_rfl))
 f246:=Tryz.func184.trans (congrArg some (by kernel_rfl))
 f247:=Tryz.func169.trans (congrArg some (by kernel_rfl))
 f279:=Tryz.func170.trans (congrArg some (by kernel_rfl))
 f280:=Tryz.func171.trans (congrArg some (by kernel_rfl))
 f281:=Tryz.func172.trans (congrArg some (by kernel_rfl))
 f282:=Tryz.func173.trans (congrArg some (by kernel_rfl))
 f283:=Tryz.func192.trans (congrArg some (by kernel_rfl))
 f284:=Tryz.func193.trans (congrArg some (by kernel_rfl))
 f285:=Tryz.func194.trans (congrArg some (by kernel_rfl))
 f286:=Tryz.func195.trans (congrArg some (by kernel_rfl))
 f287:=Tryz.func181.trans (congrArg some (by kernel_rfl))
 f316:=Tryz.func182.trans (congrArg some (by kernel_rfl))
 f317:=Tryz.func208.trans (congrArg some (by kernel_rfl))
 f318:=Tryz.func209.trans (congrArg some (by kernel_rfl))
 f319:=Tryz.func210.trans (congrArg some (by kernel_rfl))
 f320:=Tryz.func211.trans (congrArg some (by kernel_rfl))
 f321:=Tryz.func190.trans (congrArg some (by kernel_rfl))
 f322:=Tryz.func191.trans (congrArg some (by kernel_rfl))
 f337:=Tryz.func218.trans (congrArg some (by kernel_rfl))
 f338:=Tryz.func219.trans (congrArg some (by kernel_rfl))
 t0:=Tryz.underlying0
 a0:=Tryz.isAgg0
 z0:=Tryz.sizeOf0
 v0:=Tryz.zeroValue0
 t2:=Tryz.underlying2
 a2:=Tryz.isAgg2
 z2:=Tryz.sizeOf2
 v2:=Tryz.zeroValue2
 t3:=Tryz.underlying3
 a3:=Tryz.isAgg3
 z3:=Tryz.sizeOf3
 v3:=Tryz.zeroValue3
 t4:=Tryz.underlying4
 a4:=Tryz.isAgg4
 z4:=Tryz.sizeOf4
 v4:=Tryz.zeroValue4
 t5:=Tryz.underlying5
 a5:=Tryz.isAgg5
 z5:=Tryz.sizeOf5
 v5:=Tryz.zeroValue5
 t9:=Tryz.underlying9
 a9:=Tryz.isAgg9
 z9:=Tryz.sizeOf9
 v9:=Tryz.zeroValue9
 t20:=Tryz.underlying20
 a20:=Tryz.isAgg20
 z20:=Tryz.sizeOf20
 v20:=Tryz.zeroValue20
 t21:=Tryz.underlying21
 a21:=Tryz.isAgg21
 z21:=Tryz.sizeOf21
 v21:=Tryz.zeroValue21
 t37:=Tryz.underlying169
 a37:=Tryz.isAgg169
 z37:=Tryz.sizeOf169
 v37:=Tryz.zeroValue169
 t46:=Tryz.underlying164
 a46:=Tryz.isAgg164
 z46:=Tryz.sizeOf164
 v46:=Tryz.zeroValue164
 t51:=Tryz.underlying183
 a51:=Tryz.isAgg183
 z51:=Tryz.sizeOf183
 v51:=Tryz.zeroValue183
 t53:=Tryz.underlying198
 a53:=Tryz.isAgg198
 z53:=Tryz.sizeOf198
 v53:=Tryz.zeroValue198
 t75:=Tryz.underlying141
 a75:=Tryz.isAgg141
 z75:=Tryz.sizeOf141
 v75:=Tryz.zeroValue141
 t76:=Tryz.underlying142
 a76:=Tryz.isAgg142
 z76:=Tryz.sizeOf142
 v76:=Tryz.zeroValue142
 t85:=Tryz.underlying187
 a85:=Tryz.isAgg187
 z85:=Tryz.sizeOf187
 v85:=Tryz.zeroValue187
 t127:=Tryz.underlying209
 a127:=Tryz.isAgg209
 z127:=Tryz.sizeOf209
 v127:=Tryz.zeroValue209
 t143:=Tryz.underlying210
 a143:=Tryz.isAgg210
 z143:=Tryz.sizeOf210
 v143:=Tryz.zeroValue210
 t145:=Tryz.underlying212
 a145:=Tryz.isAgg212
 z145:=Tryz.sizeOf212
 v145:=Tryz.zeroValue212
 t167:=Tryz.underlying186
 a167:=Tryz.isAgg186
 z167:=Tryz.sizeOf186
 v167:=Tryz.zeroValue186
 t168:=Tryz.underlying189
 a168:=Tryz.isAgg189
 z168:=Tryz.sizeOf189
 v168:=Tryz.zeroValue189
 t171:=Tryz.underlying213
 a171:=Tryz.isAgg213
 z171:=Tryz.sizeOf213
 v171:=Tryz.zeroValue213
 t173:=Tryz.underlying216
 a173:=Tryz.isAgg216
 z173:=Tryz.sizeOf216
 v173:=Tryz.zeroValue216
 t175:=Tryz.underlying199
 a175:=Tryz.isAgg199
 z175:=Tryz.sizeOf199
 v175:=Tryz.zeroValue199
 t210:=Tryz.underlying202
 a210:=Tryz.isAgg202
 z210:=Tryz.sizeOf202
 v210:=Tryz.zeroValue202
 t212:=Tryz.underlying232
 a212:=Tryz.isAgg232
 z212:=Tryz.sizeOf232
 v212:=Tryz.zeroValue232
 t213:=Tryz.underlying233
 a213:=Tryz.isAgg233
 z213:=Tryz.sizeOf233
 t232:=Tryz.underlying243
 a232:=Tryz.isAgg243
 z232:=Tryz.sizeOf243
 v232:=Tryz.zeroValue243
 t233:=Tryz.underlying244
 a233:=Tryz.isAgg244
 z233:=Tryz.sizeOf244
 v233:=Tryz.zeroValue244
 g15:=by kernel_rfl
 g16:=by kernel_rfl
 g17:=by kernel_rfl
 g18:=by kernel_rfl
 g19:=by kernel_rfl
 t80:=Tryz.underlying82
 a80:=Tryz.isAgg82
 z80:=Tryz.sizeOf82
 v80:=Tryz.zeroValue82
 i0:=by kernel_rfl
 i2:=by kernel_rfl
 i3:=by kernel_rfl
 i4:=by kernel_rfl
 i5:=by kernel_rfl
 i9:=by kernel_rfl
 i20:=by kernel_rfl
 i21:=by kernel_rfl
 i37:=by kernel_rfl
 i46:=by kernel_rfl
 i51:=by kernel_rfl
 i53:=by kernel_rfl
 i75:=by kernel_rfl
 i76:=by kernel_rfl
 i80:=by kernel_rfl
 i85:=by kernel_rfl
 i127:=by kernel_rfl
 i143:=by kernel_rfl
 i145:=by kernel_rfl
 i167:=by kernel_rfl
 i168:=by kernel_rfl
 i171:=by kernel_rfl
 i173:=by kernel_rfl
 i175:=by kernel_rfl
 i210:=by kernel_rfl
 i212:=by kernel_rfl
 i232:=by kernel_rfl
 i233:=by kernel_rfl
 m15:=by kernel_rfl
 m16:=by kernel_rfl
 m17:=by kernel_rfl
 m18:=by kernel_rfl
 m19:=by kernel_rfl
 c0:=by kernel_rfl
 c2:=by kernel_rfl
 c3:=by kernel_rfl
 c4:=by kernel_rfl
 c5:=by kernel_rfl
 c9:=by kernel_rfl
 c20:=by kernel_rfl
 c21:=by kernel_rfl
 c37:=by kernel_rfl
 c46:=by kernel_rfl
 c51:=by kernel_rfl
 c53:=by kernel_rfl
 c75:=by kernel_rfl
 c76:=by kernel_rfl
 c80:=by kernel_rfl
 c85:=by kernel_rfl
 c127:=by kernel_rfl
 c143:=by kernel_rfl
 c145:=by kernel_rfl
 c167:=by kernel_rfl
 c168:=by kernel_rfl
 c171:=by kernel_rfl
 c173:=by kernel_rfl
 c175:=by kernel_rfl
 c210:=by kernel_rfl
 c212:=by kernel_rfl
 c213:=by kernel_rfl
 c232:=by kernel_rfl
 c233:=by kernel_rfl}
def Tryz.lays171_ren:Go.Shelf.Ren:=⟨fun|171=>154|243=>174|246=>184|283=>192|284=>193|285=>194|286=>195|129=>206|317=>208|318=>209|319=>210|320=>211|337=>218|338=>219|n=>n,fun|3=>3|9=>9|2=>2|4=>4|171=>213|0=>0|53=>198|37=>169|5=>5|173=>216|212=>232|51=>183|20=>20|213=>233|46=>164|232=>243|233=>244|n=>n,fun|17=>5|18=>6|19=>7|n=>n⟩
theorem Tryz.lays171:Go.Proofs.LaysM.n171 Tryz.prog Tryz.lays171_ren:={
 mixed:=by kernel_rfl
 f129:=Tryz.func206.trans (congrArg some (by kernel_rfl))
 f171:=Tryz.func154.trans (congrArg some (by kernel_rfl))
 f243:=Tryz.func174.trans (congrArg some (by kernel_rfl))
 f246:=Tryz.func184.trans (congrArg some (by kernel_rfl))
 f283:=Tryz.func192.trans (congrArg some (by kernel_rfl))
 f284:=Tryz.func193.trans (congrArg some (by kernel_rfl))
 f285:=Tryz.func194.trans (congrArg some (by kernel_rfl))
 f286:=Tryz.func195.trans (congrArg some (by kernel_rfl))
 f317:=Tryz.func208.trans (congrArg some (by kernel_rfl))
 f318:=Tryz.func209.trans (congrArg some (by kernel_rfl))
 f319:=Tryz.func210.trans (congrArg some (by kernel_rfl))
 f320:=Tryz.func211.trans (congrArg some (by kernel_rfl))
 f337:=Tryz.func218.trans (congrArg some (by kernel_rfl))
 f338:=Tryz.func219.trans (congrArg some (by kernel_rfl))
 t0:=Tryz.underlying0
 a0:=Tryz.isAgg0
 z0:=Tryz.sizeOf0
 v0:=Tryz.zeroValue0
 t2:=Tryz.underlying2
 a2:=Tryz.isAgg2
 z2:=Tryz.sizeOf2
 v2:=Tryz.zeroValue2
 t3:=Tryz.underlying3
 a3:=Tryz.isAgg3
 z3:=Tryz.sizeOf3
 v3:=Tryz.zeroValue3
 t4:=Tryz.underlying4
 a4:=Tryz.isAgg4
 z4:=Tryz.sizeOf4
 v4:=Tryz.zeroValue4
 t5:=Tryz.underlying5
 a5:=Tryz.isAgg5
 z5:=Tryz.sizeOf5
 v5:=Tryz.zeroValue5
 t9:=Tryz.underlying9
 a9:=Tryz.isAgg9
 z9:=Tryz.sizeOf9
 v9:=Tryz.zeroValue9
 t20:=Tryz.underlying20
 a20:=Tryz.isAgg20
 z20:=Tryz.sizeOf20
 v20:=Tryz.zeroValue20
 t37:=Tryz.underlying169
 a37:=Tryz.isAgg169
 z37:=Tryz.sizeOf169
 v37:=Tryz.zeroValue169
 t46:=Tryz.underlying164
 a46:=Tryz.isAgg164
 z46:=Tryz.sizeOf164
 v46:=Tryz.zeroValue164
 t51:=Tryz.underlying183
 a51:=Tryz.isAgg183
 z51:=Tryz.sizeOf183
 v51:=Tryz.zeroValue183
 t53:=Tryz.underlying198
 a53:=Tryz.isAgg198
 z53:=Tryz.sizeOf198
 v53:=Tryz.zeroValue198
 t171:=Tryz.underlying213
 a171:=Tryz.isAgg213
 z171:=Tryz.sizeOf213
 v171:=Tryz.zeroValue213
 t173:=Tryz.underlying216
 a173:=Tryz.isAgg216
 z173:=Tryz.sizeOf216
 v173:=Tryz.zeroValue216
 t212:=Tryz.underlying232
 a212:=Tryz.isAgg232
 z212:=Tryz.sizeOf232
 v212:=Tryz.zeroValue232
 t213:=Tryz.underlying233
 a213:=Tryz.isAgg233
 z213:=Tryz.sizeOf233
 t232:=Tryz.underlying243
 a232:=Tryz.isAgg243
 z232:=Tryz.sizeOf243
 v232:=Tryz.zeroValue243
 t233:=Tryz.underlying244
 a233:=Tryz.isAgg244
 z233:=Tryz.sizeOf244
 v233:=Tryz.zeroValue244
 g17:=by kernel_rfl
 g18:=by kernel_rfl
 g19:=by kernel_rfl
 i0:=by kernel_rfl
 i2:=by kernel_rfl
 i3:=by kernel_rfl
 i4:=by kernel_rfl
 i5:=by kernel_rfl
 i9:=by kernel_rfl
 i20:=by kernel_rfl
 i37:=by kernel_rfl
 i46:=by kernel_rfl
 i51:=by kernel_rfl
 i53:=by kernel_rfl
 i171:=by kernel_rfl
 i173:=by kernel_rfl
 i212:=by kernel_rfl
 i232:=by kernel_rfl
 i233:=by kernel_rfl
 m17:=by kernel_rfl
 m18:=by kernel_rfl
 m19:=by kernel_rfl}
def Tryz.lays99_ren:Go.Shelf.Ren:=⟨fun|99=>89|206=>120|n=>n,fun|9=>9|4=>4|3=>3|n=>n,fun|n=>n⟩
theorem Tryz.lays99:Go.Proofs.Lays.n99 Tryz.prog Tryz.lays99_ren:={
 mixed:=by kernel_rfl
 f99:=Tryz.func89.trans (congrArg some (by kernel_rfl))
 f206:=Tryz.func120.trans (congrArg some (by kernel_rfl))
 t3:=Tryz.underlying3
 a3:=Tryz.isAgg3
 z3:=Tryz.sizeOf3
 v3:=Tryz.zeroValue3
 t4:=Tryz.underlying4
 a4:=Tryz.isAgg4
 z4:=Tryz.sizeOf4
 v4:=Tryz.zeroValue4
 t9:=Tryz.underlying9
 a9:=Tryz.isAgg9
 z9:=Tryz.sizeOf9
 v9:=Tryz.zeroValue9}
def Tryz.lays190_ren:Go.Shelf.Ren:=⟨fun|190=>176|125=>186|258=>185|128=>205|129=>206|302=>196|303=>197|304=>198|305=>199|306=>200|307=>201|308=>202|309=>203|310=>204|333=>212|329=>213|330=>214|334=>215|335=>216|336=>217|344=>220|n=>n,fun|31=>23|9=>9|3=>3|46=>164|0=>0|51=>183|53=>198|4=>4|183=>220|182=>219|131=>100|5=>5|218=>234|222=>238|228=>240|229=>241|n=>n,fun|n=>n⟩
theorem Tryz.lays190:Go.Proofs.Lays.n190 Tryz.prog Tryz.lays190_ren:={
 mixed:=by kernel_rfl
 f125:=Tryz.func186.trans (congrArg some (by kernel_rfl))
 f128:=Tryz.func205.trans (congrArg some (by kernel_rfl))
 f129:=Tryz.func206.trans (congrArg some (by kernel_rfl))
 f190:=Tryz.func176.trans (congrArg some (by kernel_rfl))
 f258:=Tryz.func185.trans (congrArg some (by kernel_rfl))
 f302:=Tryz.func196.trans (congrArg some (by kernel_rfl))
 f303:=Tryz.func197.trans (congrArg some (by kernel_rfl))
 f304:=Tryz.func198.trans (congrArg some (by kernel_rfl))
 f305:=Tryz.func199.trans (congrArg some (by kernel_rfl))
 f306:=Tryz.func200.trans (congrArg some (by kernel_rfl))
 f307:=Tryz.func201.trans (congrArg some (by kernel_rfl))
 f308:=Tryz.func202.trans (congrArg some (by kernel_rfl))
 f309:=Tryz.func203.trans (congrArg some (by kernel_rfl))
 f310:=Tryz.func204.trans (congrArg some (by kernel_rfl))
 f329:=Tryz.func213.trans (congrArg some (by kernel_rfl))
 f330:=Tryz.func214.trans (congrArg some (by kernel_rfl))
 f333:=Tryz.func212.trans (congrArg some (by kernel_rfl))
 f334:=Tryz.func215.trans (congrArg some (by kernel_rfl))
 f335:=Tryz.func216.trans (congrArg some (by kernel_rfl))
 f336:=Tryz.func217.trans (congrArg some (by kernel_rfl))
 f344:=Tryz.func220.trans (congrArg some (by kernel_rfl))
 t0:=Tryz.underlying0
 a0:=Tryz.isAgg0
 z0:=Tryz.sizeOf0
 v0:=Tryz.zeroValue0
 t3:=Tryz.underlying3
 a3:=Tryz.isAgg3
 z3:=Tryz.sizeOf3
 v3:=Tryz.zeroValue3
 t4:=Tryz.underlying4
 a4:=Tryz.isAgg4
 z4:=Tryz.sizeOf4
 v4:=Tryz.zeroValue4
 t5:=Tryz.underlying5
 a5:=Tryz.isAgg5
 z5:=Tryz.sizeOf5
 v5:=Tryz.zeroValue5
 t9:=Tryz.underlying9
 a9:=Tryz.isAgg9
 z9:=Tryz.sizeOf9
 v9:=Tryz.zeroValue9
 t31:=Tryz.underlying23
 a31:=Tryz.isAgg23
 z31:=Tryz.sizeOf23
 v31:=Tryz.zeroValue23
 t46:=Tryz.underlying164
 a46:=Tryz.isAgg164
 z46:=Tryz.sizeOf164
 v46:=Tryz.zeroValue164
 t51:=Tryz.underlying183
 a51:=Tryz.isAgg183
 z51:=Tryz.sizeOf183
 v51:=Tryz.zeroValue183
 t53:=Tryz.underlying198
 a53:=Tryz.isAgg198
 z53:=Tryz.sizeOf198
 v53:=Tryz.zeroValue198
 t131:=Tryz.underlying100
 a131:=Tryz.isAgg100
 z131:=Tryz.sizeOf100
 v131:=Tryz.zeroValue100
 t182:=Tryz.underlying219
 a182:=Tryz.isAgg219
 z182:=Tryz.sizeOf219
 v182:=Tryz.zeroValue219
 t183:=Tryz.underlying220
 a183:=Tryz.isAgg220
 z183:=Tryz.sizeOf220
 v183:=Tryz.zeroValue220
 t218:=Tryz.underlying234
 a218:=Tryz.isAgg234
 z218:=Tryz.sizeOf234
 v218:=Tryz.zeroValue234
 t222:=Tryz.underlying238
 a222:=Tryz.isAgg238
 z222:=Tryz.sizeOf238
 v222:=Tryz.zeroValue238
 t228:=Tryz.underlying240
 a228:=Tryz.isAgg240
 z228:=Tryz.sizeOf240
 v228:=Tryz.zeroValue240
 t229:=Tryz.underlying241
 a229:=Tryz.isAgg241
 z229:=Tryz.sizeOf241
 v229:=Tryz.zeroValue241}
end Go.Proofs.YtgclceacfcdigaaGreatDoor
namespace Go.Proofs.YtgclceacfcdigaaGreatDoor
open Go.Pl Go.RowKit
open Enc (enc dec is)
open EncL (encL decL isL)
set_option maxRecDepth 100000
theorem Vn:ZQ Tryz.prog 89 (fun _:Str×Str×Unit=>true) (fun x:Str×Str×Unit=>x.2.1.s.isPrefixOf x.1.s):=Xf (by
  rintro⟨⟨s⟩,⟨p⟩,⟨⟩⟩ hps Φ w vs hL hΦ hv
  obtain⟨u,v,rfl,h1,h2⟩:=b8s hv
  rw[Qz h1,Qz h2]
  refine(Any.strings_HasPrefix Tryz.lays99 ⟨s.toArray⟩ ⟨p.toArray⟩ w).mono ?_
  rintro e w' ⟨rfl,rfl⟩
  exact⟨_,rfl,.bool _,.refl _ _⟩)
theorem a7o:ZQ Tryz.prog 123 (fun x:Str×Unit=>decide (x.1.s.length<=1000000)) (fun x:Str×Unit=>Ye x.1):=Xf (by
  rintro⟨⟨s⟩,⟨⟩⟩ hps Φ w vs hL hΦ a
  have hs:s.length<=1000000:=by simpa using hps
  obtain⟨v,rfl,h1⟩:=c8c a
  rw[Qz h1]
  have g:(⟨s.toArray⟩:ByteArray).size=s.length:=rfl
  cases h:Lib.atoiAll s
  ·rename_i n
   have l:Ye ⟨s⟩=(n,⟨false⟩):=by simp only[Ye,h]
   rw[l]
   refine(Any.strconv_Atoi_ok Tryz.lays172 ⟨s.toArray⟩ (by rw[g];omega) n h w).mono ?_
   rintro e w' ⟨rfl,r⟩
   refine⟨_,rfl,.tup _ _ rfl ?_,?_⟩
   ·intro j v x a b
    match j with
    | 0=>cases a;cases b;exact .int _ _
    | 1=>cases a;cases b;exact .nili
    | j+2=>simp at a
   ·rcases r with rfl|⟨t,rfl⟩
    ·exact .refl _ _
    ·exact GM _ _ 0 _
  ·skip
   have l:Ye ⟨s⟩=(0,⟨true⟩):=by simp only[Ye,h]
   rw[l]
   obtain⟨cs,hc,ev,q,k⟩:=hL.syn
   refine(Any.strconv_Atoi_syntax Tryz.lays172 ⟨s.toArray⟩ (by rw[g];omega) h ev w (UQ hΦ hc q) k).mono ?_
   rintro e w' ⟨N,rfl,_,_,hb⟩
   refine⟨_,rfl,.tup _ _ rfl ?_,hb⟩
   intro j v x a b
   match j with
   | 0=>cases a;cases b;exact .int _ _
   | 1=>cases a;cases b;exact .ifc _ _
   | j+2=>simp at a
  ·skip
   have l:Ye ⟨s⟩=(Lib.atoiSat s,⟨true⟩):=by simp only[Ye,h]
   rw[l]
   obtain⟨cs,hc,ev,q,k⟩:=hL.rng
   refine(Any.strconv_Atoi_range Tryz.lays172 ⟨s.toArray⟩ (by rw[g];omega) h ev w (UQ hΦ hc q) k).mono ?_
   rintro e w' ⟨N,rfl,_,_,hb⟩
   refine⟨_,rfl,.tup _ _ rfl ?_,hb⟩
   intro j v x a b
   match j with
   | 0=>cases a;cases b;exact .int _ _
   | 1=>cases a;cases b;exact .ifc _ _
   | j+2=>simp at a)
theorem PX:ZQ Tryz.prog 154 (fun x:Int×Unit=>decide (-9223372036854775808<=x.1)&&decide (x.1<=9223372036854775807)) (fun x:Int×Unit=>Gx x.1):=Xf (by
  rintro⟨n,⟨⟩⟩ hps Φ w vs hL hΦ hv
  obtain⟨v,rfl,h1⟩:=c8c hv
  have h1:RP Φ v (.int .i64 n):=h1
  rw[b4o h1]
  have hn : -9223372036854775808<=n∧n<=9223372036854775807:=by simpa using hps
  have hg:=hL.pow
  obtain⟨T,fz,hh⟩:=hΦ _ _ hg
  refine(Any.strconv_Itoa Tryz.lays171 n hn.1 hn.2 w ?_).mono ?_
  ·unfold Lib.TabIs World.var?
   rw[show Program.globalNamed Tryz.prog "internal/strconv.uint64pow10" = some 5 by kernel_rfl]
   simp only[Option.bind_some,hh]
   rfl
  ·rintro e w' ⟨rfl,k,os,rfl⟩
   refine⟨_,rfl,.str _,?_⟩
   exact⟨rfl,rfl,rfl,by show w.heap.size<=(w.heap++os).size;simp,fun j hj=>by show(w.heap++os)[j]? = _;rw[Array.getElem?_append_left hj]⟩)
theorem c6i: ∀ s:List UInt8,((s.dropWhile fun c=>c != 46)=[]->Lib.index s [46] = -1) ∧
  ∀ (c:UInt8) (r:List UInt8),(s.dropWhile fun c=>c != 46)=c::r->Lib.index s [46]=((s.takeWhile fun c=>c != 46).length:Nat)∧s.drop ((s.takeWhile fun c=>c != 46).length+1)=r∧s.take (s.takeWhile fun c=>c != 46).length=s.takeWhile fun c=>c != 46
 | []=>⟨fun _=>rfl,fun _ _ h=>by cases h⟩
 | b::l=>by
  obtain⟨h1,h2⟩:=c6i l
  by_cases hb:b=46
  ·subst hb
   refine⟨fun h=>by simp at h,fun c r h=> ?_⟩
   have h:(46:UInt8)::l=c::r:=by simpa using h
   cases h
   exact⟨rfl,rfl,rfl⟩
  ·have a:(b != 46)=true:=by simpa using hb
   have k:([46]:List UInt8).isPrefixOf (b::l)=false:=by simp[List.isPrefixOf];exact fun e=>hb e.symm
   have g:Lib.index (b::l) [46]=if Lib.index l [46] == -1 then -1 else Lib.index l [46]+1:=by rw[Lib.index,k];rfl
   rw[List.dropWhile_cons,if_pos a,List.takeWhile_cons,if_pos a]
   refine⟨fun h=>by rw[g,h1 h];rfl,fun c r h=> ?_⟩
   obtain⟨q,j,u⟩:=h2 c r h
   rw[g,q]
   refine⟨?_,?_,?_⟩
   ·rw[if_neg (by simp),List.length_cons];rfl
   ·rw[List.length_cons,List.drop_succ_cons];exact j
   ·rw[List.length_cons,List.take_succ_cons,u]
theorem b7x(s:List UInt8):Lib.cut s [46]=((VQ ⟨s⟩).a.s,(VQ ⟨s⟩).b.s,(VQ ⟨s⟩).c):=by
 obtain⟨h1,h2⟩:=c6i s
 unfold Lib.cut VQ
 cases hd:s.dropWhile fun c=>c != 46 with
 | nil=>
  rw[h1 hd]
  rfl
 | cons c r=>
  obtain⟨e,h,g⟩:=h2 c r hd
  rw[e,if_pos (by omega),Int.toNat_natCast,g]
  show(_,s.drop ((s.takeWhile fun c=>c != 46).length+1),true)=_
  rw[h]
theorem a9b:ZQ Tryz.prog 136 (fun x:Str×Str×Unit=>decide (x.1.s.length<=1048576)&&decide (x.2.1.s=[46])) (fun x:Str×Str×Unit=>VQ x.1):=Xf (by
  rintro⟨⟨s⟩,⟨p⟩,⟨⟩⟩ hps Φ w vs hL hΦ a
  simp only[Bool.and_eq_true,decide_eq_true_eq]at hps
  obtain⟨hs,b⟩:=hps
  have b:p=[46]:=b
  subst b
  obtain⟨u,v,rfl,h1,h2⟩:=b8s a
  rw[Qz h1,Qz h2]
  obtain⟨cs,m,hc,hm⟩:=hL.mx
  have h:(⟨s.toArray⟩:ByteArray).size=s.length:=rfl
  refine(Any.strings_Cut Tryz.lays145 ⟨s.toArray⟩ ⟨#[46]⟩ m w (by rw[h];have hs:s.length<=1048576:=hs;omega) (UQ hΦ hc hm)).mono ?_
  rintro e w' ⟨rfl,k,rfl⟩
  refine⟨_,rfl,.tup _ _ rfl ?_,?_⟩
  ·rw[show(⟨s.toArray⟩:ByteArray).data.toList=s from rfl,show(⟨#[46]⟩:ByteArray).data.toList=[46]from rfl,b7x]
   intro j v x a g
   match j with
   | 0=>cases a;cases g;exact .str _
   | 1=>cases a;cases g;exact .str _
   | 2=>cases a;cases g;exact .bool _
   | j+3=>simp at a
  ·exact⟨rfl,rfl,rfl,Nat.le_refl _,fun _ _=>rfl⟩)
theorem c0g:ZQ Tryz.prog 90 (fun x:Str×UInt8×Unit=>decide (x.1.s.length<=1048576)) (fun x:Str×UInt8×Unit=>Lib.indexByte x.1.s x.2.1):=Xf (by
  rintro⟨⟨s⟩,c,⟨⟩⟩ hps Φ w vs hL hΦ hv
  obtain⟨u,v,rfl,h1,h2⟩:=b8s hv
  rw[Qz h1,b4o h2]
  refine(Any.strings_IndexByte Tryz.lays137 ⟨s.toArray⟩ (c.toNat:Int) w).mono ?_
  rintro e w' ⟨rfl,rfl⟩
  have hc:((c.toNat:Int)).toNat.toUInt8=c:=by
   rw[Int.toNat_natCast]
   exact UInt8.ofNat_toNat
  rw[hc]
  exact⟨_,rfl,.int _ _,.refl _ _⟩)
theorem b3t:ZQ Tryz.prog 65 (fun x:Str×Str×Unit=>decide (x.1.s.length<=1048576)&&decide (x.2.1.s=[10])) (fun x:Str×Str×Unit=>(Lib.countByte x.1.s 10:Int)):=Xf (by
  rintro⟨⟨s⟩,⟨p⟩,⟨⟩⟩ hps Φ w vs hL hΦ hv
  obtain⟨-,rfl⟩:s.length<=1048576∧p=[10]:=by simpa using hps
  obtain⟨u,v,rfl,h1,h2⟩:=b8s hv
  rw[Qz h1,Qz h2]
  refine(Any.strings_Count_one Tryz.lays138 ⟨s.toArray⟩ 10 w).mono ?_
  rintro e w' ⟨rfl,rfl⟩
  exact⟨_,rfl,.int _ _,.refl _ _⟩)
end Go.Proofs.YtgclceacfcdigaaGreatDoor
namespace Go.Proofs.YtgclceacfcdigaaGreatDoor
open Go.RowKit Go.Lib Go.Pl
theorem b4f:(Tryz.prog.info? 3).map (fun i=>(i.zero,i.size,i.bytes))=some (some (.int .i64 0),1,8):=by kernel_rfl
theorem J7:Tryz.prog.underlying 25=some (.slice 3):=by kernel_rfl
theorem F3(n c:Nat)(w:World):Calls Tryz.prog 134 #[.slice none n c] w fun e w'=>e = .returned (.slice none 0 0)∧w'=w:=by
 have q22 : ∀ (w:World) (a:Option Addr) (n c b g:Nat),(binOp .eql 25 (.slice a n c) (.slice none b g)).run Tryz.prog w = .ok (.bool a.isNone) w:=fun w a n c b g=>Lib.run_eql_slice_nil w _ _ a n c b g J7
 go_enter Tryz.func134,Tryz.ntmps134
 go_wp2
 go_ret
 exact⟨rfl,rfl⟩
theorem Ml(a:Addr)(c:Nat)(w:World):Calls Tryz.prog 134 #[.slice (some a) 0 c] w fun e w'=>(∃ g,e = .returned (.slice (some g) 0 0))∧Below w.heap.size w w':=by
 have q22 : ∀ (w:World) (a:Option Addr) (n c b h:Nat),(binOp .eql 25 (.slice a n c) (.slice none b h)).run Tryz.prog w = .ok (.bool a.isNone) w:=fun w a n c b h=>Lib.run_eql_slice_nil w _ _ a n c b h J7
 obtain⟨i0,hi,hz0,hz1,hz2⟩:=info_parts b4f
 go_enter Tryz.func134,Tryz.ntmps134
 go_wp2_with (at_builtin;refine Lib.wpList_append_run _ rfl _ _ _ _ rfl _ _ rfl rfl _ _ (Wv J7 hi (Nat.le_refl _)) ?_)
 go_ret
 exact⟨⟨_,rfl⟩,(Below.refl _ w).alloc (Nat.le_refl _) _⟩
theorem MI(a:Addr)(n c:Nat)(news:List Value)(w:World)(h0:0<n)(hn:n<=2000000)(C:news.length=n*1)(hc : ∀ j u,news[j]? = some u->w.cell? (a.add j)=some u)(h1 : ∀ u∈news,u.oneCell'=true):
  Calls Tryz.prog 134 #[.slice (some a) n c] w fun e w'=> ∃ v',e = .returned v'∧w'.ownsRow w.heap.size 3 1 v' n news∧Below w.heap.size w w':=by
 have q22 : ∀ (w:World) (a:Option Addr) (n c r h:Nat),(binOp .eql 25 (.slice a n c) (.slice none r h)).run Tryz.prog w = .ok (.bool a.isNone) w:=fun w a n c r h=>Lib.run_eql_slice_nil w _ _ a n c r h J7
 obtain⟨B,hi,s,l,q⟩:=info_parts b4f
 have A:Aside (∀ j u,news[j]? = some u->w.cell? (a.add j)=some u):=hc
 clear hc
 go_enter Tryz.func134,Tryz.ntmps134
 go_wp2_with (at_builtin;refine wpList_append_own _ rfl _ _ 25 rfl w.heap.size 3 B (.int .i64 0) 1 8 J7 hi s l q rfl (by decide) _ _ _ rfl (World.ownsRow_made w #[] 0 (Nat.le_refl _) (Nat.zero_le _) rfl) a n c news rfl ?qc1 ?qc2 ?qc3 ?qc4 ?qc5 ?qc6 ?_)
 case qc1=>exact C
 case qc2=>intro j u z;exact Lib.cell?_alloc_some _ (A.out j u z)
 case qc3=>exact h1
 case qc4=>unfold maxLen;omega
 case qc5=>omega
 case qc6=>simp
 intro v' w1 g b hnil
 go_wp2
 go_ret
 refine⟨v',rfl,by simpa using g,?_⟩
 exact((Below.refl _ w).alloc (Nat.le_refl _) _).grown b (by simp) (by intro k y;simp[Value.ownBlock]at y;omega)
theorem d2h:CloneC Tryz.prog 134 3 1:=⟨F3,Ml,MI⟩
end Go.Proofs.YtgclceacfcdigaaGreatDoor
namespace Go.Proofs.YtgclceacfcdigaaGreatDoor
open Go.Pl
open Enc (enc dec is)
open EncL (encL decL isL)
set_option maxRecDepth 100000
theorem Ua:Tryz.prog.follows .mixedOrders=true:=by kernel_rfl
theorem tq{f:Nat}{D:Den}{l:List (Nat×Den)}{fn:Func}(hf:Tryz.prog.funcs[f]? = some fn)(h:El Tryz.prog f D)(k:Z7 Tryz.prog (Y4 l))(hb:(fn.body.isSome&& !(fn.name == "runtime.NumGoroutine"))=true:=by kernel_rfl):Z7 Tryz.prog (Y4 ((f,D)::l)):=V9 (ent hf hb h) k
theorem dq{f nt:Nat}{α β:Type}[EncL α][Enc β]{fn:Func}{T:ZJ}{ic:IC}{rs:List IRes}{pre:α->Bool}{F:α->β}(h : ∀ a,pre a=true->Zb T 0 (Za rs (Zh (F a))) ic [] (YC nt (encL a)))(j:Z7 Tryz.prog T)(k:Tryz.prog.funcs[f]? = some fn)(e:G5 Tryz.prog fn=some ic:=by kernel_rfl)(b:Y5 (YD Tryz.prog) fn.results.toList=some rs:=by kernel_rfl)(g:fn.ntmps=nt:=by kernel_rfl):ZQ Tryz.prog f pre F:=ZQ.of j Ua k e b g h
theorem DU{α β S:Type}[EncL α][Enc β][EncL S]{T:ZJ}{f:Nat}{fn:Func}{ic:IC}{rs:List IRes}{mk:α->List AV}{b e:List AObj}{pre:S->α->Bool}{un:List AV->α}{F:S->α->β×S}{nt k:Nat}(h : ∀ s a,pre s a=true->Zb T k (Zk k rs (ZN b e (F s a).1 (F s a).2)) ic [] (Z4 nt (mk a) (b++Zl s::e)))(hm:DZ mk un)(u:Z7 Tryz.prog T)(r:Tryz.prog.funcs[f]? = some fn)(q:b.length+1+e.length=k:=by exact rfl)(g:G5 Tryz.prog fn=some ic:=by kernel_rfl)(l:Y5 (YD Tryz.prog) fn.results.toList=some rs:=by kernel_rfl)(j:fn.ntmps=nt:=by kernel_rfl):Z0 Tryz.prog f mk un b e pre F:=Z0.of hm u Ua r g l j q h
theorem Sg:ZQ Tryz.prog 123 (fun x:Str×Unit=>decide (x.1.s.length<=281474976710656)) (fun x:Str×Unit=>Ye x.1):=Xf (by
  rintro⟨⟨s⟩,⟨⟩⟩ hps Φ w vs hL hΦ a
  have hs:s.length<=281474976710656:=by simpa using hps
  obtain⟨v,rfl,h1⟩:=c8c a
  rw[Qz h1]
  have g:(⟨s.toArray⟩:ByteArray).size=s.length:=rfl
  cases h:Lib.atoiAll s
  ·rename_i n
   have l:Ye ⟨s⟩=(n,⟨false⟩):=by simp only[Ye,h]
   rw[l]
   refine(Any.strconv_Atoi_ok Tryz.lays172 ⟨s.toArray⟩ (by rw[g];omega) n h w).mono ?_
   rintro e w' ⟨rfl,r⟩
   refine⟨_,rfl,.tup _ _ rfl ?_,?_⟩
   ·intro j v x a b
    match j with
    | 0=>cases a;cases b;exact .int _ _
    | 1=>cases a;cases b;exact .nili
    | j+2=>simp at a
   ·rcases r with rfl|⟨t,rfl⟩
    ·exact .refl _ _
    ·exact GM _ _ 0 _
  ·skip
   have l:Ye ⟨s⟩=(0,⟨true⟩):=by simp only[Ye,h]
   rw[l]
   obtain⟨cs,hc,ev,q,k⟩:=hL.syn
   refine(Any.strconv_Atoi_syntax Tryz.lays172 ⟨s.toArray⟩ (by rw[g];omega) h ev w (UQ hΦ hc q) k).mono ?_
   rintro e w' ⟨N,rfl,_,_,hb⟩
   refine⟨_,rfl,.tup _ _ rfl ?_,hb⟩
   intro j v x a b
   match j with
   | 0=>cases a;cases b;exact .int _ _
   | 1=>cases a;cases b;exact .ifc _ _
   | j+2=>simp at a
  ·skip
   have l:Ye ⟨s⟩=(Lib.atoiSat s,⟨true⟩):=by simp only[Ye,h]
   rw[l]
   obtain⟨cs,hc,ev,q,k⟩:=hL.rng
   refine(Any.strconv_Atoi_range Tryz.lays172 ⟨s.toArray⟩ (by rw[g];omega) h ev w (UQ hΦ hc q) k).mono ?_
   rintro e w' ⟨N,rfl,_,_,hb⟩
   refine⟨_,rfl,.tup _ _ rfl ?_,hb⟩
   intro j v x a b
   match j with
   | 0=>cases a;cases b;exact .int _ _
   | 1=>cases a;cases b;exact .ifc _ _
   | j+2=>simp at a)
theorem a9f:YO Tryz.prog 176 Vf VV:=a5p (Any.slices_Sort_string Tryz.lays190) (Any.slices_Sort_string_none Tryz.lays190)
theorem SA:ZQ Tryz.prog 131 (fun _:Int×Unit=>true) (fun x:Int×Unit=>YG x.1):=dq b9s Zd Tryz.func131
theorem NG:ZQ Tryz.prog 130 (fun x:Str×Unit=>decide (x.1.s.length<=1000000)) (fun x:Str×Unit=>YM x.1):=dq a2i (tq Tryz.func89 Vn (tq Tryz.func123 a7o (tq Tryz.func154 PX Zd))) Tryz.func130
theorem PE:ZQ Tryz.prog 130 (fun x:Str×Unit=>decide (x.1.s.length<=281474976710656)) (fun x:Str×Unit=>YM x.1):=dq Oj (tq Tryz.func89 Vn (tq Tryz.func123 Sg (tq Tryz.func154 PX Zd))) Tryz.func130
theorem Qn:ZQ Tryz.prog 105 (fun x:Lin×Unit=>ZR x.1) (fun x:Lin×Unit=>ZB x.1):=dq OH (tq Tryz.func131 SA (tq Tryz.func130 NG Zd)) Tryz.func105
theorem J4:ZQ Tryz.prog 105 (fun x:Lin×Unit=>UD x.1) (fun x:Lin×Unit=>ZB x.1):=dq a3r (tq Tryz.func131 SA (tq Tryz.func130 PE Zd)) Tryz.func105
theorem Qt:ZQ Tryz.prog 94 (fun _:UInt8×Unit=>true) (fun x:UInt8×Unit=>lowB x.1):=dq FE Zd Tryz.func94
theorem JP:ZQ Tryz.prog 97 (fun _:UInt8×Unit=>true) (fun x:UInt8×Unit=>digB x.1):=dq OT Zd Tryz.func97
theorem Ji:ZQ Tryz.prog 95 (fun x:Str×Bool×Unit=>decide (x.1.s.length<=1048576)) (fun x:Str×Bool×Unit=>Y0 x.1 x.2.1):=dq b5n (tq Tryz.func97 JP (tq Tryz.func94 Qt Zd)) Tryz.func95
theorem QC:ZQ Tryz.prog 96 (fun _:Str×Unit=>true) (fun x:Str×Unit=>KO.contains x.1.s):=dq b4q Zd Tryz.func96
theorem Vl:ZQ Tryz.prog 72 (fun x:Str×Unit=>decide (x.1.s.length<=1048576)) (fun x:Str×Unit=>nameI x.1.s):=dq a5i (tq Tryz.func94 Qt (tq Tryz.func95 Ji (tq Tryz.func96 QC Zd))) Tryz.func72
theorem UC:ZQ Tryz.prog 109 (fun x:Str×Unit=>decide (x.1.s.length<=1048576)) (fun x:Str×Unit=>fullI x.1.s):=dq a4d (tq Tryz.func136 a9b (tq Tryz.func72 Vl Zd)) Tryz.func109
theorem QE:ZQ Tryz.prog 77 (fun x:Str×Unit=>decide (x.1.s.length<=1048576)) (fun x:Str×Unit=>fnI x.1.s):=dq a7m (tq Tryz.func72 Vl (tq Tryz.func109 UC Zd)) Tryz.func77
theorem DX:ZQ Tryz.prog 74 (fun x:Tm×Unit=>nW x.1) (fun x:Tm×Unit=>Hm x.1.nd):=dq b2e Zd Tryz.func74
theorem BQ:ZQ Tryz.prog 104 (fun x:Lin×Unit=>UD x.1) (fun x:Lin×Unit=> !(ZB x.1)):=dq b5g (tq Tryz.func105 J4 Zd) Tryz.func104
theorem c2y:ZQ Tryz.prog 129 (fun x:List Lin×FnV 104×Unit=>decide (x.1.length<=1048576)&&x.1.all UD) (fun x:List Lin×FnV 104×Unit=>Wj (fun l:Lin=> !(ZB l)) x.1):=dq c2m (tq Tryz.func104 BQ Zd) Tryz.func129
theorem c0l:ZQ Tryz.prog 103 (fun x:List Lin×FnV 104×Unit=>decide (x.1.length<=1048576)&&x.1.all UD) (fun x:List Lin×FnV 104×Unit=>x.1.any fun l:Lin=> !(ZB l)):=dq c0y (tq Tryz.func129 c2y Zd) Tryz.func103
theorem JS:ZQ Tryz.prog 73 (fun x:Tm×Int×Int×Unit=>nW x.1) (fun x:Tm×Int×Int×Unit=>YZ x.1.nd x.2.1 x.2.2.1):=dq OE (tq Tryz.func103 c0l Zd) Tryz.func73
theorem Pi:ZQ Tryz.prog 108 (fun _:Int×Unit=>true) (fun x:Int×Unit=>Yi x.1):=dq b6p Zd Tryz.func108
theorem c4a:ZQ Tryz.prog 135 (fun x:List Int×FnV 108×Unit=>decide (x.1.length<=1048576)) (fun x:List Int×FnV 108×Unit=>Wj Yi x.1):=dq c3g (tq Tryz.func108 Pi Zd) Tryz.func135
theorem c1y:ZQ Tryz.prog 107 (fun x:List Int×FnV 108×Unit=>decide (x.1.length<=1048576)) (fun x:List Int×FnV 108×Unit=>x.1.any Yi):=dq c2t (tq Tryz.func135 c4a Zd) Tryz.func107
theorem P8:ZQ Tryz.prog 76 (fun x:Tm×Unit=>nW x.1) (fun x:Tm×Unit=>callB x.1.nd x.1.ks.length):=dq a3u (tq Tryz.func77 QE (tq Tryz.func73 JS (tq Tryz.func107 c1y Zd))) Tryz.func76
theorem b7t:XM Tryz.prog 175 Yh Ku:=Kl (T:=VL) (ic:=WR) (rs:=WK) Zd Ua Tryz.func175 (by kernel_rfl) (by kernel_rfl) (by kernel_rfl) a4v
theorem PR:XM Tryz.prog 155 Yh VN:=Kl (T:=Je) (ic:=Q8) (rs:=QY) (tq Tryz.func175 b7t Zd) Ua Tryz.func155 (by kernel_rfl) (by kernel_rfl) (by kernel_rfl) Tc
theorem c0v:XM Tryz.prog 132 D6 Vs:=Kl (T:=XK) (ic:=Y2) (rs:=Y3) (tq Tryz.func155 PR Zd) Ua Tryz.func132 (by kernel_rfl) (by kernel_rfl) (by kernel_rfl) b5z
theorem b7p:ZQ Tryz.prog 132 (fun _:List Int×Unit=>true) (fun x:List Int×Unit=>VI x.1):=ZQ.ofPure c0v fun⟨l,_⟩ h=>⟨by show(ZG l).all PV.isNum=true;simp,by show Zh _ (.tup [.int .i64 (VI ((ZG l).map PV.asInt)).1,.int .i64 (VI ((ZG l).map PV.asInt)).2]);rw[Vg];exact ZE (x:=VI l) rfl⟩
theorem a1x:ZQ Tryz.prog 134 (fun x:List Int×Unit=>decide (x.1.length<=2000000)) (fun x:List Int×Unit=>x.1):=Ot (α:=Int) (by decide) (a3m d2h (by decide))
theorem TB:ZQ Tryz.prog 157 (fun _:Str×Int×Unit=>true) (fun x:Str×Int×Unit=>WZ x.1 x.2.1):=dq c4b Zd Tryz.func157
theorem d2g:YO Tryz.prog 156 DN RO:=Al (T:=b5a) (ic:=F9) (rs:=Lu) (tq Tryz.func157 TB Zd) Ua Tryz.func156 (by kernel_rfl) (by kernel_rfl) (by kernel_rfl) c0t
theorem c8r:YO Tryz.prog 135 WO DV:=Al (T:=BG) (ic:=KS) (rs:=KP) (tq Tryz.func156 d2g Zd) Ua Tryz.func135 (by kernel_rfl) (by kernel_rfl) (by kernel_rfl) b9m
theorem d2d:YO Tryz.prog 107 WO Tt:=Al (T:=b0o) (ic:=Oa) (rs:=Ff) (tq Tryz.func135 c8r Zd) Ua Tryz.func107 (by kernel_rfl) (by kernel_rfl) (by kernel_rfl) c1x
theorem MM:ZQ Tryz.prog 133 (fun x:Str×List Int×Unit=>decide (x.2.1.length<=2000000)) (fun x:Str×List Int×Unit=>x.2.1.all (WZ x.1)):=dq Rs (tq Tryz.func107 d2d Zd) Tryz.func133
theorem a3x:ZQ Tryz.prog 106 (fun x:Str×List Int×List Int×Unit=>decide (x.2.1.length<=2000000)&&decide (x.2.2.1.length<=2000000)) (fun x:Str×List Int×List Int×Unit=>a4p x.1 x.2.1 x.2.2.1):=dq a9n (tq Tryz.func132 b7p (tq Tryz.func133 MM (tq Tryz.func134 a1x Zd))) Tryz.func106
theorem TC:ZQ Tryz.prog 75 (fun x:Arr×Unit=>a2k x.1) (fun x:Arr×Unit=>b0i x.1):=dq c1r (tq Tryz.func106 a3x Zd) Tryz.func75
theorem N9:ZQ Tryz.prog 52 (fun x:Tm×Unit=>nW x.1) (fun x:Tm×Unit=>Cw x.1):=dq a3h (tq Tryz.func72 Vl (tq Tryz.func73 JS (tq Tryz.func74 DX (tq Tryz.func75 TC (tq Tryz.func76 P8 (tq Tryz.func77 QE Zd)))))) Tryz.func52
theorem d1d:YO Tryz.prog 51 Qk (Jq 70):=Al (T:=LK) (ic:=RQ) (rs:=RF) Zd Ua Tryz.func51 (by kernel_rfl) (by kernel_rfl) (by kernel_rfl) a9t
theorem a4z{cd:Code}(h:KE Tryz.prog b7m Tryz.f28 0=some cd):Jm Tryz.prog cd=some (.t 7,[8,9],Ci,BF):=by
 have:(KE Tryz.prog b7m Tryz.f28 0).bind (Jm Tryz.prog)=some (.t 7,[8,9],Ci,BF):=by kernel_rfl
 rw[h]at this
 exact this
theorem c2l(e:Z7 Tryz.prog KH): ∀ (B:Nat) (c:Ctx),c.w0.heap.size=B->(∀ i m,0<=i->c.μ0 i m=none)->b4z (CS B 4 e Ua) (fun n cd=>KE Tryz.prog b7m Tryz.f28 n=some cd) tvE c:=by
 rintro B c j g n cd b st a w q hr ⟨rfl,h⟩
 exact a2p e Ua b3s (fun x=>by obtain⟨t,l⟩:=x;rfl) (a4z b) j g hr h
theorem OY:Z7 Tryz.prog KH:=(tq Tryz.func51 d1d (tq Tryz.func52 N9 Zd))
theorem KI:ZQ Tryz.prog 28 (fun x:Tm×Unit=>gW x.1) (fun x:Tm×Unit=>Vy x.1):=ZQ.ofM (T:=KH) (ic:=Gp) (rs:=Jg) (E:=tvE) (sel:=b7m) OY Ua Tryz.func28 (by kernel_rfl) (by kernel_rfl) (by kernel_rfl) (c2l OY) c0z
theorem Bo:Z7 Tryz.prog Xk:=(tq Tryz.func176 a9f (tq Tryz.func105 Qn Zd))
theorem a5c{cd:Code}(h:KE Tryz.prog a7a Tryz.f160 0=some cd):JK Tryz.prog cd=some a8t:=by
 have:(KE Tryz.prog a7a Tryz.f160 0).bind (JK Tryz.prog)=some a8t:=by kernel_rfl
 rw[h]at this
 exact this
theorem c4e(args:List AV)(os:List AObj)(h:XO args os=true)(c:Ctx)(e : ∀ i m,os.length<=i->c.μ0 i m=none):b4z (Dv Bo Ua) (fun n cd=>KE Tryz.prog a7a Tryz.f160 n=some cd) Ty c:=by
 rintro n cd b st a w q hr ⟨rfl,g⟩
 have h2:os.length=2:=by
  unfold XO at h
  split at h
  ·rfl
  ·cases h
 rw[h2]at e
 exact b8g Bo Ua (a5c b) e hr g
theorem c3w:YO Tryz.prog 160 XO UY:=d7i (T:=Xk) (ic:=Xj) (rs:=Xi) (E:=Ty) (sel:=a7a) Bo Ua Tryz.func160 (by kernel_rfl) (by kernel_rfl) (by kernel_rfl) c4e b1x b5l
theorem c9l:YO Tryz.prog 160 XO Dm:=b9u c3w
theorem c9s:YO Tryz.prog 159 Us Dy:=Al (T:=Q7) (ic:=Uo) (rs:=Ux) Zd Ua Tryz.func159 (by kernel_rfl) (by kernel_rfl) (by kernel_rfl) c2x
theorem Q0:ZQ Tryz.prog 139 (fun x:Lin×Lin×Int×Unit=>ZR x.1&&ZR x.2.1) (fun x:Lin×Lin×Int×Unit=>ZI x.1 x.2.1 x.2.2.1):=dq Pq (tq Tryz.func105 Qn (tq Tryz.func159 c9s (tq Tryz.func160 c9l Zd))) Tryz.func139
theorem AU:ZQ Tryz.prog 113 (fun x:Lin×Lin×Unit=>ZR x.1&&ZR x.2.1) (fun x:Lin×Lin×Unit=>ZI x.1 x.2.1 1):=dq a5a (tq Tryz.func139 Q0 Zd) Tryz.func113
theorem Gv:ZQ Tryz.prog 112 (fun x:Lin×Int×Unit=>ZR x.1) (fun x:Lin×Int×Unit=>WI x.1 x.2.1):=dq L6 (tq Tryz.func139 Q0 Zd) Tryz.func112
theorem a4g:ZQ Tryz.prog 138 (fun _:Int×Unit=>true) (fun x:Int×Unit=>(⟨x.1,[]⟩:Lin)):=dq c0o Zd Tryz.func138
theorem SL:ZQ Tryz.prog 114 (fun x:Lin×Lin×Unit=>ZR x.1&&ZR x.2.1) (fun x:Lin×Lin×Unit=>ZI x.1 x.2.1 (-1)):=dq a5j (tq Tryz.func139 Q0 Zd) Tryz.func114
theorem OM:ZQ Tryz.prog 137 (fun _:Str×Unit=>true) (fun x:Str×Unit=>J8 x.1):=dq b9j Zd Tryz.func137
theorem Qo:ZQ Tryz.prog 98 (fun x:Str×Unit=>decide (x.1.s.length<=1048576)) (fun x:Str×Unit=>WW x.1):=dq c3r (tq Tryz.func95 Ji (tq Tryz.func123 Sg Zd)) Tryz.func98
theorem d2b:XM Tryz.prog 99 Dj TD:=Kl (T:=b1p) (ic:=Fg) (rs:=Oe) Zd Ua Tryz.func99 (by kernel_rfl) (by kernel_rfl) (by kernel_rfl) fun ps h=>a1s (c3y ps h)
theorem R5:ZQ Tryz.prog 64 (fun x:Str×Unit=>decide (x.1.s.length<=1048576)) (fun x:Str×Unit=>QA x.1):=dq b8z (tq Tryz.func89 Vn (tq Tryz.func90 c0g Zd)) Tryz.func64
theorem TT:ZQ Tryz.prog 66 (fun x:Str×Unit=>decide (x.1.s.length<=1048576)) (fun x:Str×Unit=>Xl x.1):=dq c2i (tq Tryz.func94 Qt (tq Tryz.func95 Ji (tq Tryz.func96 QC (tq Tryz.func72 Vl (tq Tryz.func97 JP (tq Tryz.func98 Qo (tq Tryz.func89 Vn (tq Tryz.func99 d2b Zd)))))))) Tryz.func66
theorem CZ:ZQ Tryz.prog 48 (fun _:Str×Unit=>true) (fun x:Str×Unit=>QF x.1):=dq c1z (tq Tryz.func64 R5 (tq Tryz.func65 b3t (tq Tryz.func66 TT Zd))) Tryz.func48
theorem d2w:XM Tryz.prog 124 R6 SV:=Kl (T:=Fb) (ic:=RG) (rs:=Pd) Zd Ua Tryz.func124 (by kernel_rfl) (by kernel_rfl) (by kernel_rfl) fun ps h=>a1s (b2y ps h)
theorem TG:ZQ Tryz.prog 101 (fun _:Str×Bool×Unit=>true) (fun x:Str×Bool×Unit=>Uj x.1 x.2.1):=dq b7g (tq Tryz.func124 d2w Zd) Tryz.func101
theorem YY: Z0 Tryz.prog 38 Zq Z9 [] [] (fun(s:PS) (a:Int×Unit)=>Zc s&&(decide (0<=a.1)&&decide (a.1<=1000))) WJ:=DU (b8j) ZL Zd Tryz.func38
theorem VX: Z0 Tryz.prog 50 Zq Z9 [] [] (fun(s:PS) (_:Unit)=>Zc s) U5:=DU (b9x) ZL (tq Tryz.func38 YY Zd) Tryz.func50
theorem Vd: Z0 Tryz.prog 37 Zq Z9 [] [] (fun(s:PS) (_:Str×Unit)=>Zc s) Vz:=DU (c2n) ZL (tq Tryz.func38 YY Zd) Tryz.func37
theorem XA: Z0 Tryz.prog 35 Zq Z9 [] [] (fun(s:PS) (_:Str×Unit)=>Zc s) VH:=DU (b8a) ZL (tq Tryz.func37 Vd Zd) Tryz.func35
theorem Qv: Z0 Tryz.prog 33 Zq Z9 [] [] (fun(s:PS) (_:Str×Unit)=>Zc s) KG:=DU (c3z) ZL (tq Tryz.func35 XA (tq Tryz.func50 VX Zd)) Tryz.func33
theorem KU: Z0 Tryz.prog 34 Zq Z9 [] [] (fun(s:PS) (_:Unit)=>Zc s) Kz:=DU (c3b) ZL (tq Tryz.func38 YY (tq Tryz.func50 VX Zd)) Tryz.func34
theorem Wd: Z0 Tryz.prog 100 Zq Z9 [] [] (fun(s:PS) (_:Int×Unit)=>Zc s) Gg:=DU (c3n) ZL (tq Tryz.func38 YY (tq Tryz.func98 Qo (tq Tryz.func50 VX Zd))) Tryz.func100
theorem CL: Z0 Tryz.prog 111 Zq Z9 [] [] (fun(s:PS) (_:Lin×Int×Unit)=>Zc s) Bw:=DU (c4f) ZL Zd Tryz.func111
theorem FK: Z0 Tryz.prog 110 Zq Z9 [] [] (fun(s:PS) (_:Unit)=>Zc s) Ae:=DU (b8c) ZL (tq Tryz.func38 YY (tq Tryz.func34 KU (tq Tryz.func137 OM (tq Tryz.func100 Wd (tq Tryz.func111 CL (tq Tryz.func112 Gv (tq Tryz.func138 a4g Zd))))))) Tryz.func110
theorem JM: Z0 Tryz.prog 79 Zq Z9 [] [] (fun(s:PS) (_:Unit)=>Zc s) PQ:=DU (b9y) ZL (tq Tryz.func35 XA (tq Tryz.func110 FK (tq Tryz.func111 CL (tq Tryz.func112 Gv (tq Tryz.func113 AU (tq Tryz.func114 SL (tq Tryz.func105 Qn Zd))))))) Tryz.func79
theorem Ni: Z0 Tryz.prog 78 (OV 79) BL [] [] (fun(s:PS) (_:Unit)=>Zc s) (Ws PS.linear):=DU (b9f) (TM _) (tq Tryz.func79 JM (tq Tryz.func35 XA Zd)) Tryz.func78
theorem Q4: Z0 Tryz.prog 127 Zq Z9 [] [] (fun(s:PS) (_:Unit)=>Zc s) Ct:=DU (c1p) ZL (tq Tryz.func34 KU (tq Tryz.func35 XA Zd)) Tryz.func127
theorem BH: Z0 Tryz.prog 69 Zq Z9 [] [] (fun(s:PS) (_:Unit)=>Zc s) BK:=DU (b8d) ZL (tq Tryz.func38 YY (tq Tryz.func101 TG Zd)) Tryz.func69
theorem TQ: Z0 Tryz.prog 153 a5f BL [.box [.ptr 1 0]] [] (fun(s:PS) (_:Unit)=>Zc s) Ag:=DU (b9b) OX (tq Tryz.func100 Wd Zd) Tryz.func153
theorem NH: Z0 Tryz.prog 152 (a2g 153) BL [] [.box [.ptr 0 0]] (fun(s:PS) (_:Unit)=>Zc s) (Ws PS.numM):=DU (c2d) (a0o _) (tq Tryz.func153 TQ (tq Tryz.func35 XA Zd)) Tryz.func152
theorem BJ: Z0 Tryz.prog 128 Zq Z9 [] [] (fun(s:PS) (_:Unit)=>Zc s) a2n:=DU (c2k) ZL (tq Tryz.func38 YY (tq Tryz.func33 Qv (tq Tryz.func100 Wd (tq Tryz.func37 Vd (tq Tryz.func35 XA Zd))))) Tryz.func128
theorem a3j{N:Nat}(a:Z0 Tryz.prog 26 Zq Z9 [] [] (fun(s:PS) (_:Unit)=>Zc s&&decide (s.l.length - s.i<N)) (QD N)):Z0 Tryz.prog 126 (OV 26) BL [] [] (fun(s:PS) (_:Unit)=>Zc s&&decide (s.l.length - s.i<N)) (Ws (ZT N)):=DU (c3i N) (TM _) (tq Tryz.func26 a (tq Tryz.func35 XA Zd)) Tryz.func126
theorem a4l{N:Nat}(a:Z0 Tryz.prog 126 (OV 26) BL [] [] (fun(s:PS) (_:Unit)=>Zc s&&decide (s.l.length - s.i<N)) (Ws (ZT N))):Z0 Tryz.prog 125 Zq Z9 [] [] (fun(s:PS) (_:Unit)=>Zc s&&decide (s.l.length - s.i<N+1)) (Uc N):=DU ((b3z N)) ZL (tq Tryz.func38 YY (tq Tryz.func127 Q4 (tq Tryz.func109 UC (tq Tryz.func37 Vd (tq Tryz.func35 XA (tq Tryz.func78 Ni (tq Tryz.func33 Qv (tq Tryz.func100 Wd (tq Tryz.func152 NH (tq Tryz.func126 a Zd)))))))))) Tryz.func125
theorem a4h{N:Nat}(b:Z0 Tryz.prog 26 Zq Z9 [] [] (fun(s:PS) (_:Unit)=>Zc s&&decide (s.l.length - s.i<N)) (QD N))(a:Z0 Tryz.prog 126 (OV 26) BL [] [] (fun(s:PS) (_:Unit)=>Zc s&&decide (s.l.length - s.i<N)) (Ws (ZT N)))(hn:Z0 Tryz.prog 125 Zq Z9 [] [] (fun(s:PS) (_:Unit)=>Zc s&&decide (s.l.length - s.i<N+1)) (Uc N)):Z0 Tryz.prog 102 Zq Z9 [] [] (fun(s:PS) (_:Unit)=>Zc s&&decide (s.l.length - s.i<N+1)) (CV N):=DU ((b9v N)) ZL (tq Tryz.func38 YY (tq Tryz.func100 Wd (tq Tryz.func125 hn (tq Tryz.func37 Vd (tq Tryz.func35 XA (tq Tryz.func26 b (tq Tryz.func33 Qv (tq Tryz.func126 a (tq Tryz.func127 Q4 (tq Tryz.func79 JM (tq Tryz.func128 BJ (tq Tryz.func50 VX Zd)))))))))))) Tryz.func102
theorem a1y{N:Nat}(hu:Z0 Tryz.prog 68 Zq Z9 [] [] (fun(s:PS) (_:Unit)=>Zc s&&decide (s.l.length - s.i<N)) (unF N))(a:Z0 Tryz.prog 102 Zq Z9 [] [] (fun(s:PS) (_:Unit)=>Zc s&&decide (s.l.length - s.i<N+1)) (CV N)):Z0 Tryz.prog 68 Zq Z9 [] [] (fun(s:PS) (_:Unit)=>Zc s&&decide (s.l.length - s.i<N+1)) (unF (N+1)):=DU ((c1u N)) ZL (tq Tryz.func38 YY (tq Tryz.func37 Vd (tq Tryz.func100 Wd (tq Tryz.func101 TG (tq Tryz.func68 hu (tq Tryz.func102 a Zd)))))) Tryz.func68
theorem Cx{N:Nat}(b:Z0 Tryz.prog 68 Zq Z9 [] [] (fun(s:PS) (_:Unit)=>Zc s&&decide (s.l.length - s.i<N+1)) (unF (N+1))): ∀ m:Nat,Z0 Tryz.prog 67 mkB unI [.box [.ptr 2 0],.box [.fn 67 [] [.ptr 0 0,.ptr 1 0]]] [] (fun(s:PS) (a:Int×Unit)=>(Zc s&&decide (s.l.length - s.i<N+1))&&(decide (1<=a.1)&&(decide ((6 - (m:Int))<a.1)&&decide (a.1<=6)))) (WP (N+1))
 | 0=>Z0.none (fun s a=>by
   rw[Bool.eq_false_iff]
   intro h
   simp only[Bool.and_eq_true,decide_eq_true_eq]at h
   omega)
 | m+1=>by
  have e:=Cx b m
  rw[show(6 - ((m+1:Nat):Int))=6 - (m:Int) - 1 by omega]
  exact DU (b7w N (6 - (m:Int))) Ru (tq Tryz.func68 b (tq Tryz.func67 e (tq Tryz.func69 BH Zd))) Tryz.func67
theorem a5d{N:Nat}(b:Z0 Tryz.prog 68 Zq Z9 [] [] (fun(s:PS) (_:Unit)=>Zc s&&decide (s.l.length - s.i<N+1)) (unF (N+1))):Z0 Tryz.prog 67 mkB unI [.box [.ptr 2 0],.box [.fn 67 [] [.ptr 0 0,.ptr 1 0]]] [] (fun(s:PS) (a:Int×Unit)=>(Zc s&&decide (s.l.length - s.i<N+1))&&(decide (1<=a.1)&&decide (a.1<=6))) (WP (N+1)):=Z0.weaken Ru (Cx b 6) (fun s a h=>by
  simp only[Bool.and_eq_true,decide_eq_true_eq]at h ⊢
  exact⟨h.1,h.2.1,by have:=h.2.1;show(6:Int) - 6<_;omega,h.2.2⟩) (fun _ _ _=>rfl)
theorem a3b{N:Nat}(hb:Z0 Tryz.prog 67 mkB unI [.box [.ptr 2 0],.box [.fn 67 [] [.ptr 0 0,.ptr 1 0]]] [] (fun(s:PS) (a:Int×Unit)=>(Zc s&&decide (s.l.length - s.i<N+1))&&(decide (1<=a.1)&&decide (a.1<=6))) (WP (N+1))):Z0 Tryz.prog 49 Zq Z9 [] [] (fun(s:PS) (_:Unit)=>Zc s&&decide (s.l.length - s.i<N+1)) (Om (N+1)):=DU ((c1g N)) ZL (tq Tryz.func67 hb Zd) Tryz.func49
theorem a5r{N:Nat}(a:Z0 Tryz.prog 26 Zq Z9 [] [] (fun(s:PS) (_:Unit)=>Zc s&&decide (s.l.length - s.i<N)) (QD N))(hb:Z0 Tryz.prog 49 Zq Z9 [] [] (fun(s:PS) (_:Unit)=>Zc s&&decide (s.l.length - s.i<N+1)) (Om (N+1))):Z0 Tryz.prog 26 Zq Z9 [] [] (fun(s:PS) (_:Unit)=>Zc s&&decide (s.l.length - s.i<N+1)) (QD (N+1)):=DU (c3x N) ZL (tq Tryz.func37 Vd (tq Tryz.func49 hb (tq Tryz.func38 YY (tq Tryz.func34 KU (tq Tryz.func33 Qv (tq Tryz.func26 a Zd)))))) Tryz.func26
theorem O6: ∀ N:Nat,Z0 Tryz.prog 26 Zq Z9 [] [] (fun(s:PS) (_:Unit)=>Zc s&&decide (s.l.length - s.i<N)) (QD N)∧Z0 Tryz.prog 68 Zq Z9 [] [] (fun(s:PS) (_:Unit)=>Zc s&&decide (s.l.length - s.i<N)) (unF N)
 | 0=>⟨Z0.none (fun s a=>by simp),Z0.none (fun s a=>by simp)⟩
 | N+1=>by
  obtain⟨e,hu⟩:=O6 N
  have g:=a3j e
  have b:=a1y hu (a4h e g (a4l g))
  exact⟨a5r e (a3b (a5d b)),b⟩
theorem F8:Z0 Tryz.prog 26 Zq Z9 [] [] (fun(s:PS) (_:Unit)=>Zc s) Tj:=Z0.weaken ZL (O6 4001).1 (fun s a h=>by
  have h0:=(ZF h).1
  rw[h]
  exact decide_eq_true (by omega)) (fun _ _ _=>rfl)
theorem a1v: Z0 Tryz.prog 27 Zq Z9 [] [] (fun(s:PS) (_:Unit)=>Zc s) SB:=DU (c0s) ZL (tq Tryz.func50 VX Zd) Tryz.func27
theorem d4i:YO Tryz.prog 25 Gc TL:=Al (T:=En) (ic:=TZ) (rs:=Tz) (tq Tryz.func48 CZ Zd) Ua Tryz.func25 (by kernel_rfl) (by kernel_rfl) (by kernel_rfl) c1b
theorem OU:ZQ Tryz.prog 11 (fun x:Str×Unit=>decide (x.1.s.length<=1048576)) (fun x:Str×Unit=>Yc x.1):=dq b9g (tq Tryz.func25 d4i (tq Tryz.func26 F8 (tq Tryz.func27 a1v (tq Tryz.func28 KI Zd)))) Tryz.func11
theorem a5q:ZQ Tryz.prog 29 (fun x:List Int×List Int×Unit=>decide (x.1.length<=1048576)) (fun x:List Int×List Int×Unit=>decide (x.1=x.2.1)):=dq c4k Zd Tryz.func29
theorem a5b:ZQ Tryz.prog 30 (fun x:Lin×Lin×Unit=>decide (x.1.t.length<=1048576)) (fun x:Lin×Lin×Unit=>decide (x.1=x.2.1)):=dq c3j Zd Tryz.func30
theorem Ry:ZQ Tryz.prog 13 (fun x:Tm×Tm×Unit=>tW x.1&&tW x.2.1) (fun x:Tm×Tm×Unit=>R7 x.1 x.2.1):=ZQ.rec (fun a=>Kw a.1) fun N b=>dq (c3e N) (tq Tryz.func29 a5q (tq Tryz.func30 a5b (tq Tryz.func13 b Zd))) Tryz.func13
theorem Mc:ZQ Tryz.prog 11 (fun x:Str×Unit=>decide (x.1.s.length<=1048576)) (fun x:Str×Unit=>r3S (Yc x.1)):=OU.encEq fun a=>b9o _
noncomputable def ivC(f:Nat):Option (IC×Nat×List IRes):=a3g Tryz.prog f
theorem Ro:ZQ Tryz.prog 9 (fun _:Unit=>true) (fun _:Unit=>true):=ZQ.iv (C:=ivC) (fun _ _ h=>h) (Gr CZ Tryz.func48 (by kernel_rfl) (Gr Qo Tryz.func98 (by kernel_rfl) (Gr UC Tryz.func109 (by kernel_rfl) (Gr TG Tryz.func101 (by kernel_rfl) (Gr AU Tryz.func113 (by kernel_rfl) (Gr SL Tryz.func114 (by kernel_rfl) (Gr J4 Tryz.func105 (by kernel_rfl) (Gr KI Tryz.func28 (by kernel_rfl) Zd)))))))) Ua 50 60 (fun _ _=>⟨.bool true,by kernel_rfl,rfl,rfl⟩)
theorem Bu:ZQ Tryz.prog 10 (fun _:Unit=>true) (fun _:Unit=>XN):=ZQ.of (T:=OO) (ic:=TK) (rs:=RA) Zd Ua Tryz.func10 (by kernel_rfl) (by kernel_rfl) (by kernel_rfl) b4j
theorem RX:ZQ Tryz.prog 12 (fun _:Int×Unit=>true) (fun x:Int×Unit=>Yz x.1):=ZQ.of (T:=RY) (ic:=Dh) (rs:=DC) Zd Ua Tryz.func12 (by kernel_rfl) (by kernel_rfl) (by kernel_rfl) a5u
theorem Kv:ZQ Tryz.prog 3 (fun _:UInt8×UInt8×Unit=>true) (fun _:UInt8×UInt8×Unit=>true):=ZQ.of (T:=FN) (ic:=Rp) (rs:=Ra) (V9 (ent Tryz.func9 (by kernel_rfl) Ro) (V9 (ent Tryz.func10 (by kernel_rfl) Bu) (V9 (ent Tryz.func11 (by kernel_rfl) Mc) (V9 (ent Tryz.func12 (by kernel_rfl) RX) (V9 (ent Tryz.func13 (by kernel_rfl) Ry) Zd))))) Ua Tryz.func3 (by kernel_rfl) (by kernel_rfl) (by kernel_rfl) a6r
end Go.Proofs.YtgclceacfcdigaaGreatDoor
