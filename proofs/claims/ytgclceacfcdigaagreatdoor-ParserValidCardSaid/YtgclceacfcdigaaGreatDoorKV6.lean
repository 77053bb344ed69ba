/-
  Texts of mine that belong together (packed by pack.py), for every input: Post, LaidZ, PlGb, OpYa, ShV, Sh, ShB, ShN, ShW, Cl, OkYa, OkJy.
-/
import Derived.Test.YtgclceacfcdigaaGreatDoorChecked
import Derived.Test.YtgclceacfcdigaaGreatDoorRows
import Derived.Test.YtgclceacfcdigaaGreatDoorKV2
import Derived.Test.YtgclceacfcdigaaGreatDoorKV3
import Derived.Test.YtgclceacfcdigaaGreatDoorKV4
import Derived.Test.YtgclceacfcdigaaGreatDoorKV5
import Derived.Below
import Derived.ChangeSame
import Derived.Stop.LaidErr
import Derived.Lib.LaidTab
import Derived.Shelf.Vars
import Derived.KernelRfl
import Derived.Shelf.Strings.Cut
import Derived.Shelf.Strings.Count
import Derived.Shelf.Small.Strs
import Derived.Shelf.Strconv.AtoiAll
import Derived.Shelf.Strconv.Itoa3
import Derived.Shelf.Strings.Prefix
import Derived.Shelf.Sort.Plain
import Derived.Shelf.Slices.In.SortNone
import Derived.Shelf.Strings.SlTrimAscii
import Derived.WalkKit
import Derived.Deep.LoopGhost
import Derived.Lib.Walk
import Derived.Lib.SliceRun
set_option linter.unusedVariables false
set_option linter.unusedSimpArgs false
set_option linter.defProp false
namespace Go.Proofs.YtgclceacfcdigaaGreatDoor
open Go.RowKit Go.WideShapes Go.ChangeShapes
section
section
variable {H:Type} {enc:TypeId×Value->H} {P:Program}
theorem LC{f:Func}{s:ChangeSpec}{apart fresh i q:Bool}{W W':World}{args:Array Value}{v:Value}{ds y:List (DataW H)}{a pa pv:List MemPlace}
  (B:DataW.Whole enc P f.params.toList s.vars apart W args.toList ds y a)
  (k : ∀ (b:Nat) (sp:Nat->Bool) (hd:Bool),DataW.TrodAll enc P W' b sp hd f.resultTypes.toList (v.resultList f.resultTypes.size) (s.fn H (ds++y)).results [])
  (g : ∀ sp:Nat->Bool,(∀ p∈a,sp p.block=true)->DataW.TrodAll enc P W' 0 sp true f.params.toList args.toList (s.fn H (ds++y)).args pa)
  (h : ∀ sp:Nat->Bool,(∀ p∈a,sp p.block=true)->DataW.TrodVars enc P W' sp s.vars (s.fn H (ds++y)).vars pv)
  (hps:a=pa++pv) (hb:Below W.heap.size W W')
  (A : ∀ (j:Nat) (t:TypeId) (r:Value),f.resultTypes[j]? = some t->(v.resultList f.resultTypes.size)[j]? = some r->Value.okWide P W' .any 0 t r) :
  s.post enc P f apart fresh i q W args v W':=by
 have u : ∀ p∈a,p.block<W.heap.size:=fun p e=>B.lt p e
 have l : ∀ p∈a,(fun b=>decide (b<W.heap.size)) p.block=true:=fun p e=>by simpa using u p e
 refine⟨ds,y,a,[],pa,pv,B,k _ _ _,g _ l,h _ l,World.keptBut_mono (fun p e=>⟨e,?_⟩) (hb.frame (· ∈ a)),fun _=> ?_⟩
 ·rw[hps,List.mem_append]at e
  exact Or.inr e
 ·obtain⟨_,_,_,_,_,C,hn⟩:=B
  refine⟨A,_,_,([]++pa)++pv,⟨[]++pa,pv,trodAll_append (g _ (fun _ _=>rfl)) (k _ _ _),h _ (fun _ _=>rfl),rfl,?_,?_⟩,?_⟩
  ·intro b off e
   have z:MemPlace.cell b off∈a:=by rw[hps];simpa using e
   rw[hb.frozen (u _ z)]
   exact C b off z
  ·intro ha
   have:=hn ha
   rw[hps]at this
   simpa using this
  ·intro p e _
   rw[hps]
   simpa using e
end
end
end Go.Proofs.YtgclceacfcdigaaGreatDoor
namespace Go.Proofs.YtgclceacfcdigaaGreatDoor
open Go.Pl Go.RowKit Go.ChangeShapes
set_option maxRecDepth 100000
theorem c4w{P:Program}{W:World}{n:String}{g:Nat}{cs:Array Value}(a:P.globalNamed n=some g)(h:W.var? P n=some cs):R4 W g=some cs:=by
 unfold World.var? at h
 rw[a]at h
 simp only[Option.bind_some]at h
 unfold R4
 exact h
theorem f6q:Tryz.prog.globalNamed "internal/strconv.uint64pow10" = some 5:=by kernel_rfl
theorem g6a:Tryz.prog.globalNamed "strconv.ErrRange" = some 2:=by kernel_rfl
theorem g5j:Tryz.prog.globalNamed "strconv.ErrSyntax" = some 1:=by kernel_rfl
theorem c7k:Tryz.prog.underlying 141=some (.interface ((match Tryz.prog.underlying 141 with|some (.interface ms)=>ms|_=>#[]))):=by kernel_rfl
theorem g3g{W:World}{r:List (String×DataW Unit)}(h:laidMet Tryz.prog (("internal/strconv.uint64pow10",Rows.laid_internal_strconv_uint64pow10)::r) W):R4 W 5=some NW:=by
 have h1:Lib.TabIs Tryz.prog W "internal/strconv.uint64pow10" .u64 ((List.range 20).map fun i=>((10 ^ i:Nat):Int)):=Lib.tabIs_of_head (e:=198) (t:=232) f6q (by kernel_rfl) (n:=20) (by kernel_rfl) (by kernel_rfl) (by kernel_rfl) (by kernel_rfl) h
 exact(c4w f6q h1).trans rfl
theorem d5k{W:World}{n:String}{g:Nat}{text:List UInt8}{r:List (String×DataW Unit)}(hg:Tryz.prog.globalNamed n=some g)(ht:(Tryz.prog.globals[g]?).map (·.type)=some 141)(h:laidMet Tryz.prog ((n,.iface "*errors.errorString" (.ptr (.agg [.lit (.string text)])))::r) W): ∃ cs,R4 W g=some cs∧PR cs:=by
 obtain⟨ps,⟨g0,t0,cs0,f0,p0,q0,hg0,ht0,hv0,hd0,_,e0⟩,_,hrows⟩:=h
 obtain rfl:=Option.some.inj (hg.symm.trans hg0)
 obtain rfl:=Option.some.inj (ht.symm.trans ht0)
 subst e0
 refine⟨cs0,c4w hg hv0,?_⟩
 obtain⟨f1,u,v,e,_⟩:=iface_of_trod c7k hd0
 obtain⟨l0⟩:=cs0
 have e:l0=[.iface u v]:=e
 subst e
 exact⟨_,rfl,.inr ⟨u,v,rfl⟩⟩
theorem g8h{W:World}(h:W.ShapedOpen Tryz.prog): ∃ cs m,R4 W 0=some cs∧cs[0]? = some (Value.int .i64 m):=by
 obtain⟨m,hm⟩:=cell_of_shapedOpen_int (g:=0) (t:=3) (zero:=#[.int .i64 0]) (k:=.i64) h (of_decide_eq_true (by kernel_rfl)) (by kernel_rfl) rfl (by kernel_rfl) (by kernel_rfl) (by kernel_rfl)
 unfold World.cell? at hm
 unfold R4
 split at hm
 ·rename_i cs T fz a
  exact⟨cs,m,by simp only[a],by simpa using hm⟩
 ·cases hm
theorem e6j{W:World}{x y z:String×DataW Unit}{r:List (String×DataW Unit)}(h:laidMet Tryz.prog (x::y::("internal/strconv.uint64pow10",Rows.laid_internal_strconv_uint64pow10)::z::("strconv.ErrRange",Rows.laid_strconv_ErrRange)::("strconv.ErrSyntax",Rows.laid_strconv_ErrSyntax)::r) W)(hs:W.ShapedOpen Tryz.prog):GlobOK (R4 W):=
 ⟨d5k g5j (by kernel_rfl) h.tail.tail.tail.tail.tail,d5k g6a (by kernel_rfl) h.tail.tail.tail.tail,g3g h.tail.tail,g8h hs⟩
noncomputable def g5n:DataW Unit->Value
 | .lit (.int k n)=>.int k n
 | _=>.int .i64 0
noncomputable def Nh:DataW Unit->Array Value
 | .agg ds=>(ds.flatMap fun | .agg es=>es.map g5n|d=>[g5n d]).toArray
 | _=>#[]
noncomputable def e2h:DataW Unit->ByteArray
 | .iface _ (.ptr (.agg [.lit (.string bs)]))=>⟨bs.toArray⟩
 | _=>⟨#[]⟩
noncomputable def low:Nat:=(World.holding Tryz.prog default ⟨#[],#[],[]⟩).heap.size
noncomputable def b1z(cs:Array Value):Obj->Obj
 | .cells _ t frozen=>.cells cs t frozen
 | o=>o
noncomputable def Sn(os:Os):World:=
 let w0:=World.holding Tryz.prog os ⟨#[.cells #[.string (e2h Rows.laid_strconv_ErrRange)] 212,.cells #[.string (e2h Rows.laid_strconv_ErrSyntax)] 212],#[],[]⟩
 {w0 with heap:=((((((w0.heap.modify 2 (b1z #[.iface 210 (.pointer (some ⟨low,0,none⟩))])).modify 1 (b1z #[.iface 210 (.pointer (some ⟨low+1,0,none⟩))])).modify 5 (b1z (Nh Rows.laid_internal_strconv_uint64pow10))).modify 6 (b1z (Nh Rows.laid_math_bits_deBruijn32tab))).modify 7 (b1z (Nh Rows.laid_math_bits_deBruijn64tab))).modify 4 (b1z (Nh Rows.laid_unicode_utf8_acceptRanges))).modify 3 (b1z (Nh Rows.laid_unicode_utf8_first))}
end Go.Proofs.YtgclceacfcdigaaGreatDoor
namespace Go.Pl
open Go.RowKit Go.WideShapes Go.ChangeShapes
section
abbrev uB{H:Type}(d:DataW H):Nat:=Go.Proofs.YtgclceacfcdigaaGreatDoor.Rows.uptoBulk d
abbrev uBs{H:Type}(l:List (DataW H)):Nat:=Go.Proofs.YtgclceacfcdigaaGreatDoor.Rows.uptoBulkAll l
theorem a8n{H:Type}(d:DataW H)(l:List (DataW H)):uBs (d::l)=uB d+uBs l:=by unfold uBs uB;rw[Go.Proofs.YtgclceacfcdigaaGreatDoor.Rows.uptoBulkAll]
theorem b3l{H:Type}(d:DataW H):1<=uB d:=by
 cases d with
 | lit l=>cases l <;> simp[uB,Go.Proofs.YtgclceacfcdigaaGreatDoor.Rows.uptoBulk]
 | _=>simp[uB,Go.Proofs.YtgclceacfcdigaaGreatDoor.Rows.uptoBulk]
mutual
def pvW:PV->Nat
 | .str s=>s.length+1
 | .sl _ _ xs=>VC xs+1
 | .agg xs=>VC xs
 | _=>1
def VC:List PV->Nat
 | []=>0
 | p::ps=>pvW p+VC ps
end
theorem e2v(a b:List PV):VC (a++b)=VC a+VC b:=by
 induction a with
 | nil=>simp[VC]
 | cons x a ih=>rw[List.cons_append,VC,ih,VC];omega
theorem g5a{P:Program}{e:TypeId}{q:List PV}(a:Wh P e=true∨P.cellsOf e=1)(b:q.length=P.cellsOf e):pvW (R8 P e q)<=VC q:=by
 cases ha:Wh P e with
 | true=>simp only[R8,ha];rw[pvW];exact Nat.le_refl _
 | false=>
  have h1:P.cellsOf e=1:=by simpa [ha]using a
  rw[h1]at b
  match q,b with
  | [x],_=>simp only[R8,ha,List.headD_cons];rw[VC,VC];exact Nat.le_refl _
theorem c2j{H:Type}{f:List PV->PV}: ∀ {qs:List (List PV)} {xs:List (DataW H×List MemPlace)},qs.length=xs.length->(∀ (i:Nat) (q:List PV) (x:DataW H×List MemPlace),qs[i]? = some q->xs[i]? = some x->pvW (f q)<=uB x.1)->VC (qs.map f)<=uBs (xs.map (·.1))
 | [],[],_,_=>by simp[VC]
 | q::qs,x::xs,hl,h=>by
  have h0:=h 0 q x rfl rfl
  have h1:=c2j (qs:=qs) (xs:=xs) (by simpa using hl) fun i q x b a=>h (i+1) q x (by simpa using b) (by simpa using a)
  rw[List.map_cons,VC,List.map_cons,a8n]
  omega
 | [],_::_,hl,_=>by cases hl
 | _::_,[],hl,_=>by cases hl
def d1o(P:Program)(S:List TypeId):Bool:=S.all fun t=>match P.underlying t with|some (.array _ _)=>false|_=>true
section
variable {H:Type} {enc:TypeId×Value->H} {P:Program} {w:World} {base:Nat} {sp:Nat->Bool} {held:Bool} {S:List TypeId}
theorem a0a{n:Nat}{cs:List Value}(r : ∀ (t:TypeId) (cs:List Value) (x:DataW H×List MemPlace),t∈S->DataW.trod enc P w base sp held n t cs=some x-> ∃ ps,Cl w cs ps∧H7 P n t ps∧VC ps<=uB x.1):
  ∀ (b:List Field) (o N:Nat) (xs:List (DataW H×List MemPlace)),JI P o b N=true->(∀ f∈b,f.type∈S)->cs.length=N->o<=N ->
   b.mapM (fun f=>DataW.trod enc P w base sp held n f.type ((cs.drop f.offset).take (P.cellsOf f.type)))=some xs ->
   ∃ ps,Cl w (cs.drop o) ps∧VC ps<=uBs (xs.map (·.1))∧ ∀ qs:List PV,qs.length=o->(∀ f∈b,H7 P n f.type (((qs++ps).drop f.offset).take (P.cellsOf f.type))):=by
 intro b
 induction b with
 | nil=>
  intro o N xs hc _ y ho _
  simp[JI]at hc
  refine⟨[],?_,by simp[VC],fun qs _ f E=>by simp at E⟩
  rw[List.drop_of_length_le (by omega)]
  exact Cl.nil
 | cons f b ihf=>
  intro o N xs hc hm y ho h
  simp only[JI,Bool.and_eq_true,beq_iff_eq]at hc
  obtain⟨i,hc⟩:=hc
  simp only[List.mapM_cons,Option.bind_eq_bind,Option.bind_eq_some_iff]at h
  obtain⟨x,F,s,q,e⟩:=h
  cases e
  obtain⟨l,z,D,w1⟩:=r _ _ x (hm f List.mem_cons_self) F
  have u:o+P.cellsOf f.type<=N:=by
   have : ∀ (b:List Field) (a:Nat),JI P a b N=true->a<=N:=by
    intro b
    induction b with
    | nil=>intro a h;simp[JI]at h;omega
    | cons g b r=>intro a h;simp only[JI,Bool.and_eq_true]at h;have:=r _ h.2;omega
   exact this _ _ hc
  obtain⟨C,B,w2,I⟩:=ihf (o+P.cellsOf f.type) N s hc (fun g k=>hm g (List.mem_cons_of_mem _ k)) y u q
  have j:l.length=P.cellsOf f.type:=by
   rw[<- z.1.1,List.length_take,List.length_drop,i]
   omega
  refine⟨l++C,?_,by rw[e2v,List.map_cons,a8n];omega,fun qs A g k=> ?_⟩
  ·have:=z.append B
   rw[i]at this
   have e:cs.drop o=(cs.drop o).take (P.cellsOf f.type)++cs.drop (o+P.cellsOf f.type):=by rw[<- List.drop_drop,List.take_append_drop]
   rw[e]
   exact this
  ·rcases List.mem_cons.1 k with rfl|k
   ·rw[i,<- A,List.drop_left,<- j,List.take_left]
    exact D
   ·have:=I (qs++l) (by simp[A,j]) g k
    rwa [List.append_assoc]at this
theorem a8f{n:Nat}{e:TypeId}{a:Addr}{len cap:Nat}{xs:List (DataW H×List MemPlace)}(E:0<P.cellsOf e)(C:Wh P e=true∨P.cellsOf e=1)(J:len<=cap)(hmax:cap<=maxLen)
  (Y : ∀ (cs:List Value) (x:DataW H×List MemPlace),DataW.trod enc P w base sp held n e cs=some x-> ∃ ps,Cl w cs ps∧H7 P n e ps∧VC ps<=uB x.1)
  (h:(List.range len).mapM (fun i=>(w.cells? base (a.add (i*P.cellsOf e)) (P.cellsOf e)).bind (DataW.trod enc P w base sp held n e))=some xs) :
  ∃ qs:List (List PV),RP (R4 w) (.slice (some a) len cap) (.sl (P.cellsOf e) false (qs.map (R8 P e)))∧qs.length<=maxLen∧(∀ q∈qs,q.length=P.cellsOf e∧H7 P n e q)∧VC (qs.map (R8 P e))<=uBs (xs.map (·.1)):=by
 obtain⟨V,hg⟩:=a7d h
 rw[List.length_range]at V
 have M : ∀ i,i<len-> ∃ q:List PV,(q.length=P.cellsOf e∧H7 P n e q∧ ∃ x,xs[i]? = some x∧VC q<=uB x.1)∧ ∀ (r:Nat) p,q[r]? = some p-> ∃ v,w.cell? (a.add (i*P.cellsOf e+r))=some v∧v.oneCell'=true∧RP (R4 w) v p:=by
  intro i hi
  have B:=List.getElem?_eq_getElem (show i<xs.length by omega)
  have:=hg i i _ (by simp[hi]) B
  rw[Option.bind_eq_some_iff]at this
  obtain⟨cs,h1,h2⟩:=this
  obtain⟨q,L,Z,W⟩:=Y cs _ h2
  obtain⟨c1,X⟩:=d0r h1
  refine⟨q,⟨by rw[<- L.1.1,c1],Z,_,B,W⟩,fun r p l=> ?_⟩
  have hr:r<cs.length:=by rw[L.1.1];exact(List.getElem?_eq_some_iff.1 l).1
  have z:=List.getElem?_eq_getElem hr
  refine⟨_,?_,L.2 _ (List.getElem_mem hr),L.1.2 r _ p z l⟩
  rw[<- c6r]
  exact X r _ z
 obtain⟨qs,s,k⟩:=a6b len M
 have g : ∀ q∈qs,(R8 P e q).cells=q:=by
  intro q A
  obtain⟨i,hi,rfl⟩:=List.getElem_of_mem A
  have:=(k i _ (List.getElem?_eq_getElem hi)).1
  exact c7x C this.1 fun ha=>d6a this.2.1 ha
 refine⟨qs,?_,by omega,fun q A=> ?_,?_⟩
 ·by_cases h0:len=0
  ·subst h0
   have:qs=[]:=List.length_eq_zero_iff.1 s
   subst this
   exact .sl0 _ _ _ _ fun e=>by cases e
  ·-- the first cell tells the block
   obtain⟨b,off,cs,rfl,hb,-⟩ : ∃ b off cs,a=⟨b,off,none⟩∧R4 w b=some cs∧True:=by
    have O:=List.getElem?_eq_getElem (show 0<qs.length by omega)
    obtain⟨⟨f1,f2,-⟩,f3⟩:=k 0 _ O
    have l:=List.getElem?_eq_getElem (show 0<(qs[0]'(by omega)).length by omega)
    obtain⟨v,z,_⟩:=f3 0 _ l
    simp[Addr.add]at z
    obtain⟨b,off,cs,N,K,_⟩:=Oc z
    exact⟨b,off,cs,N,K,trivial⟩
   have hs : ∀ x∈qs.map (R8 P e),x.cells.length=P.cellsOf e:=by
    intro x B
    obtain⟨q,A,rfl⟩:=List.mem_map.1 B
    rw[g q A]
    obtain⟨i,hi,rfl⟩:=List.getElem_of_mem A
    exact(k i _ (List.getElem?_eq_getElem hi)).1.1
   have F : ∀ (j:Nat) p,(flat (qs.map (R8 P e)))[j]? = some p-> ∃ v,cs[off+j]? = some v∧v.oneCell'=true∧RP (R4 w) v p:=by
    intro j p l
    have hj:j<len*P.cellsOf e:=by
     have:=(List.getElem?_eq_some_iff.1 l).1
     rw[Vf hs]at this
     simpa [s]using this
    have hi:j / P.cellsOf e<qs.length:=by rw[s];exact(Nat.div_lt_iff_lt_mul E).2 hj
    have hr:j % P.cellsOf e<P.cellsOf e:=Nat.mod_lt _ E
    have D:=List.getElem?_eq_getElem hi
    have U:j=j / P.cellsOf e*P.cellsOf e+j % P.cellsOf e:=by rw[Nat.mul_comm];exact(Nat.div_add_mod _ _).symm
    have Q:(qs.map (R8 P e))[j / P.cellsOf e]? = some (R8 P e qs[j / P.cellsOf e]):=by rw[List.getElem?_map,D];rfl
    have I:=a9e hs Q hr
    rw[<- U,g _ (List.getElem_mem hi)]at I
    rw[I]at l
    obtain⟨v,z,h1,h2⟩:=(k _ _ D).2 _ p l
    rw[<- U,WN]at z
    obtain⟨b',off',cs',N,K,e3⟩:=Oc z
    cases N
    rw[hb]at K
    cases K
    exact⟨v,e3,h1,h2⟩
   have u:len=(qs.map (R8 P e)).length:=by simp[s]
   rw[u]
   refine .sl b off cs cap _ false _ (fun j=>(cs[off+j]?).getD default) hb (by rw[<- u];exact J) (fun e=>by cases e) hs (fun j p l=> ?_) (fun j p l=> ?_)
   ·obtain⟨v,h1,h2,h3⟩:=F j p l
    rw[h1]
    exact⟨rfl,h2⟩
   ·obtain⟨v,h1,h2,h3⟩:=F j p l
    rw[h1]
    exact h3
 ·obtain⟨i,hi,rfl⟩:=List.getElem_of_mem A
  have:=(k i _ (List.getElem?_eq_getElem hi)).1
  exact⟨this.1,this.2.1⟩
 ·refine c2j (by rw[s,V]) fun i q x A B=> ?_
  have:=(k i q A).1
  obtain⟨y,T,hw⟩:=this.2.2
  rw[B]at T
  cases T
  have hm:=g5a (P:=P) (e:=e) (q:=q) C this.1
  omega
theorem b3a(u:a0u P S=true)(A:d1o P S=true): ∀ (n:Nat) (t:TypeId) (cs:List Value) (x:DataW H×List MemPlace),t∈S->DataW.trod enc P w base sp held n t cs=some x-> ∃ ps,Cl w cs ps∧H7 P n t ps∧VC ps<=uB x.1:=by
  intro n
  induction n with
  | zero=>intro t cs x _ h;simp[DataW.trod]at h
  | succ n ih=>
    intro t cs x ht h
    have b:=O3 u ht
    have i:=List.all_eq_true.1 A t ht
    unfold DataW.trod at h
    unfold H7
    split at h <;> (try rename_i hu) <;> (try simp only[hu]at b i ⊢) <;> try (cases b;done)
    all_goals first
      | (exact⟨_,Cl.one (.bool _) rfl,⟨_,rfl⟩,b3l _⟩)
      | (split at h
         · rename_i hc
           obtain⟨rfl,B⟩:=hc
           exact⟨_,Cl.one (.int _ _) rfl,⟨_,rfl,B⟩,b3l _⟩
         · cases h)
      | (split at h
         · rename_i hc
           cases h
           refine⟨_,Cl.one (.str _) rfl,⟨_,rfl,hc⟩,?_⟩
           show VC [PV.str _]<=Go.Proofs.YtgclceacfcdigaaGreatDoor.Rows.uptoBulk (DataW.lit (.string _))
           rw[Go.Proofs.YtgclceacfcdigaaGreatDoor.Rows.uptoBulk,VC,VC,pvW]
           omega
         · cases h)
      | (cases h;done)
      | (cases i;done)
      | skip
    · exact⟨_,Cl.one (.sl0 _ _ _ false (fun e=>by cases e)) rfl,⟨[],rfl,by simp,fun q s=>by simp at s⟩,b3l _⟩
    · rename_i e a len cap
      simp only[Bool.and_eq_true,Bool.or_eq_true,beq_iff_eq,decide_eq_true_eq]at b
      simp only at h
      split at h
      · rename_i hc
        obtain⟨xs,h1,h3⟩:=Option.bind_eq_some_iff.1 h
        obtain⟨ys,h4,rfl⟩:=Option.map_eq_some_iff.1 h3
        obtain⟨qs,g,k,l,y⟩:=a8f b.1.2 b.2 hc.2.1 hc.2.2 (fun cs x z=>ih e cs x (by simpa using b.1.1.2) z) h1
        refine⟨_,Cl.one g rfl,⟨qs,rfl,k,l⟩,?_⟩
        show VC [PV.sl _ false (qs.map (R8 P e))]<=Go.Proofs.YtgclceacfcdigaaGreatDoor.Rows.uptoBulk (DataW.slice (xs.map (·.1)) (ys.map (·.1)))
        rw[Go.Proofs.YtgclceacfcdigaaGreatDoor.Rows.uptoBulk,VC,VC,pvW]
        have:VC (qs.map (R8 P e))<=Go.Proofs.YtgclceacfcdigaaGreatDoor.Rows.uptoBulkAll (xs.map (·.1)):=y
        omega
      · cases h
    · rename_i cs2 r
      simp only[Bool.and_eq_true]at b
      split at h
      · rename_i hc
        rw[Option.map_eq_some_iff]at h
        obtain⟨xs,h1,rfl⟩:=h
        obtain⟨ps,g,l,k⟩:=a0a ih r.toList 0 (P.cellsOf t) xs b.1 (fun f j=>by simpa using List.all_eq_true.1 b.2 f j) hc (Nat.zero_le _) h1
        rw[List.drop_zero]at g
        refine⟨ps,g,⟨by rw[<- g.1.1,hc],fun f j=>by simpa using k [] rfl f j⟩,?_⟩
        show VC ps<=Go.Proofs.YtgclceacfcdigaaGreatDoor.Rows.uptoBulk (DataW.agg (xs.map (·.1)))
        rw[Go.Proofs.YtgclceacfcdigaaGreatDoor.Rows.uptoBulk]
        have:VC ps<=Go.Proofs.YtgclceacfcdigaaGreatDoor.Rows.uptoBulkAll (xs.map (·.1)):=l
        omega
      · cases h
theorem c8g(u:a0u P S=true)(B:d1o P S=true){t:TypeId}(ht:t∈S){r:Reach}{b0:Nat}{v:Value}{d:DataW H}{p:List MemPlace}(e:Value.okWide P w r b0 t v)(h:DataW.Trod enc P w base sp held t v d p):
  ∃ n q,RP (R4 w) v (R8 P t q)∧H7 P n t q∧VC q<=uB d:=by
 obtain⟨n,h⟩:=h
 obtain⟨q,i,A,C⟩:=b3a u B n t _ _ ht h
 refine⟨n,q,?_,A,C⟩
 have s:=O3 u ht
 have g:v.cells = #[v]->Wh P t=false->RP (R4 w) v (R8 P t q):=by
  intro hc ha
  rw[hc]at i
  have D:=i.1.1
  match q,D with
  | [x],_=>simp only[R8,ha,List.headD_cons];exact i.1.2 0 v x rfl rfl
 have agg : ∀ cs,v = .agg cs->Wh P t=true->RP (R4 w) v (R8 P t q):=by
  rintro cs rfl ha
  simp only[R8,ha]
  exact .agg cs q (by have:=i.1.1;simpa [Value.cells]using this) (fun x k=>i.2 x (by simpa [Value.cells]using k)) fun j x y k z=>i.1.2 j x y (by simpa [Value.cells]using k) z
 split at s
 ·rename_i hu
  obtain⟨b,rfl⟩:=okWide_bool hu e
  exact g rfl (by simp[Wh,hu])
 ·rename_i hu
  obtain⟨b,rfl⟩:=okWide_int hu e
  exact g rfl (by simp[Wh,hu])
 ·rename_i hu
  obtain⟨b,rfl⟩:=okWide_string hu e
  exact g rfl (by simp[Wh,hu])
 ·rename_i hu
  obtain⟨a,l,c,rfl⟩:=okWide_slice hu e
  exact g rfl (by simp[Wh,hu])
 ·rename_i hu
  simp only[Value.okWide,hu]at e
  obtain⟨cs,rfl,_⟩:=e
  exact agg cs rfl (by simp[Wh,hu])
 ·rename_i hu
  simp only[Value.okWide,hu]at e
  obtain⟨cs,rfl,_⟩:=e
  exact agg cs rfl (by simp[Wh,hu])
 ·cases s
end
end
end Go.Pl
namespace Go.Proofs.YtgclceacfcdigaaGreatDoor
open Go.Pl
section
set_option maxRecDepth 100000
open Enc (enc dec is)
open EncL (encL decL isL)
theorem e7j:Tryz.prog.underlying 9=some .string:=by kernel_rfl
theorem f7f:Wh Tryz.prog 9=false:=by kernel_rfl
theorem e5c{n:Nat}{q:List PV}(h:H7 Tryz.prog n 9 q): ∃ s:Str,R8 Tryz.prog 9 q=enc s:=by
 obtain⟨s,a,_⟩:=d7n e7j h
 exact⟨⟨s⟩,by rw[a,R8,f7f];rfl⟩
theorem f0e{n0:Nat}{a:List PV}(b:H7 Tryz.prog n0 9 a):
  preT (fun _:Str×Unit=>true) [R8 Tryz.prog 9 a]=true:=by
 obtain⟨s,e⟩:=e5c b
 rw[e]
 exact Zh (s,()) rfl rfl
end
end Go.Proofs.YtgclceacfcdigaaGreatDoor
namespace Go.Proofs.YtgclceacfcdigaaGreatDoor
open Go.Shelf
def Tryz.lays145_ren:Go.Shelf.Ren:=⟨fun|145=>136|220=>158|219=>122|217=>121|225=>147|224=>148|267=>149|266=>146|314=>168|n=>n,fun|9=>9|4=>4|59=>156|3=>3|5=>5|46=>164|146=>184|51=>183|n=>n,fun|1=>0|n=>n⟩
theorem Tryz.lays145:Go.Proofs.Lays.n145 Tryz.prog Tryz.lays145_ren:={
 mixed:=by kernel_rfl
 f145:=Go.Pl.ck_ Tryz.func136
 f217:=Go.Pl.ck_ Tryz.func121
 f219:=Go.Pl.ck_ Tryz.func122
 f220:=Go.Pl.ck_ Tryz.func158
 f224:=Go.Pl.ck_ Tryz.func148
 f225:=Go.Pl.ck_ Tryz.func147
 f266:=Go.Pl.ck_ Tryz.func146
 f267:=Go.Pl.ck_ Tryz.func149
 f314:=Go.Pl.ck_ Tryz.func168
 t3:=Tryz.underlying3
 a3:=Tryz.isAgg3
 z3:=Tryz.sizeOf3
 v3:=Tryz.zeroValue3
 t4:=Tryz.underlying4
 a4:=Tryz.isAgg4
 z4:=Tryz.sizeOf4
 v4:=Tryz.zeroValue4
 t5:=Tryz.underlying5
 a5:=Tryz.isAgg5
 z5:=Tryz.sizeOf5
 v5:=Tryz.zeroValue5
 t9:=Tryz.underlying9
 a9:=Tryz.isAgg9
 z9:=Tryz.sizeOf9
 v9:=Tryz.zeroValue9
 t46:=Tryz.underlying164
 a46:=Tryz.isAgg164
 z46:=Tryz.sizeOf164
 v46:=Tryz.zeroValue164
 t51:=Tryz.underlying183
 a51:=Tryz.isAgg183
 z51:=Tryz.sizeOf183
 v51:=Tryz.zeroValue183
 t59:=Tryz.underlying156
 a59:=Tryz.isAgg156
 z59:=Tryz.sizeOf156
 v59:=Tryz.zeroValue156
 t146:=Tryz.underlying184
 a146:=Tryz.isAgg184
 z146:=Tryz.sizeOf184
 v146:=Tryz.zeroValue184
 g1:=by kernel_rfl}
def Tryz.lays137_ren:Go.Shelf.Ren:=⟨fun|137=>90|217=>121|266=>146|n=>n,fun|9=>9|5=>5|3=>3|n=>n,fun|n=>n⟩
theorem Tryz.lays137:Go.Proofs.Lays.n137 Tryz.prog Tryz.lays137_ren:={
 mixed:=by kernel_rfl
 f137:=Go.Pl.ck_ Tryz.func90
 f217:=Go.Pl.ck_ Tryz.func121
 f266:=Go.Pl.ck_ Tryz.func146
 t3:=Tryz.underlying3
 a3:=Tryz.isAgg3
 z3:=Tryz.sizeOf3
 v3:=Tryz.zeroValue3
 t5:=Tryz.underlying5
 a5:=Tryz.isAgg5
 z5:=Tryz.sizeOf5
 v5:=Tryz.zeroValue5
 t9:=Tryz.underlying9
 a9:=Tryz.isAgg9
 z9:=Tryz.sizeOf9
 v9:=Tryz.zeroValue9}
def Tryz.lays138_ren:Go.Shelf.Ren:=⟨fun|138=>65|195=>91|218=>92|143=>93|219=>122|217=>121|225=>147|224=>148|267=>149|266=>146|314=>168|n=>n,fun|9=>9|3=>3|4=>4|5=>5|0=>0|46=>164|146=>184|51=>183|n=>n,fun|1=>0|n=>n⟩
theorem Tryz.lays138:Go.Proofs.Lays.n138 Tryz.prog Tryz.lays138_ren:={
 mixed:=by kernel_rfl
 f138:=Go.Pl.ck_ Tryz.func65
 f143:=Go.Pl.ck_ Tryz.func93
 f195:=Go.Pl.ck_ Tryz.func91
 f217:=Go.Pl.ck_ Tryz.func121
 f218:=Go.Pl.ck_ Tryz.func92
 f219:=Go.Pl.ck_ Tryz.func122
 f224:=Go.Pl.ck_ Tryz.func148
 f225:=Go.Pl.ck_ Tryz.func147
 f266:=Go.Pl.ck_ Tryz.func146
 f267:=Go.Pl.ck_ Tryz.func149
 f314:=Go.Pl.ck_ Tryz.func168
 t0:=Tryz.underlying0
 a0:=Tryz.isAgg0
 z0:=Tryz.sizeOf0
 v0:=Tryz.zeroValue0
 t3:=Tryz.underlying3
 a3:=Tryz.isAgg3
 z3:=Tryz.sizeOf3
 v3:=Tryz.zeroValue3
 t4:=Tryz.underlying4
 a4:=Tryz.isAgg4
 z4:=Tryz.sizeOf4
 v4:=Tryz.zeroValue4
 t5:=Tryz.underlying5
 a5:=Tryz.isAgg5
 z5:=Tryz.sizeOf5
 v5:=Tryz.zeroValue5
 t9:=Tryz.underlying9
 a9:=Tryz.isAgg9
 z9:=Tryz.sizeOf9
 v9:=Tryz.zeroValue9
 t46:=Tryz.underlying164
 a46:=Tryz.isAgg164
 z46:=Tryz.sizeOf164
 v46:=Tryz.zeroValue164
 t51:=Tryz.underlying183
 a51:=Tryz.isAgg183
 z51:=Tryz.sizeOf183
 v51:=Tryz.zeroValue183
 t146:=Tryz.underlying184
 a146:=Tryz.isAgg184
 z146:=Tryz.sizeOf184
 v146:=Tryz.zeroValue184
 g1:=by kernel_rfl}
def Tryz.lays172_ren:Go.Shelf.Ren:=⟨fun|172=>123|244=>150|245=>151|247=>169|279=>170|280=>171|281=>172|282=>173|287=>181|316=>182|171=>154|205=>183|321=>190|322=>191|243=>174|246=>184|283=>192|284=>193|285=>194|286=>195|129=>206|317=>208|318=>209|319=>210|320=>211|337=>218|338=>219|n=>n,fun|9=>9|3=>3|75=>141|76=>142|4=>4|5=>5|167=>186|37=>169|0=>0|85=>187|2=>2|168=>189|53=>198|175=>199|46=>164|210=>202|127=>209|145=>212|143=>210|21=>21|171=>213|173=>216|212=>232|51=>183|20=>20|213=>233|232=>243|233=>244|80=>82|n=>n,fun|15=>1|16=>2|17=>5|18=>6|19=>7|n=>n⟩
theorem Tryz.lays172:Go.Proofs.LaysC.n172 Tryz.prog Tryz.lays172_ren:={
 mixed:=by kernel_rfl
 f129:=Go.Pl.ck_ Tryz.func206
 f171:=Go.Pl.ck_ Tryz.func154
 f172:=Go.Pl.ck_ Tryz.func123
 f205:=Go.Pl.ck_ Tryz.func183
 f243:=Go.Pl.ck_ Tryz.func174
 f244:=Go.Pl.ck_ Tryz.func150
 f245:=Go.Pl.ck_ Tryz.func151
 f246:=Go.Pl.ck_ Tryz.func184
 f247:=Go.Pl.ck_ Tryz.func169
 f279:=Go.Pl.ck_ Tryz.func170
 f280:=Go.Pl.ck_ Tryz.func171
 f281:=Go.Pl.ck_ Tryz.func172
 f282:=Go.Pl.ck_ Tryz.func173
 f283:=Go.Pl.ck_ Tryz.func192
 f284:=Go.Pl.ck_ Tryz.func193
 f285:=Go.Pl.ck_ Tryz.func194
 f286:=Go.Pl.ck_ Tryz.func195
 f287:=Go.Pl.ck_ Tryz.func181
 f316:=Go.Pl.ck_ Tryz.func182
 f317:=Go.Pl.ck_ Tryz.func208
 f318:=Go.Pl.ck_ Tryz.func209
 f319:=Go.Pl.ck_ Tryz.func210
 f320:=Go.Pl.ck_ Tryz.func211
 f321:=Go.Pl.ck_ Tryz.func190
 f322:=Go.Pl.ck_ Tryz.func191
 f337:=Go.Pl.ck_ Tryz.func218
 f338:=Go.Pl.ck_ Tryz.func219
 t0:=Tryz.underlying0
 a0:=Tryz.isAgg0
 z0:=Tryz.sizeOf0
 v0:=Tryz.zeroValue0
 t2:=Tryz.underlying2
 a2:=Tryz.isAgg2
 z2:=Tryz.sizeOf2
 v2:=Tryz.zeroValue2
 t3:=Tryz.underlying3
 a3:=Tryz.isAgg3
 z3:=Tryz.sizeOf3
 v3:=Tryz.zeroValue3
 t4:=Tryz.underlying4
 a4:=Tryz.isAgg4
 z4:=Tryz.sizeOf4
 v4:=Tryz.zeroValue4
 t5:=Tryz.underlying5
 a5:=Tryz.isAgg5
 z5:=Tryz.sizeOf5
 v5:=Tryz.zeroValue5
 t9:=Tryz.underlying9
 a9:=Tryz.isAgg9
 z9:=Tryz.sizeOf9
 v9:=Tryz.zeroValue9
 t20:=Tryz.underlying20
 a20:=Tryz.isAgg20
 z20:=Tryz.sizeOf20
 v20:=Tryz.zeroValue20
 t21:=Tryz.underlying21
 a21:=Tryz.isAgg21
 z21:=Tryz.sizeOf21
 v21:=Tryz.zeroValue21
 t37:=Tryz.underlying169
 a37:=Tryz.isAgg169
 z37:=Tryz.sizeOf169
 v37:=Tryz.zeroValue169
 t46:=Tryz.underlying164
 a46:=Tryz.isAgg164
 z46:=Tryz.sizeOf164
 v46:=Tryz.zeroValue164
 t51:=Tryz.underlying183
 a51:=Tryz.isAgg183
 z51:=Tryz.sizeOf183
 v51:=Tryz.zeroValue183
 t53:=Tryz.underlying198
 a53:=Tryz.isAgg198
 z53:=Tryz.sizeOf198
 v53:=Tryz.zeroValue198
 t75:=Tryz.underlying141
 a75:=Tryz.isAgg141
 z75:=Tryz.sizeOf141
 v75:=Tryz.zeroValue141
 t76:=Tryz.underlying142
 a76:=Tryz.isAgg142
 z76:=Tryz.sizeOf142
 v76:=Tryz.zeroValue142
 t85:=Tryz.underlying187
 a85:=Tryz.isAgg187
 z85:=Tryz.sizeOf187
 v85:=Tryz.zeroValue187
 t127:=Tryz.underlying209
 a127:=Tryz.isAgg209
 z127:=Tryz.sizeOf209
 v127:=Tryz.zeroValue209
 t143:=Tryz.underlying210
 a143:=Tryz.isAgg210
 z143:=Tryz.sizeOf210
 v143:=Tryz.zeroValue210
 t145:=Tryz.underlying212
 a145:=Tryz.isAgg212
 z145:=Tryz.sizeOf212
 v145:=Tryz.zeroValue212
 t167:=Tryz.underlying186
 a167:=Tryz.isAgg186
 z167:=Tryz.sizeOf186
 v167:=Tryz.zeroValue186
 t168:=Tryz.underlying189
 a168:=Tryz.isAgg189
 z168:=Tryz.sizeOf189
 v168:=Tryz.zeroValue189
 t171:=Tryz.underlying213
 a171:=Tryz.isAgg213
 z171:=Tryz.sizeOf213
 v171:=Tryz.zeroValue213
 t173:=Tryz.underlying216
 a173:=Tryz.isAgg216
 z173:=Tryz.sizeOf216
 v173:=Tryz.zeroValue216
 t175:=Tryz.underlying199
 a175:=Tryz.isAgg199
 z175:=Tryz.sizeOf199
 v175:=Tryz.zeroValue199
 t210:=Tryz.underlying202
 a210:=Tryz.isAgg202
 z210:=Tryz.sizeOf202
 v210:=Tryz.zeroValue202
 t212:=Tryz.underlying232
 a212:=Tryz.isAgg232
 z212:=Tryz.sizeOf232
 v212:=Tryz.zeroValue232
 t213:=Tryz.underlying233
 a213:=Tryz.isAgg233
 z213:=Tryz.sizeOf233
 t232:=Tryz.underlying243
 a232:=Tryz.isAgg243
 z232:=Tryz.sizeOf243
 v232:=Tryz.zeroValue243
 t233:=Tryz.underlying244
 a233:=Tryz.isAgg244
 z233:=Tryz.sizeOf244
 v233:=Tryz.zeroValue244
 g15:=by kernel_rfl
 g16:=by kernel_rfl
 g17:=by kernel_rfl
 g18:=by kernel_rfl
 g19:=by kernel_rfl
 t80:=Tryz.underlying82
 a80:=Tryz.isAgg82
 z80:=Tryz.sizeOf82
 v80:=Tryz.zeroValue82
 i0:=by kernel_rfl
 i2:=by kernel_rfl
 i3:=by kernel_rfl
 i4:=by kernel_rfl
 i5:=by kernel_rfl
 i9:=by kernel_rfl
 i20:=by kernel_rfl
 i21:=by kernel_rfl
 i37:=by kernel_rfl
 i46:=by kernel_rfl
 i51:=by kernel_rfl
 i53:=by kernel_rfl
 i75:=by kernel_rfl
 i76:=by kernel_rfl
 i80:=by kernel_rfl
 i85:=by kernel_rfl
 i127:=by kernel_rfl
 i143:=by kernel_rfl
 i145:=by kernel_rfl
 i167:=by kernel_rfl
 i168:=by kernel_rfl
 i171:=by kernel_rfl
 i173:=by kernel_rfl
 i175:=by kernel_rfl
 i210:=by kernel_rfl
 i212:=by kernel_rfl
 i232:=by kernel_rfl
 i233:=by kernel_rfl
 m15:=by kernel_rfl
 m16:=by kernel_rfl
 m17:=by kernel_rfl
 m18:=by kernel_rfl
 m19:=by kernel_rfl
 c0:=by kernel_rfl
 c2:=by kernel_rfl
 c3:=by kernel_rfl
 c4:=by kernel_rfl
 c5:=by kernel_rfl
 c9:=by kernel_rfl
 c20:=by kernel_rfl
 c21:=by kernel_rfl
 c37:=by kernel_rfl
 c46:=by kernel_rfl
 c51:=by kernel_rfl
 c53:=by kernel_rfl
 c75:=by kernel_rfl
 c76:=by kernel_rfl
 c80:=by kernel_rfl
 c85:=by kernel_rfl
 c127:=by kernel_rfl
 c143:=by kernel_rfl
 c145:=by kernel_rfl
 c167:=by kernel_rfl
 c168:=by kernel_rfl
 c171:=by kernel_rfl
 c173:=by kernel_rfl
 c175:=by kernel_rfl
 c210:=by kernel_rfl
 c212:=by kernel_rfl
 c213:=by kernel_rfl
 c232:=by kernel_rfl
 c233:=by kernel_rfl}
def Tryz.lays171_ren:Go.Shelf.Ren:=⟨fun|171=>154|243=>174|246=>184|283=>192|284=>193|285=>194|286=>195|129=>206|317=>208|318=>209|319=>210|320=>211|337=>218|338=>219|n=>n,fun|3=>3|9=>9|2=>2|4=>4|171=>213|0=>0|53=>198|37=>169|5=>5|173=>216|212=>232|51=>183|20=>20|213=>233|46=>164|232=>243|233=>244|n=>n,fun|17=>5|18=>6|19=>7|n=>n⟩
theorem Tryz.lays171:Go.Proofs.LaysM.n171 Tryz.prog Tryz.lays171_ren:={
 mixed:=by kernel_rfl
 f129:=Go.Pl.ck_ Tryz.func206
 f171:=Go.Pl.ck_ Tryz.func154
 f243:=Go.Pl.ck_ Tryz.func174
 f246:=Go.Pl.ck_ Tryz.func184
 f283:=Go.Pl.ck_ Tryz.func192
 f284:=Go.Pl.ck_ Tryz.func193
 f285:=Go.Pl.ck_ Tryz.func194
 f286:=Go.Pl.ck_ Tryz.func195
 f317:=Go.Pl.ck_ Tryz.func208
 f318:=Go.Pl.ck_ Tryz.func209
 f319:=Go.Pl.ck_ Tryz.func210
 f320:=Go.Pl.ck_ Tryz.func211
 f337:=Go.Pl.ck_ Tryz.func218
 f338:=Go.Pl.ck_ Tryz.func219
 t0:=Tryz.underlying0
 a0:=Tryz.isAgg0
 z0:=Tryz.sizeOf0
 v0:=Tryz.zeroValue0
 t2:=Tryz.underlying2
 a2:=Tryz.isAgg2
 z2:=Tryz.sizeOf2
 v2:=Tryz.zeroValue2
 t3:=Tryz.underlying3
 a3:=Tryz.isAgg3
 z3:=Tryz.sizeOf3
 v3:=Tryz.zeroValue3
 t4:=Tryz.underlying4
 a4:=Tryz.isAgg4
 z4:=Tryz.sizeOf4
 v4:=Tryz.zeroValue4
 t5:=Tryz.underlying5
 a5:=Tryz.isAgg5
 z5:=Tryz.sizeOf5
 v5:=Tryz.zeroValue5
 t9:=Tryz.underlying9
 a9:=Tryz.isAgg9
 z9:=Tryz.sizeOf9
 v9:=Tryz.zeroValue9
 t20:=Tryz.underlying20
 a20:=Tryz.isAgg20
 z20:=Tryz.sizeOf20
 v20:=Tryz.zeroValue20
 t37:=Tryz.underlying169
 a37:=Tryz.isAgg169
 z37:=Tryz.sizeOf169
 v37:=Tryz.zeroValue169
 t46:=Tryz.underlying164
 a46:=Tryz.isAgg164
 z46:=Tryz.sizeOf164
 v46:=Tryz.zeroValue164
 t51:=Tryz.underlying183
 a51:=Tryz.isAgg183
 z51:=Tryz.sizeOf183
 v51:=Tryz.zeroValue183
 t53:=Tryz.underlying198
 a53:=Tryz.isAgg198
 z53:=Tryz.sizeOf198
 v53:=Tryz.zeroValue198
 t171:=Tryz.underlying213
 a171:=Tryz.isAgg213
 z171:=Tryz.sizeOf213
 v171:=Tryz.zeroValue213
 t173:=Tryz.underlying216
 a173:=Tryz.isAgg216
 z173:=Tryz.sizeOf216
 v173:=Tryz.zeroValue216
 t212:=Tryz.underlying232
 a212:=Tryz.isAgg232
 z212:=Tryz.sizeOf232
 v212:=Tryz.zeroValue232
 t213:=Tryz.underlying233
 a213:=Tryz.isAgg233
 z213:=Tryz.sizeOf233
 t232:=Tryz.underlying243
 a232:=Tryz.isAgg243
 z232:=Tryz.sizeOf243
 v232:=Tryz.zeroValue243
 t233:=Tryz.underlying244
 a233:=Tryz.isAgg244
 z233:=Tryz.sizeOf244
 v233:=Tryz.zeroValue244
 g17:=by kernel_rfl
 g18:=by kernel_rfl
 g19:=by kernel_rfl
 i0:=by kernel_rfl
 i2:=by kernel_rfl
 i3:=by kernel_rfl
 i4:=by kernel_rfl
 i5:=by kernel_rfl
 i9:=by kernel_rfl
 i20:=by kernel_rfl
 i37:=by kernel_rfl
 i46:=by kernel_rfl
 i51:=by kernel_rfl
 i53:=by kernel_rfl
 i171:=by kernel_rfl
 i173:=by kernel_rfl
 i212:=by kernel_rfl
 i232:=by kernel_rfl
 i233:=by kernel_rfl
 m17:=by kernel_rfl
 m18:=by kernel_rfl
 m19:=by kernel_rfl}
def Tryz.lays99_ren:Go.Shelf.Ren:=⟨fun|99=>89|206=>120|n=>n,fun|9=>9|4=>4|3=>3|n=>n,fun|n=>n⟩
theorem Tryz.lays99:Go.Proofs.Lays.n99 Tryz.prog Tryz.lays99_ren:={
 mixed:=by kernel_rfl
 f99:=Go.Pl.ck_ Tryz.func89
 f206:=Go.Pl.ck_ Tryz.func120
 t3:=Tryz.underlying3
 a3:=Tryz.isAgg3
 z3:=Tryz.sizeOf3
 v3:=Tryz.zeroValue3
 t4:=Tryz.underlying4
 a4:=Tryz.isAgg4
 z4:=Tryz.sizeOf4
 v4:=Tryz.zeroValue4
 t9:=Tryz.underlying9
 a9:=Tryz.isAgg9
 z9:=Tryz.sizeOf9
 v9:=Tryz.zeroValue9}
def Tryz.lays190_ren:Go.Shelf.Ren:=⟨fun|190=>176|125=>186|258=>185|128=>205|129=>206|302=>196|303=>197|304=>198|305=>199|306=>200|307=>201|308=>202|309=>203|310=>204|333=>212|329=>213|330=>214|334=>215|335=>216|336=>217|344=>220|n=>n,fun|31=>23|9=>9|3=>3|46=>164|0=>0|51=>183|53=>198|4=>4|183=>220|182=>219|131=>100|5=>5|218=>234|222=>238|228=>240|229=>241|n=>n,fun|n=>n⟩
theorem Tryz.lays190:Go.Proofs.Lays.n190 Tryz.prog Tryz.lays190_ren:={
 mixed:=by kernel_rfl
 f125:=Go.Pl.ck_ Tryz.func186
 f128:=Go.Pl.ck_ Tryz.func205
 f129:=Go.Pl.ck_ Tryz.func206
 f190:=Go.Pl.ck_ Tryz.func176
 f258:=Go.Pl.ck_ Tryz.func185
 f302:=Go.Pl.ck_ Tryz.func196
 f303:=Go.Pl.ck_ Tryz.func197
 f304:=Go.Pl.ck_ Tryz.func198
 f305:=Go.Pl.ck_ Tryz.func199
 f306:=Go.Pl.ck_ Tryz.func200
 f307:=Go.Pl.ck_ Tryz.func201
 f308:=Go.Pl.ck_ Tryz.func202
 f309:=Go.Pl.ck_ Tryz.func203
 f310:=Go.Pl.ck_ Tryz.func204
 f329:=Go.Pl.ck_ Tryz.func213
 f330:=Go.Pl.ck_ Tryz.func214
 f333:=Go.Pl.ck_ Tryz.func212
 f334:=Go.Pl.ck_ Tryz.func215
 f335:=Go.Pl.ck_ Tryz.func216
 f336:=Go.Pl.ck_ Tryz.func217
 f344:=Go.Pl.ck_ Tryz.func220
 t0:=Tryz.underlying0
 a0:=Tryz.isAgg0
 z0:=Tryz.sizeOf0
 v0:=Tryz.zeroValue0
 t3:=Tryz.underlying3
 a3:=Tryz.isAgg3
 z3:=Tryz.sizeOf3
 v3:=Tryz.zeroValue3
 t4:=Tryz.underlying4
 a4:=Tryz.isAgg4
 z4:=Tryz.sizeOf4
 v4:=Tryz.zeroValue4
 t5:=Tryz.underlying5
 a5:=Tryz.isAgg5
 z5:=Tryz.sizeOf5
 v5:=Tryz.zeroValue5
 t9:=Tryz.underlying9
 a9:=Tryz.isAgg9
 z9:=Tryz.sizeOf9
 v9:=Tryz.zeroValue9
 t31:=Tryz.underlying23
 a31:=Tryz.isAgg23
 z31:=Tryz.sizeOf23
 v31:=Tryz.zeroValue23
 t46:=Tryz.underlying164
 a46:=Tryz.isAgg164
 z46:=Tryz.sizeOf164
 v46:=Tryz.zeroValue164
 t51:=Tryz.underlying183
 a51:=Tryz.isAgg183
 z51:=Tryz.sizeOf183
 v51:=Tryz.zeroValue183
 t53:=Tryz.underlying198
 a53:=Tryz.isAgg198
 z53:=Tryz.sizeOf198
 v53:=Tryz.zeroValue198
 t131:=Tryz.underlying100
 a131:=Tryz.isAgg100
 z131:=Tryz.sizeOf100
 v131:=Tryz.zeroValue100
 t182:=Tryz.underlying219
 a182:=Tryz.isAgg219
 z182:=Tryz.sizeOf219
 v182:=Tryz.zeroValue219
 t183:=Tryz.underlying220
 a183:=Tryz.isAgg220
 z183:=Tryz.sizeOf220
 v183:=Tryz.zeroValue220
 t218:=Tryz.underlying234
 a218:=Tryz.isAgg234
 z218:=Tryz.sizeOf234
 v218:=Tryz.zeroValue234
 t222:=Tryz.underlying238
 a222:=Tryz.isAgg238
 z222:=Tryz.sizeOf238
 v222:=Tryz.zeroValue238
 t228:=Tryz.underlying240
 a228:=Tryz.isAgg240
 z228:=Tryz.sizeOf240
 v228:=Tryz.zeroValue240
 t229:=Tryz.underlying241
 a229:=Tryz.isAgg241
 z229:=Tryz.sizeOf241
 v229:=Tryz.zeroValue241}
end Go.Proofs.YtgclceacfcdigaaGreatDoor
namespace Go.Proofs.YtgclceacfcdigaaGreatDoor
open Go.Pl Go.RowKit
open Enc (enc dec is)
open EncL (encL decL isL)
set_option maxRecDepth 100000
theorem UR:ZP Tryz.prog 89 (fun _:Str×Str×Unit=>true) (fun x:Str×Str×Unit=>x.2.1.s.isPrefixOf x.1.s):=Xt (by
  rintro⟨⟨s⟩,⟨p⟩,⟨⟩⟩ hps Φ w vs hL hΦ hv
  obtain⟨u,v,rfl,h1,h2⟩:=d6u hv
  rw[QL h1,QL h2]
  refine(Any.strings_HasPrefix Tryz.lays99 ⟨s.toArray⟩ ⟨p.toArray⟩ w).mono ?_
  rintro e w' ⟨rfl,rfl⟩
  exact⟨_,rfl,.bool _,.refl _ _⟩)
theorem d1w:ZP Tryz.prog 123 (fun x:Str×Unit=>decide (x.1.s.length<=1000000)) (fun x:Str×Unit=>Yz x.1):=Xt (by
  rintro⟨⟨s⟩,⟨⟩⟩ hps Φ w vs hL hΦ a
  have hs:s.length<=1000000:=by simpa using hps
  obtain⟨v,rfl,h1⟩:=g1i a
  rw[QL h1]
  have i:(⟨s.toArray⟩:ByteArray).size=s.length:=rfl
  cases h:Lib.atoiAll s
  ·rename_i n
   have k:Yz ⟨s⟩=(n,⟨false⟩):=by simp only[Yz,h]
   rw[k]
   refine(Any.strconv_Atoi_ok Tryz.lays172 ⟨s.toArray⟩ (by rw[i];omega) n h w).mono ?_
   rintro e w' ⟨rfl,q⟩
   refine⟨_,rfl,.tup _ _ rfl ?_,?_⟩
   ·intro j v x a b
    match j with
    | 0=>cases a;cases b;exact .int _ _
    | 1=>cases a;cases b;exact .nili
    | j+2=>simp at a
   ·rcases q with rfl|⟨t,rfl⟩
    ·exact .refl _ _
    ·exact TM _ _ 0 _
  ·skip
   have k:Yz ⟨s⟩=(0,⟨true⟩):=by simp only[Yz,h]
   rw[k]
   obtain⟨cs,hc,ev,l,g⟩:=hL.syn
   refine(Any.strconv_Atoi_syntax Tryz.lays172 ⟨s.toArray⟩ (by rw[i];omega) h ev w (Jr hΦ hc l) g).mono ?_
   rintro e w' ⟨N,rfl,_,_,hb⟩
   refine⟨_,rfl,.tup _ _ rfl ?_,hb⟩
   intro j v x a b
   match j with
   | 0=>cases a;cases b;exact .int _ _
   | 1=>cases a;cases b;exact .ifc _ _
   | j+2=>simp at a
  ·skip
   have k:Yz ⟨s⟩=(Lib.atoiSat s,⟨true⟩):=by simp only[Yz,h]
   rw[k]
   obtain⟨cs,hc,ev,l,g⟩:=hL.rng
   refine(Any.strconv_Atoi_range Tryz.lays172 ⟨s.toArray⟩ (by rw[i];omega) h ev w (Jr hΦ hc l) g).mono ?_
   rintro e w' ⟨N,rfl,_,_,hb⟩
   refine⟨_,rfl,.tup _ _ rfl ?_,hb⟩
   intro j v x a b
   match j with
   | 0=>cases a;cases b;exact .int _ _
   | 1=>cases a;cases b;exact .ifc _ _
   | j+2=>simp at a)
theorem b0a:ZP Tryz.prog 154 (fun x:Int×Unit=>decide (-9223372036854775808<=x.1)&&decide (x.1<=9223372036854775807)) (fun x:Int×Unit=>Na x.1):=Xt (by
  rintro⟨n,⟨⟩⟩ hps Φ w vs hL hΦ hv
  obtain⟨v,rfl,h1⟩:=g1i hv
  have h1:RP Φ v (.int .i64 n):=h1
  rw[e3a h1]
  have hn : -9223372036854775808<=n∧n<=9223372036854775807:=by simpa using hps
  have hg:=hL.pow
  obtain⟨T,fz,hh⟩:=hΦ _ _ hg
  refine(Any.strconv_Itoa Tryz.lays171 n hn.1 hn.2 w ?_).mono ?_
  ·unfold Lib.TabIs World.var?
   rw[show Program.globalNamed Tryz.prog "internal/strconv.uint64pow10" = some 5 by kernel_rfl]
   simp only[Option.bind_some,hh]
   rfl
  ·rintro e w' ⟨rfl,k,os,rfl⟩
   refine⟨_,rfl,.str _,?_⟩
   exact⟨rfl,rfl,rfl,by show w.heap.size<=(w.heap++os).size;simp,fun j hj=>by show(w.heap++os)[j]? = _;rw[Array.getElem?_append_left hj]⟩)
end Go.Proofs.YtgclceacfcdigaaGreatDoor
namespace Go.Proofs.YtgclceacfcdigaaGreatDoor
open Go.Shelf
def Tryz.lays160_ren:Go.Shelf.Ren:=⟨fun|160=>140|232=>162|231=>161|227=>163|234=>165|233=>164|236=>167|235=>166|228=>177|271=>180|151=>179|197=>178|120=>189|152=>188|260=>187|137=>90|119=>207|224=>148|225=>147|217=>121|266=>146|n=>n,fun|9=>9|4=>4|3=>3|5=>5|117=>179|116=>178|0=>0|124=>182|21=>21|105=>195|46=>164|119=>226|139=>229|138=>228|n=>n,fun|3=>3|4=>4|n=>n⟩
theorem Tryz.lays160:Go.Proofs.Lays.n160 Tryz.prog Tryz.lays160_ren:={
 mixed:=by kernel_rfl
 f119:=Go.Pl.ck_ Tryz.func207
 f120:=Go.Pl.ck_ Tryz.func189
 f137:=Go.Pl.ck_ Tryz.func90
 f151:=Go.Pl.ck_ Tryz.func179
 f152:=Go.Pl.ck_ Tryz.func188
 f160:=Go.Pl.ck_ Tryz.func140
 f197:=Go.Pl.ck_ Tryz.func178
 f217:=Go.Pl.ck_ Tryz.func121
 f224:=Go.Pl.ck_ Tryz.func148
 f225:=Go.Pl.ck_ Tryz.func147
 f227:=Go.Pl.ck_ Tryz.func163
 f228:=Go.Pl.ck_ Tryz.func177
 f231:=Go.Pl.ck_ Tryz.func161
 f232:=Go.Pl.ck_ Tryz.func162
 f233:=Go.Pl.ck_ Tryz.func164
 f234:=Go.Pl.ck_ Tryz.func165
 f235:=Go.Pl.ck_ Tryz.func166
 f236:=Go.Pl.ck_ Tryz.func167
 f260:=Go.Pl.ck_ Tryz.func187
 f266:=Go.Pl.ck_ Tryz.func146
 f271:=Go.Pl.ck_ Tryz.func180
 t0:=Tryz.underlying0
 a0:=Tryz.isAgg0
 z0:=Tryz.sizeOf0
 v0:=Tryz.zeroValue0
 t3:=Tryz.underlying3
 a3:=Tryz.isAgg3
 z3:=Tryz.sizeOf3
 v3:=Tryz.zeroValue3
 t4:=Tryz.underlying4
 a4:=Tryz.isAgg4
 z4:=Tryz.sizeOf4
 v4:=Tryz.zeroValue4
 t5:=Tryz.underlying5
 a5:=Tryz.isAgg5
 z5:=Tryz.sizeOf5
 v5:=Tryz.zeroValue5
 t9:=Tryz.underlying9
 a9:=Tryz.isAgg9
 z9:=Tryz.sizeOf9
 v9:=Tryz.zeroValue9
 t21:=Tryz.underlying21
 a21:=Tryz.isAgg21
 z21:=Tryz.sizeOf21
 v21:=Tryz.zeroValue21
 t46:=Tryz.underlying164
 a46:=Tryz.isAgg164
 z46:=Tryz.sizeOf164
 v46:=Tryz.zeroValue164
 t105:=Tryz.underlying195
 a105:=Tryz.isAgg195
 z105:=Tryz.sizeOf195
 v105:=Tryz.zeroValue195
 t116:=Tryz.underlying178
 a116:=Tryz.isAgg178
 z116:=Tryz.sizeOf178
 t117:=Tryz.underlying179
 a117:=Tryz.isAgg179
 z117:=Tryz.sizeOf179
 v117:=Tryz.zeroValue179
 t119:=Tryz.underlying226
 a119:=Tryz.isAgg226
 z119:=Tryz.sizeOf226
 t124:=Tryz.underlying182
 a124:=Tryz.isAgg182
 z124:=Tryz.sizeOf182
 v124:=Tryz.zeroValue182
 t138:=Tryz.underlying228
 a138:=Tryz.isAgg228
 z138:=Tryz.sizeOf228
 v138:=Tryz.zeroValue228
 t139:=Tryz.underlying229
 a139:=Tryz.isAgg229
 z139:=Tryz.sizeOf229
 v139:=Tryz.zeroValue229
 g3:=by kernel_rfl
 g4:=by kernel_rfl}
end Go.Proofs.YtgclceacfcdigaaGreatDoor
namespace Go.Proofs.YtgclceacfcdigaaGreatDoor
open Go.Pl Go.RowKit
open Enc (enc dec is)
open EncL (encL decL isL)
set_option maxRecDepth 100000
theorem f4q: ∀ s:List UInt8,((s.dropWhile fun c=>c != 46)=[]->Lib.index s [46] = -1) ∧
  ∀ (c:UInt8) (r:List UInt8),(s.dropWhile fun c=>c != 46)=c::r->Lib.index s [46]=((s.takeWhile fun c=>c != 46).length:Nat)∧s.drop ((s.takeWhile fun c=>c != 46).length+1)=r∧s.take (s.takeWhile fun c=>c != 46).length=s.takeWhile fun c=>c != 46
 | []=>⟨fun _=>rfl,fun _ _ h=>by cases h⟩
 | b::l=>by
  obtain⟨h1,h2⟩:=f4q l
  by_cases hb:b=46
  ·subst hb
   refine⟨fun h=>by simp at h,fun c r h=> ?_⟩
   have h:(46:UInt8)::l=c::r:=by simpa using h
   cases h
   exact⟨rfl,rfl,rfl⟩
  ·have a:(b != 46)=true:=by simpa using hb
   have k:([46]:List UInt8).isPrefixOf (b::l)=false:=by simp[List.isPrefixOf];exact fun e=>hb e.symm
   have g:Lib.index (b::l) [46]=if Lib.index l [46] == -1 then -1 else Lib.index l [46]+1:=by rw[Lib.index,k];rfl
   rw[List.dropWhile_cons,if_pos a,List.takeWhile_cons,if_pos a]
   refine⟨fun h=>by rw[g,h1 h];rfl,fun c r h=> ?_⟩
   obtain⟨i,j,q⟩:=h2 c r h
   rw[g,i]
   refine⟨?_,?_,?_⟩
   ·rw[if_neg (by simp),List.length_cons];rfl
   ·rw[List.length_cons,List.drop_succ_cons];exact j
   ·rw[List.length_cons,List.take_succ_cons,q]
theorem f4b(s:List UInt8):Lib.cut s [46]=((Qw ⟨s⟩).a.s,(Qw ⟨s⟩).b.s,(Qw ⟨s⟩).c):=by
 obtain⟨h1,h2⟩:=f4q s
 unfold Lib.cut Qw
 cases hd:s.dropWhile fun c=>c != 46 with
 | nil=>
  rw[h1 hd]
  rfl
 | cons c r=>
  obtain⟨e,g,h⟩:=h2 c r hd
  rw[e,if_pos (by omega),Int.toNat_natCast,h]
  show(_,s.drop ((s.takeWhile fun c=>c != 46).length+1),true)=_
  rw[g]
theorem d2j:ZP Tryz.prog 136 (fun x:Str×Str×Unit=>decide (x.1.s.length<=1048576)&&decide (x.2.1.s=[46])) (fun x:Str×Str×Unit=>Qw x.1):=Xt (by
  rintro⟨⟨s⟩,⟨p⟩,⟨⟩⟩ hps Φ w vs hL hΦ a
  simp only[Bool.and_eq_true,decide_eq_true_eq]at hps
  obtain⟨hs,b⟩:=hps
  have b:p=[46]:=b
  subst b
  obtain⟨u,v,rfl,h1,h2⟩:=d6u a
  rw[QL h1,QL h2]
  obtain⟨cs,m,hc,hm⟩:=hL.mx
  have h:(⟨s.toArray⟩:ByteArray).size=s.length:=rfl
  refine(Any.strings_Cut Tryz.lays145 ⟨s.toArray⟩ ⟨#[46]⟩ m w (by rw[h];have hs:s.length<=1048576:=hs;omega) (Jr hΦ hc hm)).mono ?_
  rintro e w' ⟨rfl,k,rfl⟩
  refine⟨_,rfl,.tup _ _ rfl ?_,?_⟩
  ·rw[show(⟨s.toArray⟩:ByteArray).data.toList=s from rfl,show(⟨#[46]⟩:ByteArray).data.toList=[46]from rfl,f4b]
   intro j v x a g
   match j with
   | 0=>cases a;cases g;exact .str _
   | 1=>cases a;cases g;exact .str _
   | 2=>cases a;cases g;exact .bool _
   | j+3=>simp at a
  ·exact⟨rfl,rfl,rfl,Nat.le_refl _,fun _ _=>rfl⟩)
theorem e6f:ZP Tryz.prog 90 (fun x:Str×UInt8×Unit=>decide (x.1.s.length<=1048576)) (fun x:Str×UInt8×Unit=>Lib.indexByte x.1.s x.2.1):=Xt (by
  rintro⟨⟨s⟩,c,⟨⟩⟩ hps Φ w vs hL hΦ hv
  obtain⟨u,v,rfl,h1,h2⟩:=d6u hv
  rw[QL h1,e3a h2]
  refine(Any.strings_IndexByte Tryz.lays137 ⟨s.toArray⟩ (c.toNat:Int) w).mono ?_
  rintro e w' ⟨rfl,rfl⟩
  have hc:((c.toNat:Int)).toNat.toUInt8=c:=by
   rw[Int.toNat_natCast]
   exact UInt8.ofNat_toNat
  rw[hc]
  exact⟨_,rfl,.int _ _,.refl _ _⟩)
theorem e4v:ZP Tryz.prog 65 (fun x:Str×Str×Unit=>decide (x.1.s.length<=1048576)&&decide (x.2.1.s=[10])) (fun x:Str×Str×Unit=>(Lib.countByte x.1.s 10:Int)):=Xt (by
  rintro⟨⟨s⟩,⟨p⟩,⟨⟩⟩ hps Φ w vs hL hΦ hv
  obtain⟨-,rfl⟩:s.length<=1048576∧p=[10]:=by simpa using hps
  obtain⟨u,v,rfl,h1,h2⟩:=d6u hv
  rw[QL h1,QL h2]
  refine(Any.strings_Count_one Tryz.lays138 ⟨s.toArray⟩ 10 w).mono ?_
  rintro e w' ⟨rfl,rfl⟩
  exact⟨_,rfl,.int _ _,.refl _ _⟩)
theorem c6q:ZP Tryz.prog 140 (fun x:Str×Str×Unit=>decide (x.1.s.length<=1048576)&&decide (x.2.1.s=Hu)) (fun x:Str×Str×Unit=>(⟨Ma x.1.s⟩:Str)):=Xt (by
  rintro⟨⟨s⟩,⟨p⟩,⟨⟩⟩ hps Φ w vs hL hΦ hv
  simp only[Bool.and_eq_true,decide_eq_true_eq]at hps
  obtain⟨hs,a⟩:=hps
  have a:p=Hu:=a
  subst a
  obtain⟨u,v,rfl,h1,h2⟩:=d6u hv
  rw[QL h1,QL h2]
  have b:(⟨s.toArray⟩:ByteArray).size=s.length:=rfl
  refine(Any.strings_Trim_laid Tryz.lays160 (by kernel_rfl) ⟨s.toArray⟩ ⟨Hu.toArray⟩ w (by rw[b];have hs:s.length<=1048576:=hs;omega) (by decide) (ascii_of_all (l:=Hu) (by decide))).mono ?_
  rintro e w' ⟨rfl,hb⟩
  exact⟨_,rfl,.str _,hb⟩)
end Go.Proofs.YtgclceacfcdigaaGreatDoor
namespace Go.Proofs.YtgclceacfcdigaaGreatDoor
open Go.RowKit Go.Lib Go.Pl
theorem d1r:(Tryz.prog.info? 3).map (fun i=>(i.zero,i.size,i.bytes))=some (some (.int .i64 0),1,8):=by kernel_rfl
theorem Bg:Tryz.prog.underlying 25=some (.slice 3):=by kernel_rfl
theorem b2v(n c:Nat)(w:World):Calls Tryz.prog 134 #[.slice none n c] w fun e w'=>e = .returned (.slice none 0 0)∧w'=w:=by
 have q22 : ∀ (w:World) (a:Option Addr) (n c b g:Nat),(binOp .eql 25 (.slice a n c) (.slice none b g)).run Tryz.prog w = .ok (.bool a.isNone) w:=fun w a n c b g=>Lib.run_eql_slice_nil w _ _ a n c b g Bg
 go_enter Tryz.func134,Tryz.ntmps134
 go_wp2
 go_ret
 exact⟨rfl,rfl⟩
theorem a8e(a:Addr)(c:Nat)(w:World):Calls Tryz.prog 134 #[.slice (some a) 0 c] w fun e w'=>(∃ g,e = .returned (.slice (some g) 0 0))∧Below w.heap.size w w':=by
 have q22 : ∀ (w:World) (a:Option Addr) (n c b h:Nat),(binOp .eql 25 (.slice a n c) (.slice none b h)).run Tryz.prog w = .ok (.bool a.isNone) w:=fun w a n c b h=>Lib.run_eql_slice_nil w _ _ a n c b h Bg
 obtain⟨i0,hi,hz0,hz1,hz2⟩:=info_parts d1r
 go_enter Tryz.func134,Tryz.ntmps134
 go_wp2_with (at_builtin;refine Lib.wpList_append_run _ rfl _ _ _ _ rfl _ _ rfl rfl _ _ (VH Bg hi (Nat.le_refl _)) ?_)
 go_ret
 exact⟨⟨_,rfl⟩,(Below.refl _ w).alloc (Nat.le_refl _) _⟩
theorem a7b(a:Addr)(n c:Nat)(news:List Value)(w:World)(h0:0<n)(hn:n<=2000000)(B:news.length=n*1)(hc : ∀ j u,news[j]? = some u->w.cell? (a.add j)=some u)(h1 : ∀ u∈news,u.oneCell'=true):
  Calls Tryz.prog 134 #[.slice (some a) n c] w fun e w'=> ∃ v',e = .returned v'∧w'.ownsRow w.heap.size 3 1 v' n news∧Below w.heap.size w w':=by
 have q22 : ∀ (w:World) (a:Option Addr) (n c q r:Nat),(binOp .eql 25 (.slice a n c) (.slice none q r)).run Tryz.prog w = .ok (.bool a.isNone) w:=fun w a n c q r=>Lib.run_eql_slice_nil w _ _ a n c q r Bg
 obtain⟨y,hi,i,h,l⟩:=info_parts d1r
 have A:Aside (∀ j u,news[j]? = some u->w.cell? (a.add j)=some u):=hc
 clear hc
 go_enter Tryz.func134,Tryz.ntmps134
 go_wp2_with (at_builtin;refine wpList_append_own _ rfl _ _ 25 rfl w.heap.size 3 y (.int .i64 0) 1 8 Bg hi i h l rfl (by decide) _ _ _ rfl (World.ownsRow_made w #[] 0 (Nat.le_refl _) (Nat.zero_le _) rfl) a n c news rfl ?qc1 ?qc2 ?qc3 ?qc4 ?qc5 ?qc6 ?_)
 case qc1=>exact B
 case qc2=>intro j u s;exact Lib.cell?_alloc_some _ (A.out j u s)
 case qc3=>exact h1
 case qc4=>unfold maxLen;omega
 case qc5=>omega
 case qc6=>simp
 intro v' w1 g b hnil
 go_wp2
 go_ret
 refine⟨v',rfl,by simpa using g,?_⟩
 exact((Below.refl _ w).alloc (Nat.le_refl _) _).grown b (by simp) (by intro k z;simp[Value.ownBlock]at z;omega)
theorem g4f:CloneC Tryz.prog 134 3 1:=⟨b2v,a8e,a7b⟩
end Go.Proofs.YtgclceacfcdigaaGreatDoor
namespace Go.Proofs.YtgclceacfcdigaaGreatDoor
open Go.Pl
open Enc (enc dec is)
open EncL (encL decL isL)
set_option maxRecDepth 100000
theorem U8:Tryz.prog.follows .mixedOrders=true:=by kernel_rfl
theorem tq{f:Nat}{D:Den}{l:List (Nat×Den)}{fn:Func}(hf:Tryz.prog.funcs[f]? = some fn)(h:c5d Tryz.prog f D)(k:Yn Tryz.prog (YN l))(hb:(fn.body.isSome&& !(fn.name == "runtime.NumGoroutine"))=true:=by kernel_rfl):Yn Tryz.prog (YN ((f,D)::l)):=Wz (ent hf hb h) k
theorem dq{f nt:Nat}{α β:Type}[EncL α][Enc β]{fn:Func}{T:ZM}{ic:IC}{rs:List IRes}{pre:α->Bool}{F:α->β}(h : ∀ a,pre a=true->Zi T 0 (Za rs (Zd (F a))) ic [] (Ye nt (encL a)))(i:Yn Tryz.prog T)(j:Tryz.prog.funcs[f]? = some fn)(e:Rt Tryz.prog fn=some ic:=by kernel_rfl)(b:XI (Xb Tryz.prog) fn.results.toList=some rs:=by kernel_rfl)(g:fn.ntmps=nt:=by kernel_rfl):ZP Tryz.prog f pre F:=ZP.of i U8 j e b g h
theorem Bu{α β S:Type}[EncL α][Enc β][EncL S]{T:ZM}{f:Nat}{fn:Func}{ic:IC}{rs:List IRes}{mk:α->List AV}{e b:List AObj}{pre:S->α->Bool}{un:List AV->α}{F:S->α->β×S}{nt k:Nat}(h : ∀ s a,pre s a=true->Zi T k (ZE k rs (ZK e b (F s a).1 (F s a).2)) ic [] (Z8 nt (mk a) (e++Zj s::b)))(hm:Ps mk un)(r:Yn Tryz.prog T)(l:Tryz.prog.funcs[f]? = some fn)(q:e.length+1+b.length=k:=by exact rfl)(i:Rt Tryz.prog fn=some ic:=by kernel_rfl)(g:XI (Xb Tryz.prog) fn.results.toList=some rs:=by kernel_rfl)(j:fn.ntmps=nt:=by kernel_rfl):Z9 Tryz.prog f mk un e b pre F:=Z9.of hm r U8 l i g j q h
theorem OW:ZP Tryz.prog 123 (fun x:Str×Unit=>decide (x.1.s.length<=281474976710656)) (fun x:Str×Unit=>Yz x.1):=Xt (by
  rintro⟨⟨s⟩,⟨⟩⟩ hps Φ w vs hL hΦ a
  have hs:s.length<=281474976710656:=by simpa using hps
  obtain⟨v,rfl,h1⟩:=g1i a
  rw[QL h1]
  have i:(⟨s.toArray⟩:ByteArray).size=s.length:=rfl
  cases h:Lib.atoiAll s
  ·rename_i n
   have k:Yz ⟨s⟩=(n,⟨false⟩):=by simp only[Yz,h]
   rw[k]
   refine(Any.strconv_Atoi_ok Tryz.lays172 ⟨s.toArray⟩ (by rw[i];omega) n h w).mono ?_
   rintro e w' ⟨rfl,q⟩
   refine⟨_,rfl,.tup _ _ rfl ?_,?_⟩
   ·intro j v x a b
    match j with
    | 0=>cases a;cases b;exact .int _ _
    | 1=>cases a;cases b;exact .nili
    | j+2=>simp at a
   ·rcases q with rfl|⟨t,rfl⟩
    ·exact .refl _ _
    ·exact TM _ _ 0 _
  ·skip
   have k:Yz ⟨s⟩=(0,⟨true⟩):=by simp only[Yz,h]
   rw[k]
   obtain⟨cs,hc,ev,l,g⟩:=hL.syn
   refine(Any.strconv_Atoi_syntax Tryz.lays172 ⟨s.toArray⟩ (by rw[i];omega) h ev w (Jr hΦ hc l) g).mono ?_
   rintro e w' ⟨N,rfl,_,_,hb⟩
   refine⟨_,rfl,.tup _ _ rfl ?_,hb⟩
   intro j v x a b
   match j with
   | 0=>cases a;cases b;exact .int _ _
   | 1=>cases a;cases b;exact .ifc _ _
   | j+2=>simp at a
  ·skip
   have k:Yz ⟨s⟩=(Lib.atoiSat s,⟨true⟩):=by simp only[Yz,h]
   rw[k]
   obtain⟨cs,hc,ev,l,g⟩:=hL.rng
   refine(Any.strconv_Atoi_range Tryz.lays172 ⟨s.toArray⟩ (by rw[i];omega) h ev w (Jr hΦ hc l) g).mono ?_
   rintro e w' ⟨N,rfl,_,_,hb⟩
   refine⟨_,rfl,.tup _ _ rfl ?_,hb⟩
   intro j v x a b
   match j with
   | 0=>cases a;cases b;exact .int _ _
   | 1=>cases a;cases b;exact .ifc _ _
   | j+2=>simp at a)
theorem d8q:Xh Tryz.prog 176 Uw QI:=c9v (Any.slices_Sort_string Tryz.lays190) (Any.slices_Sort_string_none Tryz.lays190)
theorem F7:ZP Tryz.prog 131 (fun _:Int×Unit=>true) (fun x:Int×Unit=>YD x.1):=dq e6g Zb Tryz.func131
theorem b0s:ZP Tryz.prog 130 (fun x:Str×Unit=>decide (x.1.s.length<=1000000)) (fun x:Str×Unit=>nameB x.1):=dq c5u (tq Tryz.func89 UR (tq Tryz.func123 d1w (tq Tryz.func154 b0a Zb))) Tryz.func130
theorem TZ:ZP Tryz.prog 130 (fun x:Str×Unit=>decide (x.1.s.length<=281474976710656)) (fun x:Str×Unit=>nameB x.1):=dq b9m (tq Tryz.func89 UR (tq Tryz.func123 OW (tq Tryz.func154 b0a Zb))) Tryz.func130
theorem J3:ZP Tryz.prog 105 (fun x:Lin×Unit=>ZZ x.1) (fun x:Lin×Unit=>Zt x.1):=dq b7r (tq Tryz.func131 F7 (tq Tryz.func130 b0s Zb)) Tryz.func105
theorem Jw:ZP Tryz.prog 105 (fun x:Lin×Unit=>XG x.1) (fun x:Lin×Unit=>Zt x.1):=dq c9s (tq Tryz.func131 F7 (tq Tryz.func130 TZ Zb)) Tryz.func105
theorem JL:ZP Tryz.prog 94 (fun _:UInt8×Unit=>true) (fun x:UInt8×Unit=>lowB x.1):=dq b4l Zb Tryz.func94
theorem Bw:ZP Tryz.prog 97 (fun _:UInt8×Unit=>true) (fun x:UInt8×Unit=>digB x.1):=dq b5g Zb Tryz.func97
theorem Ck:ZP Tryz.prog 95 (fun x:Str×Bool×Unit=>decide (x.1.s.length<=1048576)) (fun x:Str×Bool×Unit=>XZ x.1 x.2.1):=dq e4k (tq Tryz.func97 Bw (tq Tryz.func94 JL Zb)) Tryz.func95
theorem Ht:ZP Tryz.prog 96 (fun _:Str×Unit=>true) (fun x:Str×Unit=>Q5.contains x.1.s):=dq d1k Zb Tryz.func96
theorem UO:ZP Tryz.prog 72 (fun x:Str×Unit=>decide (x.1.s.length<=1048576)) (fun x:Str×Unit=>nameI x.1.s):=dq c9m (tq Tryz.func94 JL (tq Tryz.func95 Ck (tq Tryz.func96 Ht Zb))) Tryz.func72
theorem KG:ZP Tryz.prog 109 (fun x:Str×Unit=>decide (x.1.s.length<=1048576)) (fun x:Str×Unit=>fullI x.1.s):=dq c8d (tq Tryz.func136 d2j (tq Tryz.func72 UO Zb)) Tryz.func109
theorem Hq:ZP Tryz.prog 77 (fun x:Str×Unit=>decide (x.1.s.length<=1048576)) (fun x:Str×Unit=>L6 x.1.s):=dq d6c (tq Tryz.func72 UO (tq Tryz.func109 KG Zb)) Tryz.func77
theorem NI:ZP Tryz.prog 74 (fun x:Tm×Unit=>nW x.1) (fun x:Tm×Unit=>Cy x.1.nd):=dq d3n Zb Tryz.func74
theorem LW:ZP Tryz.prog 104 (fun x:Lin×Unit=>XG x.1) (fun x:Lin×Unit=> !(Zt x.1)):=dq e2a (tq Tryz.func105 Jw Zb) Tryz.func104
theorem e6m:ZP Tryz.prog 129 (fun x:List Lin×FnV 104×Unit=>decide (x.1.length<=1048576)&&x.1.all XG) (fun x:List Lin×FnV 104×Unit=>XU (fun l:Lin=> !(Zt l)) x.1):=dq e9u (tq Tryz.func104 LW Zb) Tryz.func129
theorem f2i:ZP Tryz.prog 103 (fun x:List Lin×FnV 104×Unit=>decide (x.1.length<=1048576)&&x.1.all XG) (fun x:List Lin×FnV 104×Unit=>x.1.any fun l:Lin=> !(Zt l)):=dq e6k (tq Tryz.func129 e6m Zb) Tryz.func103
theorem Bn:ZP Tryz.prog 73 (fun x:Tm×Int×Int×Unit=>nW x.1) (fun x:Tm×Int×Int×Unit=>XA x.1.nd x.2.1 x.2.2.1):=dq b3y (tq Tryz.func103 f2i Zb) Tryz.func73
theorem a1q:ZP Tryz.prog 108 (fun _:Int×Unit=>true) (fun x:Int×Unit=>YG x.1):=dq e5r Zb Tryz.func108
theorem f3v:ZP Tryz.prog 135 (fun x:List Int×FnV 108×Unit=>decide (x.1.length<=1048576)) (fun x:List Int×FnV 108×Unit=>XU YG x.1):=dq f3a (tq Tryz.func108 a1q Zb) Tryz.func135
theorem f0c:ZP Tryz.prog 107 (fun x:List Int×FnV 108×Unit=>decide (x.1.length<=1048576)) (fun x:List Int×FnV 108×Unit=>x.1.any YG):=dq f0n (tq Tryz.func135 f3v Zb) Tryz.func107
theorem b0w:ZP Tryz.prog 76 (fun x:Tm×Unit=>nW x.1) (fun x:Tm×Unit=>callB x.1.nd x.1.ks.length):=dq c6y (tq Tryz.func77 Hq (tq Tryz.func73 Bn (tq Tryz.func107 f0c Zb))) Tryz.func76
theorem d4s:Wv Tryz.prog 175 YC GY:=Ha (T:=QE) (ic:=V6) (rs:=V5) Zb U8 Tryz.func175 (by kernel_rfl) (by kernel_rfl) (by kernel_rfl) c9l
theorem a8t:Wv Tryz.prog 155 YC QD:=Ha (T:=CQ) (ic:=Gu) (rs:=Gl) (tq Tryz.func175 d4s Zb) U8 Tryz.func155 (by kernel_rfl) (by kernel_rfl) (by kernel_rfl) a0k
theorem f0g:Wv Tryz.prog 132 Js Xl:=Ha (T:=WG) (ic:=XF) (rs:=XD) (tq Tryz.func155 a8t Zb) U8 Tryz.func132 (by kernel_rfl) (by kernel_rfl) (by kernel_rfl) e0d
theorem d7e:ZP Tryz.prog 132 (fun _:List Int×Unit=>true) (fun x:List Int×Unit=>XC x.1):=ZP.ofPure f0g fun⟨l,_⟩ h=>⟨by show(Zx l).all PV.isNum=true;simp,by show Zd _ (.tup [.int .i64 (XC ((Zx l).map PV.asInt)).1,.int .i64 (XC ((Zx l).map PV.asInt)).2]);rw[Xx];exact Zp (x:=XC l) rfl⟩
theorem c7y:ZP Tryz.prog 134 (fun x:List Int×Unit=>decide (x.1.length<=2000000)) (fun x:List Int×Unit=>x.1):=b5j (α:=Int) (by decide) (d0l g4f (by decide))
theorem EY:ZP Tryz.prog 157 (fun _:Str×Int×Unit=>true) (fun x:Str×Int×Unit=>WB x.1 x.2.1):=dq f4a Zb Tryz.func157
theorem g1s:Xh Tryz.prog 156 Pe a3j:=FI (T:=d6e) (ic:=b7k) (rs:=b1o) (tq Tryz.func157 EY Zb) U8 Tryz.func156 (by kernel_rfl) (by kernel_rfl) (by kernel_rfl) f3f
theorem g1p:Xh Tryz.prog 135 Ua R5:=FI (T:=M5) (ic:=CY) (rs:=CX) (tq Tryz.func156 g1s Zb) U8 Tryz.func135 (by kernel_rfl) (by kernel_rfl) (by kernel_rfl) e9k
theorem g1q:Xh Tryz.prog 107 Ua a2q:=FI (T:=d9q) (ic:=b7o) (rs:=b6n) (tq Tryz.func135 g1p Zb) U8 Tryz.func107 (by kernel_rfl) (by kernel_rfl) (by kernel_rfl) f1z
theorem a6a:ZP Tryz.prog 133 (fun x:Str×List Int×Unit=>decide (x.2.1.length<=2000000)) (fun x:Str×List Int×Unit=>x.2.1.all (WB x.1)):=dq a5e (tq Tryz.func107 g1q Zb) Tryz.func133
theorem c6h:ZP Tryz.prog 106 (fun x:Str×List Int×List Int×Unit=>decide (x.2.1.length<=2000000)&&decide (x.2.2.1.length<=2000000)) (fun x:Str×List Int×List Int×Unit=>Gb x.1 x.2.1 x.2.2.1):=dq d4m (tq Tryz.func132 d7e (tq Tryz.func133 a6a (tq Tryz.func134 c7y Zb))) Tryz.func106
theorem EZ:ZP Tryz.prog 75 (fun x:Arr×Unit=>Li x.1) (fun x:Arr×Unit=>NY x.1):=dq e7l (tq Tryz.func106 c6h Zb) Tryz.func75
theorem b0j:ZP Tryz.prog 52 (fun x:Tm×Unit=>nW x.1) (fun x:Tm×Unit=>Bt x.1):=dq c6l (tq Tryz.func72 UO (tq Tryz.func73 Bn (tq Tryz.func74 NI (tq Tryz.func75 EZ (tq Tryz.func76 b0w (tq Tryz.func77 Hq Zb)))))) Tryz.func52
theorem g0j:Xh Tryz.prog 51 Bh (Ew 70):=FI (T:=b6o) (ic:=ED) (rs:=a2m) Zb U8 Tryz.func51 (by kernel_rfl) (by kernel_rfl) (by kernel_rfl) e2w
theorem d0c{cd:Code}(h:DN Tryz.prog e1l Tryz.f28 0=some cd):BU Tryz.prog cd=some (.t 7,[8,9],Ls,Lc):=by
 have:(DN Tryz.prog e1l Tryz.f28 0).bind (BU Tryz.prog)=some (.t 7,[8,9],Ls,Lc):=by kernel_rfl
 rw[h]at this
 exact this
theorem f2y(e:Yn Tryz.prog DL): ∀ (B:Nat) (c:Ctx),c.w0.heap.size=B->(∀ i m,0<=i->c.μ0 i m=none)->e1r (PZ B 4 e U8) (fun n cd=>DN Tryz.prog e1l Tryz.f28 n=some cd) tvE c:=by
 rintro B c g j n cd b st a w q hr ⟨rfl,h⟩
 exact c6m e U8 e4f (fun x=>by obtain⟨t,l⟩:=x;rfl) (d0c b) g j hr h
theorem c5b:Yn Tryz.prog DL:=(tq Tryz.func51 g0j (tq Tryz.func52 b0j Zb))
theorem DI:ZP Tryz.prog 28 (fun x:Tm×Unit=>gW x.1) (fun x:Tm×Unit=>YJ x.1):=ZP.ofM (T:=DL) (ic:=Ti) (rs:=Cb) (E:=tvE) (sel:=e1l) c5b U8 Tryz.func28 (by kernel_rfl) (by kernel_rfl) (by kernel_rfl) (f2y c5b) e8l
theorem Me:Yn Tryz.prog We:=(tq Tryz.func176 d8q (tq Tryz.func105 J3 Zb))
theorem c7f{cd:Code}(h:DN Tryz.prog e1c Tryz.f160 0=some cd):Br Tryz.prog cd=some e0f:=by
 have:(DN Tryz.prog e1c Tryz.f160 0).bind (Br Tryz.prog)=some e0f:=by kernel_rfl
 rw[h]at this
 exact this
theorem f0p(args:List AV)(os:List AObj)(h:WK args os=true)(c:Ctx)(e : ∀ i m,os.length<=i->c.μ0 i m=none):e1r (Pd Me U8) (fun n cd=>DN Tryz.prog e1c Tryz.f160 n=some cd) EB c:=by
 rintro n cd b st a w q hr ⟨rfl,g⟩
 have h2:os.length=2:=by
  unfold WK at h
  split at h
  ·rfl
  ·cases h
 rw[h2]at e
 exact f3e Me U8 (c7f b) e hr g
theorem e6y:Xh Tryz.prog 160 WK Jv:=g6m (T:=We) (ic:=X4) (rs:=X6) (E:=EB) (sel:=e1c) Me U8 Tryz.func160 (by kernel_rfl) (by kernel_rfl) (by kernel_rfl) f0p d7s d7r
theorem g3t:Xh Tryz.prog 160 WK Pi:=e9f e6y
theorem g3i:Xh Tryz.prog 159 Kn Pf:=FI (T:=Gt) (ic:=Kr) (rs:=Kw) Zb U8 Tryz.func159 (by kernel_rfl) (by kernel_rfl) (by kernel_rfl) f0z
theorem Gf:ZP Tryz.prog 139 (fun x:Lin×Lin×Int×Unit=>ZZ x.1&&ZZ x.2.1) (fun x:Lin×Lin×Int×Unit=>ZV x.1 x.2.1 x.2.2.1):=dq a6n (tq Tryz.func105 J3 (tq Tryz.func159 g3i (tq Tryz.func160 g3t Zb))) Tryz.func139
theorem FY:ZP Tryz.prog 113 (fun x:Lin×Lin×Unit=>ZZ x.1&&ZZ x.2.1) (fun x:Lin×Lin×Unit=>ZV x.1 x.2.1 1):=dq c8r (tq Tryz.func139 Gf Zb) Tryz.func113
theorem TJ:ZP Tryz.prog 112 (fun x:Lin×Int×Unit=>ZZ x.1) (fun x:Lin×Int×Unit=>QS x.1 x.2.1):=dq b8r (tq Tryz.func139 Gf Zb) Tryz.func112
theorem c9t:ZP Tryz.prog 138 (fun _:Int×Unit=>true) (fun x:Int×Unit=>(⟨x.1,[]⟩:Lin)):=dq e9t Zb Tryz.func138
theorem O1:ZP Tryz.prog 114 (fun x:Lin×Lin×Unit=>ZZ x.1&&ZZ x.2.1) (fun x:Lin×Lin×Unit=>ZV x.1 x.2.1 (-1)):=dq d0f (tq Tryz.func139 Gf Zb) Tryz.func114
theorem b7v:ZP Tryz.prog 137 (fun _:Str×Unit=>true) (fun x:Str×Unit=>Rk x.1):=dq f2e Zb Tryz.func137
theorem JQ:ZP Tryz.prog 98 (fun x:Str×Unit=>decide (x.1.s.length<=1048576)) (fun x:Str×Unit=>Qn x.1):=dq e8j (tq Tryz.func95 Ck (tq Tryz.func123 OW Zb)) Tryz.func98
theorem f8u:Wv Tryz.prog 99 RF a2o:=Ha (T:=e0i) (ic:=b8f) (rs:=b2s) Zb U8 Tryz.func99 (by kernel_rfl) (by kernel_rfl) (by kernel_rfl) fun ps h=>c3l (f3j ps h)
theorem a4p:ZP Tryz.prog 64 (fun x:Str×Unit=>decide (x.1.s.length<=1048576)) (fun x:Str×Unit=>Hf x.1):=dq e9d (tq Tryz.func89 UR (tq Tryz.func90 e6f Zb)) Tryz.func64
theorem a3c:ZP Tryz.prog 66 (fun x:Str×Unit=>decide (x.1.s.length<=1048576)) (fun x:Str×Unit=>Ws x.1):=dq f1c (tq Tryz.func94 JL (tq Tryz.func95 Ck (tq Tryz.func96 Ht (tq Tryz.func72 UO (tq Tryz.func97 Bw (tq Tryz.func98 JQ (tq Tryz.func89 UR (tq Tryz.func99 f8u Zb)))))))) Tryz.func66
theorem MS:ZP Tryz.prog 48 (fun _:Str×Unit=>true) (fun x:Str×Unit=>KN x.1):=dq e6p (tq Tryz.func64 a4p (tq Tryz.func65 e4v (tq Tryz.func66 a3c Zb))) Tryz.func48
theorem f8c:Wv Tryz.prog 124 a1u a3u:=Ha (T:=b9e) (ic:=Eu) (rs:=a1j) Zb U8 Tryz.func124 (by kernel_rfl) (by kernel_rfl) (by kernel_rfl) fun ps h=>c3l (d3y ps h)
theorem a0w:ZP Tryz.prog 101 (fun _:Str×Bool×Unit=>true) (fun x:Str×Bool×Unit=>Dv x.1 x.2.1):=dq e0e (tq Tryz.func124 f8c Zb) Tryz.func101
theorem d0s:ZP Tryz.prog 115 (fun x:Str×Unit=>decide (x.1.s.length<=1048576)) (fun x:Str×Unit=>evB x.1.s):=dq f0o (tq Tryz.func140 c6q Zb) Tryz.func115
theorem c6n:ZP Tryz.prog 141 (fun x:Lin×Unit=>XG x.1) (fun x:Lin×Unit=> !(Zt x.1)):=dq e9s (tq Tryz.func105 Jw Zb) Tryz.func141
theorem f1b:ZP Tryz.prog 129 (fun x:List Lin×FnV 141×Unit=>decide (x.1.length<=1048576)&&x.1.all XG) (fun x:List Lin×FnV 141×Unit=>XU (fun l:Lin=> !(Zt l)) x.1):=dq e7t (tq Tryz.func141 c6n Zb) Tryz.func129
theorem e9e:ZP Tryz.prog 103 (fun x:List Lin×FnV 141×Unit=>decide (x.1.length<=1048576)&&x.1.all XG) (fun x:List Lin×FnV 141×Unit=>x.1.any fun l:Lin=> !(Zt l)):=dq e9y (tq Tryz.func129 f1b Zb) Tryz.func103
theorem a4s:ZP Tryz.prog 116 (fun x:Sp×Unit=>spW x.1) (fun x:Sp×Unit=>shV x.1.row x.1.dims):=dq b7p (tq Tryz.func130 TZ (tq Tryz.func103 e9e Zb)) Tryz.func116
theorem LQ:ZP Tryz.prog 80 (fun x:TyS×Unit=>Ro x.1) (fun x:TyS×Unit=>Du x.1):=dq a5v (tq Tryz.func115 d0s (tq Tryz.func116 a4s Zb)) Tryz.func80
theorem Y2: Z9 Tryz.prog 38 ZH Y4 [] [] (fun(s:PS) (a:Int×Unit)=>Ze s&&(decide (0<=a.1)&&decide (a.1<=1000))) Nu:=Bu (f2m) ZQ Zb Tryz.func38
theorem UB: Z9 Tryz.prog 50 ZH Y4 [] [] (fun(s:PS) (_:Unit)=>Ze s) FQ:=Bu (e9g) ZQ (tq Tryz.func38 Y2 Zb) Tryz.func50
theorem Wu: Z9 Tryz.prog 37 ZH Y4 [] [] (fun(s:PS) (_:Str×Unit)=>Ze s) D5:=Bu (e6n) ZQ (tq Tryz.func38 Y2 Zb) Tryz.func37
theorem YP: Z9 Tryz.prog 35 ZH Y4 [] [] (fun(s:PS) (_:Str×Unit)=>Ze s) Oy:=Bu (e7o) ZQ (tq Tryz.func37 Wu Zb) Tryz.func35
theorem VO: Z9 Tryz.prog 33 ZH Y4 [] [] (fun(s:PS) (_:Str×Unit)=>Ze s) NS:=Bu (e6x) ZQ (tq Tryz.func35 YP (tq Tryz.func50 UB Zb)) Tryz.func33
theorem W9: Z9 Tryz.prog 34 ZH Y4 [] [] (fun(s:PS) (_:Unit)=>Ze s) NG:=Bu (f0h) ZQ (tq Tryz.func38 Y2 (tq Tryz.func50 UB Zb)) Tryz.func34
theorem Vj: Z9 Tryz.prog 100 ZH Y4 [] [] (fun(s:PS) (_:Int×Unit)=>Ze s) b3v:=Bu (f1y) ZQ (tq Tryz.func38 Y2 (tq Tryz.func98 JQ (tq Tryz.func50 UB Zb))) Tryz.func100
theorem PU: Z9 Tryz.prog 111 ZH Y4 [] [] (fun(s:PS) (_:Lin×Int×Unit)=>Ze s) FC:=Bu (f1f) ZQ Zb Tryz.func111
theorem b2n: Z9 Tryz.prog 110 ZH Y4 [] [] (fun(s:PS) (_:Unit)=>Ze s) Og:=Bu (e7s) ZQ (tq Tryz.func38 Y2 (tq Tryz.func34 W9 (tq Tryz.func137 b7v (tq Tryz.func100 Vj (tq Tryz.func111 PU (tq Tryz.func112 TJ (tq Tryz.func138 c9t Zb))))))) Tryz.func110
theorem Bv: Z9 Tryz.prog 79 ZH Y4 [] [] (fun(s:PS) (_:Unit)=>Ze s) c5x:=Bu (f1u) ZQ (tq Tryz.func35 YP (tq Tryz.func110 b2n (tq Tryz.func111 PU (tq Tryz.func112 TJ (tq Tryz.func113 FY (tq Tryz.func114 O1 (tq Tryz.func105 J3 Zb))))))) Tryz.func79
theorem a6u: Z9 Tryz.prog 36 (RA 34) CZ [] [] (fun(s:PS) (_:Unit)=>Ze s) (Xn PS.name):=Bu (f3i) (HY _) (tq Tryz.func34 W9 (tq Tryz.func35 YP Zb)) Tryz.func36
theorem Rb: Z9 Tryz.prog 78 (RA 79) CZ [] [] (fun(s:PS) (_:Unit)=>Ze s) (Xn PS.linear):=Bu (e7a) (HY _) (tq Tryz.func79 Bv (tq Tryz.func35 YP Zb)) Tryz.func78
theorem Hy: Z9 Tryz.prog 127 ZH Y4 [] [] (fun(s:PS) (_:Unit)=>Ze s) OG:=Bu (f3q) ZQ (tq Tryz.func34 W9 (tq Tryz.func35 YP Zb)) Tryz.func127
theorem Mj: Z9 Tryz.prog 69 ZH Y4 [] [] (fun(s:PS) (_:Unit)=>Ze s) NF:=Bu (f1x) ZQ (tq Tryz.func38 Y2 (tq Tryz.func101 a0w Zb)) Tryz.func69
theorem O8: Z9 Tryz.prog 57 ZH Y4 [] [] (fun(s:PS) (_:Unit)=>Ze s) d0p:=Bu (e8c) ZQ (tq Tryz.func35 YP (tq Tryz.func38 Y2 (tq Tryz.func34 W9 (tq Tryz.func37 Wu (tq Tryz.func33 VO (tq Tryz.func78 Rb (tq Tryz.func80 LQ (tq Tryz.func50 UB Zb)))))))) Tryz.func57
theorem E8: Z9 Tryz.prog 153 c8a CZ [.box [.ptr 1 0]] [] (fun(s:PS) (_:Unit)=>Ze s) Ox:=Bu (f0k) c5k (tq Tryz.func100 Vj Zb) Tryz.func153
theorem b1c: Z9 Tryz.prog 152 (c8l 153) CZ [] [.box [.ptr 0 0]] (fun(s:PS) (_:Unit)=>Ze s) (Xn PS.numM):=Bu (f2o) (c1p _) (tq Tryz.func153 E8 (tq Tryz.func35 YP Zb)) Tryz.func152
theorem NA: Z9 Tryz.prog 128 ZH Y4 [] [] (fun(s:PS) (_:Unit)=>Ze s) c7n:=Bu (e6b) ZQ (tq Tryz.func38 Y2 (tq Tryz.func33 VO (tq Tryz.func100 Vj (tq Tryz.func37 Wu (tq Tryz.func35 YP Zb))))) Tryz.func128
theorem d0o{N:Nat}(a:Z9 Tryz.prog 26 ZH Y4 [] [] (fun(s:PS) (_:Unit)=>Ze s&&decide (s.l.length - s.i<N)) (Ho N)):Z9 Tryz.prog 126 (RA 26) CZ [] [] (fun(s:PS) (_:Unit)=>Ze s&&decide (s.l.length - s.i<N)) (Xn (Z0 N)):=Bu (f4c N) (HY _) (tq Tryz.func26 a (tq Tryz.func35 YP Zb)) Tryz.func126
theorem d0k{N:Nat}(a:Z9 Tryz.prog 126 (RA 26) CZ [] [] (fun(s:PS) (_:Unit)=>Ze s&&decide (s.l.length - s.i<N)) (Xn (Z0 N))):Z9 Tryz.prog 125 ZH Y4 [] [] (fun(s:PS) (_:Unit)=>Ze s&&decide (s.l.length - s.i<N+1)) (Ke N):=Bu ((d1h N)) ZQ (tq Tryz.func38 Y2 (tq Tryz.func127 Hy (tq Tryz.func109 KG (tq Tryz.func37 Wu (tq Tryz.func35 YP (tq Tryz.func78 Rb (tq Tryz.func33 VO (tq Tryz.func100 Vj (tq Tryz.func152 b1c (tq Tryz.func126 a Zb)))))))))) Tryz.func125
theorem c6i{N:Nat}(a:Z9 Tryz.prog 26 ZH Y4 [] [] (fun(s:PS) (_:Unit)=>Ze s&&decide (s.l.length - s.i<N)) (Ho N))(b:Z9 Tryz.prog 126 (RA 26) CZ [] [] (fun(s:PS) (_:Unit)=>Ze s&&decide (s.l.length - s.i<N)) (Xn (Z0 N)))(hn:Z9 Tryz.prog 125 ZH Y4 [] [] (fun(s:PS) (_:Unit)=>Ze s&&decide (s.l.length - s.i<N+1)) (Ke N)):Z9 Tryz.prog 102 ZH Y4 [] [] (fun(s:PS) (_:Unit)=>Ze s&&decide (s.l.length - s.i<N+1)) (Py N):=Bu ((e7g N)) ZQ (tq Tryz.func38 Y2 (tq Tryz.func100 Vj (tq Tryz.func125 hn (tq Tryz.func37 Wu (tq Tryz.func35 YP (tq Tryz.func26 a (tq Tryz.func33 VO (tq Tryz.func126 b (tq Tryz.func127 Hy (tq Tryz.func79 Bv (tq Tryz.func128 NA (tq Tryz.func50 UB Zb)))))))))))) Tryz.func102
theorem c5v{N:Nat}(hu:Z9 Tryz.prog 68 ZH Y4 [] [] (fun(s:PS) (_:Unit)=>Ze s&&decide (s.l.length - s.i<N)) (unF N))(a:Z9 Tryz.prog 102 ZH Y4 [] [] (fun(s:PS) (_:Unit)=>Ze s&&decide (s.l.length - s.i<N+1)) (Py N)):Z9 Tryz.prog 68 ZH Y4 [] [] (fun(s:PS) (_:Unit)=>Ze s&&decide (s.l.length - s.i<N+1)) (unF (N+1)):=Bu ((f1h N)) ZQ (tq Tryz.func38 Y2 (tq Tryz.func37 Wu (tq Tryz.func100 Vj (tq Tryz.func101 a0w (tq Tryz.func68 hu (tq Tryz.func102 a Zb)))))) Tryz.func68
theorem Mg{N:Nat}(b:Z9 Tryz.prog 68 ZH Y4 [] [] (fun(s:PS) (_:Unit)=>Ze s&&decide (s.l.length - s.i<N+1)) (unF (N+1))): ∀ m:Nat,Z9 Tryz.prog 67 mkB unI [.box [.ptr 2 0],.box [.fn 67 [] [.ptr 0 0,.ptr 1 0]]] [] (fun(s:PS) (a:Int×Unit)=>(Ze s&&decide (s.l.length - s.i<N+1))&&(decide (1<=a.1)&&(decide ((6 - (m:Int))<a.1)&&decide (a.1<=6)))) (Ug (N+1))
 | 0=>Z9.none (fun s a=>by
   rw[Bool.eq_false_iff]
   intro h
   simp only[Bool.and_eq_true,decide_eq_true_eq]at h
   omega)
 | m+1=>by
  have e:=Mg b m
  rw[show(6 - ((m+1:Nat):Int))=6 - (m:Int) - 1 by omega]
  exact Bu (e9a N (6 - (m:Int))) a3v (tq Tryz.func68 b (tq Tryz.func67 e (tq Tryz.func69 Mj Zb))) Tryz.func67
theorem c5r{N:Nat}(b:Z9 Tryz.prog 68 ZH Y4 [] [] (fun(s:PS) (_:Unit)=>Ze s&&decide (s.l.length - s.i<N+1)) (unF (N+1))):Z9 Tryz.prog 67 mkB unI [.box [.ptr 2 0],.box [.fn 67 [] [.ptr 0 0,.ptr 1 0]]] [] (fun(s:PS) (a:Int×Unit)=>(Ze s&&decide (s.l.length - s.i<N+1))&&(decide (1<=a.1)&&decide (a.1<=6))) (Ug (N+1)):=Z9.weaken a3v (Mg b 6) (fun s a h=>by
  simp only[Bool.and_eq_true,decide_eq_true_eq]at h ⊢
  exact⟨h.1,h.2.1,by have:=h.2.1;show(6:Int) - 6<_;omega,h.2.2⟩) (fun _ _ _=>rfl)
theorem c7h{N:Nat}(hb:Z9 Tryz.prog 67 mkB unI [.box [.ptr 2 0],.box [.fn 67 [] [.ptr 0 0,.ptr 1 0]]] [] (fun(s:PS) (a:Int×Unit)=>(Ze s&&decide (s.l.length - s.i<N+1))&&(decide (1<=a.1)&&decide (a.1<=6))) (Ug (N+1))):Z9 Tryz.prog 49 ZH Y4 [] [] (fun(s:PS) (_:Unit)=>Ze s&&decide (s.l.length - s.i<N+1)) (b8l (N+1)):=Bu ((f2w N)) ZQ (tq Tryz.func67 hb Zb) Tryz.func49
theorem c9i{N:Nat}(a:Z9 Tryz.prog 26 ZH Y4 [] [] (fun(s:PS) (_:Unit)=>Ze s&&decide (s.l.length - s.i<N)) (Ho N))(hb:Z9 Tryz.prog 49 ZH Y4 [] [] (fun(s:PS) (_:Unit)=>Ze s&&decide (s.l.length - s.i<N+1)) (b8l (N+1))):Z9 Tryz.prog 26 ZH Y4 [] [] (fun(s:PS) (_:Unit)=>Ze s&&decide (s.l.length - s.i<N+1)) (Ho (N+1)):=Bu (f2b N) ZQ (tq Tryz.func37 Wu (tq Tryz.func49 hb (tq Tryz.func38 Y2 (tq Tryz.func34 W9 (tq Tryz.func33 VO (tq Tryz.func26 a Zb)))))) Tryz.func26
theorem c4u: ∀ N:Nat,Z9 Tryz.prog 26 ZH Y4 [] [] (fun(s:PS) (_:Unit)=>Ze s&&decide (s.l.length - s.i<N)) (Ho N)∧Z9 Tryz.prog 68 ZH Y4 [] [] (fun(s:PS) (_:Unit)=>Ze s&&decide (s.l.length - s.i<N)) (unF N)
 | 0=>⟨Z9.none (fun s a=>by simp),Z9.none (fun s a=>by simp)⟩
 | N+1=>by
  obtain⟨e,hu⟩:=c4u N
  have g:=d0o e
  have b:=c5v hu (c6i e g (d0k g))
  exact⟨c9i e (c7h (c5r b)),b⟩
theorem b3j:Z9 Tryz.prog 26 ZH Y4 [] [] (fun(s:PS) (_:Unit)=>Ze s) a0o:=Z9.weaken ZQ (c4u 4001).1 (fun s a h=>by
  have h0:=(Zv h).1
  rw[h]
  exact decide_eq_true (by omega)) (fun _ _ _=>rfl)
theorem a7y: Z9 Tryz.prog 56 ZH Y4 [] [] (fun(s:PS) (_:Unit)=>Ze s) Tk:=Bu (e8h) ZQ (tq Tryz.func34 W9 (tq Tryz.func35 YP (tq Tryz.func57 O8 Zb))) Tryz.func56
theorem a6g: Z9 Tryz.prog 55 (RA 56) CZ [] [] (fun(s:PS) (_:Unit)=>Ze s) (Xn PS.param):=Bu (e7i) (HY _) (tq Tryz.func56 a7y (tq Tryz.func35 YP Zb)) Tryz.func55
theorem c9e: Z9 Tryz.prog 27 ZH Y4 [] [] (fun(s:PS) (_:Unit)=>Ze s) Ej:=Bu (f2p) ZQ (tq Tryz.func50 UB Zb) Tryz.func27
theorem g7w:Xh Tryz.prog 25 Aq Ez:=FI (T:=c4e) (ic:=EI) (rs:=a4o) (tq Tryz.func48 MS Zb) U8 Tryz.func25 (by kernel_rfl) (by kernel_rfl) (by kernel_rfl) e8b
theorem d0m: Z9 Tryz.prog 39 ZH Y4 [] [] (fun(s:PS) (_:Unit)=>Ze s&&ZR s.l) c8v:=Bu (e7d) ZQ (tq Tryz.func38 Y2 (tq Tryz.func33 VO (tq Tryz.func34 W9 (tq Tryz.func37 Wu (tq Tryz.func55 a6g (tq Tryz.func35 YP (tq Tryz.func57 O8 (tq Tryz.func26 b3j (tq Tryz.func28 DI Zb))))))))) Tryz.func39
theorem a6f:ZP Tryz.prog 18 (fun _:Str×Unit=>true) (fun x:Str×Unit=>BS x.1):=dq f0y (tq Tryz.func25 g7w (tq Tryz.func33 VO (tq Tryz.func34 W9 (tq Tryz.func35 YP (tq Tryz.func36 a6u (tq Tryz.func37 Wu (tq Tryz.func38 Y2 (tq Tryz.func39 d0m (tq Tryz.func27 c9e Zb))))))))) Tryz.func18
theorem a5l:ZP Tryz.prog 86 (fun _:UInt8×Unit=>true) (fun x:UInt8×Unit=>digB x.1):=dq d4a Zb Tryz.func86
theorem LY:ZP Tryz.prog 87 (fun _:UInt8×Unit=>true) (fun x:UInt8×Unit=>lowB x.1):=dq e2e Zb Tryz.func87
theorem a0g:ZP Tryz.prog 85 (fun _:Int×Unit=>true) (fun x:Int×Unit=>YD x.1):=dq b9a Zb Tryz.func85
theorem TW:ZP Tryz.prog 61 (fun _:Str×Unit=>true) (fun x:Str×Unit=>nameB x.1):=dq c9y (tq Tryz.func86 a5l (tq Tryz.func87 LY Zb)) Tryz.func61
theorem BK:ZP Tryz.prog 60 (fun x:Lin×Unit=>Wx x.1) (fun x:Lin×Unit=>Zt x.1):=dq b6p (tq Tryz.func85 a0g (tq Tryz.func61 TW Zb)) Tryz.func60
theorem d8i:Wv Tryz.prog 142 Js Xl:=Ha (T:=Xi) (ic:=YQ) (rs:=YU) Zb U8 Tryz.func142 (by kernel_rfl) (by kernel_rfl) (by kernel_rfl) c7p
theorem c8o:ZP Tryz.prog 142 (fun _:List Int×Unit=>true) (fun x:List Int×Unit=>XC x.1):=ZP.ofPure d8i fun⟨l,_⟩ h=>⟨by show(Zx l).all PV.isNum=true;simp,by show Zd _ (.tup [.int .i64 (XC ((Zx l).map PV.asInt)).1,.int .i64 (XC ((Zx l).map PV.asInt)).2]);rw[Xx];exact Zp (x:=XC l) rfl⟩
theorem d0j:ZP Tryz.prog 144 (fun x:List Int×Unit=>decide (x.1.length<=2000000)) (fun x:List Int×Unit=>x.1):=dq c6x Zb Tryz.func144
theorem Ff:ZP Tryz.prog 143 (fun _:Str×Int×Unit=>true) (fun x:Str×Int×Unit=>WB x.1 x.2.1):=dq e4o Zb Tryz.func143
theorem b8c:ZP Tryz.prog 117 (fun x:Str×List Int×List Int×Unit=>decide (x.2.1.length<=2000000)&&decide (x.2.2.1.length<=2000000)) (fun x:Str×List Int×List Int×Unit=>Gb x.1 x.2.1 x.2.2.1):=dq c9d (tq Tryz.func142 c8o (tq Tryz.func143 Ff (tq Tryz.func144 d0j Zb))) Tryz.func117
theorem LF:ZP Tryz.prog 82 (fun x:Arr×Unit=>Li x.1) (fun x:Arr×Unit=>NY x.1):=dq d9t (tq Tryz.func117 b8c Zb) Tryz.func82
theorem EN:ZP Tryz.prog 42 (fun _:UInt8×Unit=>true) (fun x:UInt8×Unit=>lowB x.1):=dq b6a Zb Tryz.func42
theorem a5d:ZP Tryz.prog 43 (fun _:UInt8×Unit=>true) (fun x:UInt8×Unit=>digB x.1):=dq b5b Zb Tryz.func43
theorem Rh:ZP Tryz.prog 44 (fun _:Str×Unit=>true) (fun x:Str×Unit=>Q5.contains x.1.s):=dq e4g Zb Tryz.func44
theorem UM:ZP Tryz.prog 20 (fun x:Str×Unit=>decide (x.1.s.length<=1048576)) (fun x:Str×Unit=>nameI x.1.s):=dq d0b (tq Tryz.func42 EN (tq Tryz.func43 a5d (tq Tryz.func44 Rh Zb))) Tryz.func20
theorem Fa:ZP Tryz.prog 118 (fun x:Str×Unit=>decide (x.1.s.length<=1048576)) (fun x:Str×Unit=>fullI x.1.s):=dq c6o (tq Tryz.func20 UM Zb) Tryz.func118
theorem Re:ZP Tryz.prog 84 (fun x:Str×Unit=>decide (x.1.s.length<=1048576)) (fun x:Str×Unit=>L6 x.1.s):=dq d7u (tq Tryz.func20 UM (tq Tryz.func118 Fa Zb)) Tryz.func84
theorem a3k:ZP Tryz.prog 81 (fun x:Tm×Bool×Bool×Bool×Bool×Bool×Unit=>nW x.1) (fun x:Tm×Bool×Bool×Bool×Bool×Bool×Unit=>YB x.1.nd x.2.1 x.2.2.1 x.2.2.2.1 x.2.2.2.2.1 x.2.2.2.2.2.1):=dq b5p Zb Tryz.func81
theorem Fb:ZP Tryz.prog 83 (fun x:List Lin×Unit=>decide (x.1.length<=1048576)&&x.1.all Wx) (fun x:List Lin×Unit=>x.1.all Zt):=dq d9u (tq Tryz.func60 BK Zb) Tryz.func83
theorem a7z:ZP Tryz.prog 58 (fun x:Tm×Unit=>nW x.1) (fun x:Tm×Unit=>Bt x.1):=dq d0g (tq Tryz.func20 UM (tq Tryz.func81 a3k (tq Tryz.func84 Re (tq Tryz.func83 Fb (tq Tryz.func82 LF Zb))))) Tryz.func58
theorem b6e:ZP Tryz.prog 41 (fun x:Tm×Unit=>gW x.1) (fun x:Tm×Unit=>Gr x.1):=ZP.rec (fun a=>Xu a.1) fun N b=>dq (d7j N) (tq Tryz.func41 b (tq Tryz.func58 a7z Zb)) Tryz.func41
theorem LK:ZP Tryz.prog 14 (fun x:Tm×Unit=>gW x.1) (fun x:Tm×Unit=>(Xu x.1:Int)):=ZP.rec (fun a=>Xu a.1) fun N b=>dq (e2s N) (tq Tryz.func14 b Zb) Tryz.func14
theorem EC:ZP Tryz.prog 40 (fun x:Tm×Unit=>gW x.1) (fun x:Tm×Unit=>(Yu x.1:Int)):=ZP.rec (fun a=>Xu a.1) fun N b=>dq (d0t N) (tq Tryz.func40 b Zb) Tryz.func40
theorem L8:ZP Tryz.prog 19 (fun x:Tm×Unit=>gW x.1) (fun x:Tm×Unit=>YJ x.1):=dq b4d (tq Tryz.func40 EC (tq Tryz.func14 LK (tq Tryz.func41 b6e Zb))) Tryz.func19
noncomputable def ivC(f:Nat):Option (IC×Nat×List IRes):=c6v Tryz.prog f
theorem a1n:ZP Tryz.prog 9 (fun _:Unit=>true) (fun _:Unit=>true):=ZP.iv (C:=ivC) (fun _ _ h=>h) (TB MS Tryz.func48 (by kernel_rfl) (TB JQ Tryz.func98 (by kernel_rfl) (TB KG Tryz.func109 (by kernel_rfl) (TB a0w Tryz.func101 (by kernel_rfl) (TB FY Tryz.func113 (by kernel_rfl) (TB O1 Tryz.func114 (by kernel_rfl) (TB Jw Tryz.func105 (by kernel_rfl) (TB DI Tryz.func28 (by kernel_rfl) Zb)))))))) U8 50 60 (fun _ _=>⟨.bool true,by kernel_rfl,rfl,rfl⟩)
theorem b2x:ZP Tryz.prog 59 (fun x:Str×Unit=>decide (x.1.s.length<=1048576)) (fun x:Str×Unit=>evB x.1.s):=ZP.of (T:=Kv) (ic:=U4) (rs:=U3) Zb U8 Tryz.func59 (by kernel_rfl) (by kernel_rfl) (by kernel_rfl) c9r
theorem b2z:ZP Tryz.prog 45 (fun x:Str×Unit=>decide (x.1.s.length<=1048576)) (fun x:Str×Unit=>OQ x.1.s):=ZP.of (T:=a4i) (ic:=MG) (rs:=MM) (Wz (ent Tryz.func59 (by kernel_rfl) b2x) Zb) U8 Tryz.func45 (by kernel_rfl) (by kernel_rfl) (by kernel_rfl) c8k
theorem LP:ZP Tryz.prog 46 (fun x:Sp×Unit=>spW x.1) (fun x:Sp×Unit=>shV x.1.row x.1.dims):=ZP.of (T:=Hl) (ic:=QR) (rs:=QY) (Wz (ent Tryz.func60 (by kernel_rfl) BK) (Wz (ent Tryz.func61 (by kernel_rfl) TW) Zb)) U8 Tryz.func46 (by kernel_rfl) (by kernel_rfl) (by kernel_rfl) c7i
theorem LZ:ZP Tryz.prog 21 (fun x:TyS×Unit=>yW x.1) (fun x:TyS×Unit=>Du x.1):=ZP.of (T:=a4l) (ic:=Lt) (rs:=Mw) (Wz (ent Tryz.func45 (by kernel_rfl) b2z) (Wz (ent Tryz.func46 (by kernel_rfl) LP) Zb)) U8 Tryz.func21 (by kernel_rfl) (by kernel_rfl) (by kernel_rfl) c7v
theorem Cn:ZP Tryz.prog 6 (fun _:Str×Unit=>true) (fun _:Str×Unit=>true):=ZP.of (T:=Qg) (ic:=VF) (rs:=VJ) (Wz (ent Tryz.func9 (by kernel_rfl) a1n) (Wz (ent Tryz.func18 (by kernel_rfl) a6f) (Wz (ent Tryz.func19 (by kernel_rfl) L8) (Wz (ent Tryz.func20 (by kernel_rfl) UM) (Wz (ent Tryz.func21 (by kernel_rfl) LZ) Zb))))) U8 Tryz.func6 (by kernel_rfl) (by kernel_rfl) (by kernel_rfl) d3a
end Go.Proofs.YtgclceacfcdigaaGreatDoor
