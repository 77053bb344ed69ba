/-
  Texts of mine that belong together (packed by pack.py), for every input: Post, LaidZ, PlGb, OpYa, OpJx, ShV, Sh, ShB, ShN, ShW, Cl, OkYa, OkJs.
-/
import Derived.Test.YtgclceacfcdigaaGreatDoorChecked
import Derived.Test.YtgclceacfcdigaaGreatDoorRows
import Derived.Test.YtgclceacfcdigaaGreatDoorKD2
import Derived.Test.YtgclceacfcdigaaGreatDoorKD3
import Derived.Test.YtgclceacfcdigaaGreatDoorKD4
import Derived.Test.YtgclceacfcdigaaGreatDoorKD5
import Derived.Below
import Derived.ChangeSame
import Derived.Stop.LaidErr
import Derived.Lib.LaidTab
import Derived.Shelf.Vars
import Derived.KernelRfl
import Derived.Shelf.Strings.Cut
import Derived.Shelf.Strings.Count
import Derived.Shelf.Small.Strs
import Derived.Shelf.Strconv.AtoiAll
import Derived.Shelf.Strconv.Itoa3
import Derived.Shelf.Strings.Prefix
import Derived.Shelf.Sort.Plain
import Derived.Shelf.Slices.In.SortNone
import Derived.Shelf.Strings.SlTrimAscii
import Derived.WalkKit
import Derived.Deep.LoopGhost
import Derived.Lib.Walk
import Derived.Lib.SliceRun
set_option linter.unusedVariables false
set_option linter.unusedSimpArgs false
set_option linter.defProp false
namespace Go.Proofs.YtgclceacfcdigaaGreatDoor
open Go.RowKit Go.WideShapes Go.ChangeShapes
section
section
variable {H:Type} {enc:TypeId×Value->H} {P:Program}
theorem Fb{f:Func}{s:ChangeSpec}{apart fresh i u:Bool}{W W':World}{args:Array Value}{v:Value}{ds y:List (DataW H)}{e pa pv:List MemPlace}
  (C:DataW.Whole enc P f.params.toList s.vars apart W args.toList ds y e)
  (l : ∀ (b:Nat) (sp:Nat->Bool) (hd:Bool),DataW.TrodAll enc P W' b sp hd f.resultTypes.toList (v.resultList f.resultTypes.size) (s.fn H (ds++y)).results [])
  (h : ∀ sp:Nat->Bool,(∀ p∈e,sp p.block=true)->DataW.TrodAll enc P W' 0 sp true f.params.toList args.toList (s.fn H (ds++y)).args pa)
  (k : ∀ sp:Nat->Bool,(∀ p∈e,sp p.block=true)->DataW.TrodVars enc P W' sp s.vars (s.fn H (ds++y)).vars pv)
  (hps:e=pa++pv) (hb:Below W.heap.size W W')
  (B : ∀ (j:Nat) (t:TypeId) (r:Value),f.resultTypes[j]? = some t->(v.resultList f.resultTypes.size)[j]? = some r->Value.okWide P W' .any 0 t r) :
  s.post enc P f apart fresh i u W args v W':=by
 have z : ∀ p∈e,p.block<W.heap.size:=fun p g=>C.lt p g
 have q : ∀ p∈e,(fun b=>decide (b<W.heap.size)) p.block=true:=fun p g=>by simpa using z p g
 refine⟨ds,y,e,[],pa,pv,C,l _ _ _,h _ q,k _ q,World.keptBut_mono (fun p g=>⟨g,?_⟩) (hb.frame (· ∈ e)),fun _=> ?_⟩
 ·rw[hps,List.mem_append]at g
  exact Or.inr g
 ·obtain⟨_,_,_,_,_,D,hn⟩:=C
  refine⟨B,_,_,([]++pa)++pv,⟨[]++pa,pv,trodAll_append (h _ (fun _ _=>rfl)) (l _ _ _),k _ (fun _ _=>rfl),rfl,?_,?_⟩,?_⟩
  ·intro b off g
   have A:MemPlace.cell b off∈e:=by rw[hps];simpa using g
   rw[hb.frozen (z _ A)]
   exact D b off A
  ·intro ha
   have:=hn ha
   rw[hps]at this
   simpa using this
  ·intro p g _
   rw[hps]
   simpa using g
end
end
end Go.Proofs.YtgclceacfcdigaaGreatDoor
namespace Go.Proofs.YtgclceacfcdigaaGreatDoor
open Go.Pl Go.RowKit Go.ChangeShapes
set_option maxRecDepth 100000
theorem c4q{P:Program}{W:World}{n:String}{g:Nat}{cs:Array Value}(e:P.globalNamed n=some g)(h:W.var? P n=some cs):RO W g=some cs:=by
 unfold World.var? at h
 rw[e]at h
 simp only[Option.bind_some]at h
 unfold RO
 exact h
theorem f6w:Tryz.prog.globalNamed "internal/strconv.uint64pow10" = some 5:=by kernel_rfl
theorem h0s:Tryz.prog.globalNamed "strconv.ErrRange" = some 2:=by kernel_rfl
theorem g7r:Tryz.prog.globalNamed "strconv.ErrSyntax" = some 1:=by kernel_rfl
theorem d0g:Tryz.prog.underlying 141=some (.interface ((match Tryz.prog.underlying 141 with|some (.interface ms)=>ms|_=>#[]))):=by kernel_rfl
theorem g4o{W:World}{r:List (String×DataW Unit)}(h:laidMet Tryz.prog (("internal/strconv.uint64pow10",Rows.laid_internal_strconv_uint64pow10)::r) W):RO W 5=some NA:=by
 have h1:Lib.TabIs Tryz.prog W "internal/strconv.uint64pow10" .u64 ((List.range 20).map fun i=>((10 ^ i:Nat):Int)):=Lib.tabIs_of_head (e:=198) (t:=232) f6w (by kernel_rfl) (n:=20) (by kernel_rfl) (by kernel_rfl) (by kernel_rfl) (by kernel_rfl) h
 exact(c4q f6w h1).trans rfl
theorem e6g{W:World}{n:String}{g:Nat}{text:List UInt8}{r:List (String×DataW Unit)}(hg:Tryz.prog.globalNamed n=some g)(ht:(Tryz.prog.globals[g]?).map (·.type)=some 141)(h:laidMet Tryz.prog ((n,.iface "*errors.errorString" (.ptr (.agg [.lit (.string text)])))::r) W): ∃ cs,RO W g=some cs∧Nw cs:=by
 obtain⟨ps,⟨g0,t0,cs0,f0,p0,q0,hg0,ht0,hv0,hd0,_,e0⟩,_,hrows⟩:=h
 obtain rfl:=Option.some.inj (hg.symm.trans hg0)
 obtain rfl:=Option.some.inj (ht.symm.trans ht0)
 subst e0
 refine⟨cs0,c4q hg hv0,?_⟩
 obtain⟨f1,u,v,e,_⟩:=iface_of_trod d0g hd0
 obtain⟨l0⟩:=cs0
 have e:l0=[.iface u v]:=e
 subst e
 exact⟨_,rfl,.inr ⟨u,v,rfl⟩⟩
theorem g6r{W:World}(h:W.ShapedOpen Tryz.prog): ∃ cs m,RO W 0=some cs∧cs[0]? = some (Value.int .i64 m):=by
 obtain⟨m,hm⟩:=cell_of_shapedOpen_int (g:=0) (t:=3) (zero:=#[.int .i64 0]) (k:=.i64) h (of_decide_eq_true (by kernel_rfl)) (by kernel_rfl) rfl (by kernel_rfl) (by kernel_rfl) (by kernel_rfl)
 unfold World.cell? at hm
 unfold RO
 split at hm
 ·rename_i cs T fz e
  exact⟨cs,m,by simp only[e],by simpa using hm⟩
 ·cases hm
theorem e9s{W:World}{x y z:String×DataW Unit}{r:List (String×DataW Unit)}(h:laidMet Tryz.prog (x::y::("internal/strconv.uint64pow10",Rows.laid_internal_strconv_uint64pow10)::z::("strconv.ErrRange",Rows.laid_strconv_ErrRange)::("strconv.ErrSyntax",Rows.laid_strconv_ErrSyntax)::r) W)(hs:W.ShapedOpen Tryz.prog):GlobOK (RO W):=
 ⟨e6g g7r (by kernel_rfl) h.tail.tail.tail.tail.tail,e6g h0s (by kernel_rfl) h.tail.tail.tail.tail,g4o h.tail.tail,g6r hs⟩
noncomputable def g8m:DataW Unit->Value
 | .lit (.int k n)=>.int k n
 | _=>.int .i64 0
noncomputable def Mg:DataW Unit->Array Value
 | .agg ds=>(ds.flatMap fun | .agg es=>es.map g8m|d=>[g8m d]).toArray
 | _=>#[]
noncomputable def d2z:DataW Unit->ByteArray
 | .iface _ (.ptr (.agg [.lit (.string bs)]))=>⟨bs.toArray⟩
 | _=>⟨#[]⟩
noncomputable def low:Nat:=(World.holding Tryz.prog default ⟨#[],#[],[]⟩).heap.size
noncomputable def b8o(cs:Array Value):Obj->Obj
 | .cells _ t frozen=>.cells cs t frozen
 | o=>o
noncomputable def SV(os:Os):World:=
 let w0:=World.holding Tryz.prog os ⟨#[.cells #[.string (d2z Rows.laid_strconv_ErrRange)] 212,.cells #[.string (d2z Rows.laid_strconv_ErrSyntax)] 212],#[],[]⟩
 {w0 with heap:=((((((w0.heap.modify 2 (b8o #[.iface 210 (.pointer (some ⟨low,0,none⟩))])).modify 1 (b8o #[.iface 210 (.pointer (some ⟨low+1,0,none⟩))])).modify 5 (b8o (Mg Rows.laid_internal_strconv_uint64pow10))).modify 6 (b8o (Mg Rows.laid_math_bits_deBruijn32tab))).modify 7 (b8o (Mg Rows.laid_math_bits_deBruijn64tab))).modify 4 (b8o (Mg Rows.laid_unicode_utf8_acceptRanges))).modify 3 (b8o (Mg Rows.laid_unicode_utf8_first))}
end Go.Proofs.YtgclceacfcdigaaGreatDoor
namespace Go.Pl
open Go.RowKit Go.WideShapes Go.ChangeShapes
section
abbrev uB{H:Type}(d:DataW H):Nat:=Go.Proofs.YtgclceacfcdigaaGreatDoor.Rows.uptoBulk d
abbrev uBs{H:Type}(l:List (DataW H)):Nat:=Go.Proofs.YtgclceacfcdigaaGreatDoor.Rows.uptoBulkAll l
theorem a8g{H:Type}(d:DataW H)(l:List (DataW H)):uBs (d::l)=uB d+uBs l:=by unfold uBs uB;rw[Go.Proofs.YtgclceacfcdigaaGreatDoor.Rows.uptoBulkAll]
theorem b5a{H:Type}(d:DataW H):1<=uB d:=by
 cases d with
 | lit l=>cases l <;> simp[uB,Go.Proofs.YtgclceacfcdigaaGreatDoor.Rows.uptoBulk]
 | _=>simp[uB,Go.Proofs.YtgclceacfcdigaaGreatDoor.Rows.uptoBulk]
mutual
def pvW:PV->Nat
 | .str s=>s.length+1
 | .sl _ _ xs=>VA xs+1
 | .agg xs=>VA xs
 | _=>1
def VA:List PV->Nat
 | []=>0
 | p::ps=>pvW p+VA ps
end
theorem e1s(a b:List PV):VA (a++b)=VA a+VA b:=by
 induction a with
 | nil=>simp[VA]
 | cons x a ih=>rw[List.cons_append,VA,ih,VA];omega
theorem g6t{P:Program}{e:TypeId}{q:List PV}(g:Wo P e=true∨P.cellsOf e=1)(h:q.length=P.cellsOf e):pvW (Rm P e q)<=VA q:=by
 cases ha:Wo P e with
 | true=>simp only[Rm,ha];rw[pvW];exact Nat.le_refl _
 | false=>
  have h1:P.cellsOf e=1:=by simpa [ha]using g
  rw[h1]at h
  match q,h with
  | [x],_=>simp only[Rm,ha,List.headD_cons];rw[VA,VA];exact Nat.le_refl _
theorem c4i{H:Type}{f:List PV->PV}: ∀ {qs:List (List PV)} {xs:List (DataW H×List MemPlace)},qs.length=xs.length->(∀ (i:Nat) (q:List PV) (x:DataW H×List MemPlace),qs[i]? = some q->xs[i]? = some x->pvW (f q)<=uB x.1)->VA (qs.map f)<=uBs (xs.map (·.1))
 | [],[],_,_=>by simp[VA]
 | q::qs,x::xs,hl,h=>by
  have h0:=h 0 q x rfl rfl
  have h1:=c4i (qs:=qs) (xs:=xs) (by simpa using hl) fun i q x g e=>h (i+1) q x (by simpa using g) (by simpa using e)
  rw[List.map_cons,VA,List.map_cons,a8g]
  omega
 | [],_::_,hl,_=>by cases hl
 | _::_,[],hl,_=>by cases hl
def e2t(P:Program)(S:List TypeId):Bool:=S.all fun t=>match P.underlying t with|some (.array _ _)=>false|_=>true
section
variable {H:Type} {enc:TypeId×Value->H} {P:Program} {w:World} {base:Nat} {sp:Nat->Bool} {held:Bool} {S:List TypeId}
theorem a2p{n:Nat}{cs:List Value}(q : ∀ (t:TypeId) (cs:List Value) (x:DataW H×List MemPlace),t∈S->DataW.trod enc P w base sp held n t cs=some x-> ∃ ps,Cl w cs ps∧Hm P n t ps∧VA ps<=uB x.1):
  ∀ (i:List Field) (o N:Nat) (xs:List (DataW H×List MemPlace)),Jv P o i N=true->(∀ f∈i,f.type∈S)->cs.length=N->o<=N ->
   i.mapM (fun f=>DataW.trod enc P w base sp held n f.type ((cs.drop f.offset).take (P.cellsOf f.type)))=some xs ->
   ∃ ps,Cl w (cs.drop o) ps∧VA ps<=uBs (xs.map (·.1))∧ ∀ qs:List PV,qs.length=o->(∀ f∈i,Hm P n f.type (((qs++ps).drop f.offset).take (P.cellsOf f.type))):=by
 intro i
 induction i with
 | nil=>
  intro o N xs hc _ B ho _
  simp[Jv]at hc
  refine⟨[],?_,by simp[VA],fun qs _ f C=>by simp at C⟩
  rw[List.drop_of_length_le (by omega)]
  exact Cl.nil
 | cons f i ihf=>
  intro o N xs hc hm B ho h
  simp only[Jv,Bool.and_eq_true,beq_iff_eq]at hc
  obtain⟨j,hc⟩:=hc
  simp only[List.mapM_cons,Option.bind_eq_bind,Option.bind_eq_some_iff]at h
  obtain⟨x,D,y,s,e⟩:=h
  cases e
  obtain⟨u,A,J,w1⟩:=q _ _ x (hm f List.mem_cons_self) D
  have r:o+P.cellsOf f.type<=N:=by
   have : ∀ (i:List Field) (a:Nat),Jv P a i N=true->a<=N:=by
    intro i
    induction i with
    | nil=>intro a h;simp[Jv]at h;omega
    | cons g i q=>intro a h;simp only[Jv,Bool.and_eq_true]at h;have:=q _ h.2;omega
   exact this _ _ hc
  obtain⟨F,I,w2,E⟩:=ihf (o+P.cellsOf f.type) N y hc (fun g k=>hm g (List.mem_cons_of_mem _ k)) B r s
  have l:u.length=P.cellsOf f.type:=by
   rw[<- A.1.1,List.length_take,List.length_drop,j]
   omega
  refine⟨u++F,?_,by rw[e1s,List.map_cons,a8g];omega,fun qs z g k=> ?_⟩
  ·have:=A.append I
   rw[j]at this
   have e:cs.drop o=(cs.drop o).take (P.cellsOf f.type)++cs.drop (o+P.cellsOf f.type):=by rw[<- List.drop_drop,List.take_append_drop]
   rw[e]
   exact this
  ·rcases List.mem_cons.1 k with rfl|k
   ·rw[j,<- z,List.drop_left,<- l,List.take_left]
    exact J
   ·have:=E (qs++u) (by simp[z,l]) g k
    rwa [List.append_assoc]at this
theorem a9w{n:Nat}{e:TypeId}{a:Addr}{len cap:Nat}{xs:List (DataW H×List MemPlace)}(J:0<P.cellsOf e)(C:Wo P e=true∨P.cellsOf e=1)(D:len<=cap)(hmax:cap<=maxLen)
  (Y : ∀ (cs:List Value) (x:DataW H×List MemPlace),DataW.trod enc P w base sp held n e cs=some x-> ∃ ps,Cl w cs ps∧Hm P n e ps∧VA ps<=uB x.1)
  (h:(List.range len).mapM (fun i=>(w.cells? base (a.add (i*P.cellsOf e)) (P.cellsOf e)).bind (DataW.trod enc P w base sp held n e))=some xs) :
  ∃ qs:List (List PV),RP (RO w) (.slice (some a) len cap) (.sl (P.cellsOf e) false (qs.map (Rm P e)))∧qs.length<=maxLen∧(∀ q∈qs,q.length=P.cellsOf e∧Hm P n e q)∧VA (qs.map (Rm P e))<=uBs (xs.map (·.1)):=by
 obtain⟨V,W⟩:=a9i h
 rw[List.length_range]at V
 have O : ∀ i,i<len-> ∃ q:List PV,(q.length=P.cellsOf e∧Hm P n e q∧ ∃ x,xs[i]? = some x∧VA q<=uB x.1)∧ ∀ (r:Nat) p,q[r]? = some p-> ∃ v,w.cell? (a.add (i*P.cellsOf e+r))=some v∧v.oneCell'=true∧RP (RO w) v p:=by
  intro i hi
  have B:=List.getElem?_eq_getElem (show i<xs.length by omega)
  have:=W i i _ (by simp[hi]) B
  rw[Option.bind_eq_some_iff]at this
  obtain⟨cs,h1,h2⟩:=this
  obtain⟨q,L,k2,k3⟩:=Y cs _ h2
  obtain⟨c1,X⟩:=c7y h1
  refine⟨q,⟨by rw[<- L.1.1,c1],k2,_,B,k3⟩,fun r p l=> ?_⟩
  have hr:r<cs.length:=by rw[L.1.1];exact(List.getElem?_eq_some_iff.1 l).1
  have A:=List.getElem?_eq_getElem hr
  refine⟨_,?_,L.2 _ (List.getElem_mem hr),L.1.2 r _ p A l⟩
  rw[<- c6k]
  exact X r _ A
 obtain⟨qs,s,k⟩:=a6u len O
 have g : ∀ q∈qs,(Rm P e q).cells=q:=by
  intro q u
  obtain⟨i,hi,rfl⟩:=List.getElem_of_mem u
  have:=(k i _ (List.getElem?_eq_getElem hi)).1
  exact c6x C this.1 fun ha=>d7x this.2.1 ha
 refine⟨qs,?_,by omega,fun q u=> ?_,?_⟩
 ·by_cases h0:len=0
  ·subst h0
   have:qs=[]:=List.length_eq_zero_iff.1 s
   subst this
   exact .sl0 _ _ _ _ fun e=>by cases e
  ·-- the first cell tells the block
   obtain⟨b,off,cs,rfl,hb,-⟩ : ∃ b off cs,a=⟨b,off,none⟩∧RO w b=some cs∧True:=by
    have N:=List.getElem?_eq_getElem (show 0<qs.length by omega)
    obtain⟨⟨f1,f2,-⟩,f3⟩:=k 0 _ N
    have l:=List.getElem?_eq_getElem (show 0<(qs[0]'(by omega)).length by omega)
    obtain⟨v,A,_⟩:=f3 0 _ l
    simp[Addr.add]at A
    obtain⟨b,off,cs,M,K,_⟩:=Oh A
    exact⟨b,off,cs,M,K,trivial⟩
   have hs : ∀ x∈qs.map (Rm P e),x.cells.length=P.cellsOf e:=by
    intro x B
    obtain⟨q,u,rfl⟩:=List.mem_map.1 B
    rw[g q u]
    obtain⟨i,hi,rfl⟩:=List.getElem_of_mem u
    exact(k i _ (List.getElem?_eq_getElem hi)).1.1
   have I : ∀ (j:Nat) p,(flat (qs.map (Rm P e)))[j]? = some p-> ∃ v,cs[off+j]? = some v∧v.oneCell'=true∧RP (RO w) v p:=by
    intro j p l
    have hj:j<len*P.cellsOf e:=by
     have:=(List.getElem?_eq_some_iff.1 l).1
     rw[WZ hs]at this
     simpa [s]using this
    have hi:j / P.cellsOf e<qs.length:=by rw[s];exact(Nat.div_lt_iff_lt_mul J).2 hj
    have hr:j % P.cellsOf e<P.cellsOf e:=Nat.mod_lt _ J
    have E:=List.getElem?_eq_getElem hi
    have T:j=j / P.cellsOf e*P.cellsOf e+j % P.cellsOf e:=by rw[Nat.mul_comm];exact(Nat.div_add_mod _ _).symm
    have Q:(qs.map (Rm P e))[j / P.cellsOf e]? = some (Rm P e qs[j / P.cellsOf e]):=by rw[List.getElem?_map,E];rfl
    have F:=a7g hs Q hr
    rw[<- T,g _ (List.getElem_mem hi)]at F
    rw[F]at l
    obtain⟨v,A,h1,h2⟩:=(k _ _ E).2 _ p l
    rw[<- T,WP]at A
    obtain⟨b',off',cs',M,K,Z⟩:=Oh A
    cases M
    rw[hb]at K
    cases K
    exact⟨v,Z,h1,h2⟩
   have z:len=(qs.map (Rm P e)).length:=by simp[s]
   rw[z]
   refine .sl b off cs cap _ false _ (fun j=>(cs[off+j]?).getD default) hb (by rw[<- z];exact D) (fun e=>by cases e) hs (fun j p l=> ?_) (fun j p l=> ?_)
   ·obtain⟨v,h1,h2,h3⟩:=I j p l
    rw[h1]
    exact⟨rfl,h2⟩
   ·obtain⟨v,h1,h2,h3⟩:=I j p l
    rw[h1]
    exact h3
 ·obtain⟨i,hi,rfl⟩:=List.getElem_of_mem u
  have:=(k i _ (List.getElem?_eq_getElem hi)).1
  exact⟨this.1,this.2.1⟩
 ·refine c4i (by rw[s,V]) fun i q x u B=> ?_
  have:=(k i q u).1
  obtain⟨y,U,hw⟩:=this.2.2
  rw[B]at U
  cases U
  have hm:=g6t (P:=P) (e:=e) (q:=q) C this.1
  omega
theorem b4o(y:a1z P S=true)(B:e2t P S=true): ∀ (n:Nat) (t:TypeId) (cs:List Value) (x:DataW H×List MemPlace),t∈S->DataW.trod enc P w base sp held n t cs=some x-> ∃ ps,Cl w cs ps∧Hm P n t ps∧VA ps<=uB x.1:=by
  intro n
  induction n with
  | zero=>intro t cs x _ h;simp[DataW.trod]at h
  | succ n ih=>
    intro t cs x ht h
    have g:=Ed y ht
    have i:=List.all_eq_true.1 B t ht
    unfold DataW.trod at h
    unfold Hm
    split at h <;> (try rename_i hu) <;> (try simp only[hu]at g i ⊢) <;> try (cases g;done)
    all_goals first
      | (exact⟨_,Cl.one (.bool _) rfl,⟨_,rfl⟩,b5a _⟩)
      | (split at h
         · rename_i hc
           obtain⟨rfl,C⟩:=hc
           exact⟨_,Cl.one (.int _ _) rfl,⟨_,rfl,C⟩,b5a _⟩
         · cases h)
      | (split at h
         · rename_i hc
           cases h
           refine⟨_,Cl.one (.str _) rfl,⟨_,rfl,hc⟩,?_⟩
           show VA [PV.str _]<=Go.Proofs.YtgclceacfcdigaaGreatDoor.Rows.uptoBulk (DataW.lit (.string _))
           rw[Go.Proofs.YtgclceacfcdigaaGreatDoor.Rows.uptoBulk,VA,VA,pvW]
           omega
         · cases h)
      | (cases h;done)
      | (cases i;done)
      | skip
    · exact⟨_,Cl.one (.sl0 _ _ _ false (fun e=>by cases e)) rfl,⟨[],rfl,by simp,fun q u=>by simp at u⟩,b5a _⟩
    · rename_i e a len cap
      simp only[Bool.and_eq_true,Bool.or_eq_true,beq_iff_eq,decide_eq_true_eq]at g
      simp only at h
      split at h
      · rename_i hc
        obtain⟨xs,h1,h3⟩:=Option.bind_eq_some_iff.1 h
        obtain⟨ys,h4,rfl⟩:=Option.map_eq_some_iff.1 h3
        obtain⟨qs,j,r,l,A⟩:=a9w g.1.2 g.2 hc.2.1 hc.2.2 (fun cs x s=>ih e cs x (by simpa using g.1.1.2) s) h1
        refine⟨_,Cl.one j rfl,⟨qs,rfl,r,l⟩,?_⟩
        show VA [PV.sl _ false (qs.map (Rm P e))]<=Go.Proofs.YtgclceacfcdigaaGreatDoor.Rows.uptoBulk (DataW.slice (xs.map (·.1)) (ys.map (·.1)))
        rw[Go.Proofs.YtgclceacfcdigaaGreatDoor.Rows.uptoBulk,VA,VA,pvW]
        have:VA (qs.map (Rm P e))<=Go.Proofs.YtgclceacfcdigaaGreatDoor.Rows.uptoBulkAll (xs.map (·.1)):=A
        omega
      · cases h
    · rename_i cs2 z
      simp only[Bool.and_eq_true]at g
      split at h
      · rename_i hc
        rw[Option.map_eq_some_iff]at h
        obtain⟨xs,h1,rfl⟩:=h
        obtain⟨ps,j,l,r⟩:=a2p ih z.toList 0 (P.cellsOf t) xs g.1 (fun f k=>by simpa using List.all_eq_true.1 g.2 f k) hc (Nat.zero_le _) h1
        rw[List.drop_zero]at j
        refine⟨ps,j,⟨by rw[<- j.1.1,hc],fun f k=>by simpa using r [] rfl f k⟩,?_⟩
        show VA ps<=Go.Proofs.YtgclceacfcdigaaGreatDoor.Rows.uptoBulk (DataW.agg (xs.map (·.1)))
        rw[Go.Proofs.YtgclceacfcdigaaGreatDoor.Rows.uptoBulk]
        have:VA ps<=Go.Proofs.YtgclceacfcdigaaGreatDoor.Rows.uptoBulkAll (xs.map (·.1)):=l
        omega
      · cases h
theorem OY(s:a1z P S=true)(A:e2t P S=true){t:TypeId}(ht:t∈S){r:Reach}{b0:Nat}{v:Value}{d:DataW H}{p:List MemPlace}(e:Value.okWide P w r b0 t v)(h:DataW.Trod enc P w base sp held t v d p):
  ∃ n q,RP (RO w) v (Rm P t q)∧Hm P n t q∧VA q<=uB d:=by
 obtain⟨n,h⟩:=h
 obtain⟨q,i,B,C⟩:=b4o s A n t _ _ ht h
 refine⟨n,q,?_,B,C⟩
 have u:=Ed s ht
 have g:v.cells = #[v]->Wo P t=false->RP (RO w) v (Rm P t q):=by
  intro hc ha
  rw[hc]at i
  have z:=i.1.1
  match q,z with
  | [x],_=>simp only[Rm,ha,List.headD_cons];exact i.1.2 0 v x rfl rfl
 have agg : ∀ cs,v = .agg cs->Wo P t=true->RP (RO w) v (Rm P t q):=by
  rintro cs rfl ha
  simp only[Rm,ha]
  exact .agg cs q (by have:=i.1.1;simpa [Value.cells]using this) (fun x k=>i.2 x (by simpa [Value.cells]using k)) fun j x y k D=>i.1.2 j x y (by simpa [Value.cells]using k) D
 split at u
 ·rename_i hu
  obtain⟨b,rfl⟩:=okWide_bool hu e
  exact g rfl (by simp[Wo,hu])
 ·rename_i hu
  obtain⟨b,rfl⟩:=okWide_int hu e
  exact g rfl (by simp[Wo,hu])
 ·rename_i hu
  obtain⟨b,rfl⟩:=okWide_string hu e
  exact g rfl (by simp[Wo,hu])
 ·rename_i hu
  obtain⟨a,l,c,rfl⟩:=okWide_slice hu e
  exact g rfl (by simp[Wo,hu])
 ·rename_i hu
  simp only[Value.okWide,hu]at e
  obtain⟨cs,rfl,_⟩:=e
  exact agg cs rfl (by simp[Wo,hu])
 ·rename_i hu
  simp only[Value.okWide,hu]at e
  obtain⟨cs,rfl,_⟩:=e
  exact agg cs rfl (by simp[Wo,hu])
 ·cases u
end
end
end Go.Pl
namespace Go.Proofs.YtgclceacfcdigaaGreatDoor
open Go.Pl
section
set_option maxRecDepth 100000
open Enc (enc dec is)
open EncL (encL decL isL)
theorem e8b:Tryz.prog.underlying 9=some .string:=by kernel_rfl
theorem g3e:Wo Tryz.prog 9=false:=by kernel_rfl
theorem b0h{n:Nat}{q:List PV}(h:Hm Tryz.prog n 9 q): ∃ s:Str,Rm Tryz.prog 9 q=enc s:=by
 obtain⟨s,e,_⟩:=e1e e8b h
 exact⟨⟨s⟩,by rw[e,Rm,g3e];rfl⟩
end
section
set_option maxRecDepth 100000
open Enc (enc dec is)
open EncL (encL decL isL)
theorem e7e{n0 h:Nat}{g e:List PV}(i:Hm Tryz.prog n0 9 g)(h1:Hm Tryz.prog h 9 e):
  preT (fun _:Str×Str×Unit=>true) [Rm Tryz.prog 9 g,Rm Tryz.prog 9 e]=true:=by
 obtain⟨a,k⟩:=b0h i
 obtain⟨b,j⟩:=b0h h1
 rw[k,j]
 exact Zo (a,b,()) rfl rfl
end
end Go.Proofs.YtgclceacfcdigaaGreatDoor
namespace Go.Proofs.YtgclceacfcdigaaGreatDoor
open Go.Shelf
def Tryz.lays145_ren:Go.Shelf.Ren:=⟨fun|145=>136|220=>158|219=>122|217=>121|225=>147|224=>148|267=>149|266=>146|314=>168|n=>n,fun|9=>9|4=>4|59=>156|3=>3|5=>5|46=>164|146=>184|51=>183|n=>n,fun|1=>0|n=>n⟩
theorem Tryz.lays145:Go.Proofs.Lays.n145 Tryz.prog Tryz.lays145_ren:={
 mixed:=by kernel_rfl
 f145:=Go.Pl.ck_ Tryz.func136
 f217:=Go.Pl.ck_ Tryz.func121
 f219:=Go.Pl.ck_ Tryz.func122
 f220:=Go.Pl.ck_ Tryz.func158
 f224:=Go.Pl.ck_ Tryz.func148
 f225:=Go.Pl.ck_ Tryz.func147
 f266:=Go.Pl.ck_ Tryz.func146
 f267:=Go.Pl.ck_ Tryz.func149
 f314:=Go.Pl.ck_ Tryz.func168
 t3:=Tryz.underlying3
 a3:=Tryz.isAgg3
 z3:=Tryz.sizeOf3
 v3:=Tryz.zeroValue3
 t4:=Tryz.underlying4
 a4:=Tryz.isAgg4
 z4:=Tryz.sizeOf4
 v4:=Tryz.zeroValue4
 t5:=Tryz.underlying5
 a5:=Tryz.isAgg5
 z5:=Tryz.sizeOf5
 v5:=Tryz.zeroValue5
 t9:=Tryz.underlying9
 a9:=Tryz.isAgg9
 z9:=Tryz.sizeOf9
 v9:=Tryz.zeroValue9
 t46:=Tryz.underlying164
 a46:=Tryz.isAgg164
 z46:=Tryz.sizeOf164
 v46:=Tryz.zeroValue164
 t51:=Tryz.underlying183
 a51:=Tryz.isAgg183
 z51:=Tryz.sizeOf183
 v51:=Tryz.zeroValue183
 t59:=Tryz.underlying156
 a59:=Tryz.isAgg156
 z59:=Tryz.sizeOf156
 v59:=Tryz.zeroValue156
 t146:=Tryz.underlying184
 a146:=Tryz.isAgg184
 z146:=Tryz.sizeOf184
 v146:=Tryz.zeroValue184
 g1:=by kernel_rfl}
def Tryz.lays137_ren:Go.Shelf.Ren:=⟨fun|137=>90|217=>121|266=>146|n=>n,fun|9=>9|5=>5|3=>3|n=>n,fun|n=>n⟩
theorem Tryz.lays137:Go.Proofs.Lays.n137 Tryz.prog Tryz.lays137_ren:={
 mixed:=by kernel_rfl
 f137:=Go.Pl.ck_ Tryz.func90
 f217:=Go.Pl.ck_ Tryz.func121
 f266:=Go.Pl.ck_ Tryz.func146
 t3:=Tryz.underlying3
 a3:=Tryz.isAgg3
 z3:=Tryz.sizeOf3
 v3:=Tryz.zeroValue3
 t5:=Tryz.underlying5
 a5:=Tryz.isAgg5
 z5:=Tryz.sizeOf5
 v5:=Tryz.zeroValue5
 t9:=Tryz.underlying9
 a9:=Tryz.isAgg9
 z9:=Tryz.sizeOf9
 v9:=Tryz.zeroValue9}
def Tryz.lays138_ren:Go.Shelf.Ren:=⟨fun|138=>65|195=>91|218=>92|143=>93|219=>122|217=>121|225=>147|224=>148|267=>149|266=>146|314=>168|n=>n,fun|9=>9|3=>3|4=>4|5=>5|0=>0|46=>164|146=>184|51=>183|n=>n,fun|1=>0|n=>n⟩
theorem Tryz.lays138:Go.Proofs.Lays.n138 Tryz.prog Tryz.lays138_ren:={
 mixed:=by kernel_rfl
 f138:=Go.Pl.ck_ Tryz.func65
 f143:=Go.Pl.ck_ Tryz.func93
 f195:=Go.Pl.ck_ Tryz.func91
 f217:=Go.Pl.ck_ Tryz.func121
 f218:=Go.Pl.ck_ Tryz.func92
 f219:=Go.Pl.ck_ Tryz.func122
 f224:=Go.Pl.ck_ Tryz.func148
 f225:=Go.Pl.ck_ Tryz.func147
 f266:=Go.Pl.ck_ Tryz.func146
 f267:=Go.Pl.ck_ Tryz.func149
 f314:=Go.Pl.ck_ Tryz.func168
 t0:=Tryz.underlying0
 a0:=Tryz.isAgg0
 z0:=Tryz.sizeOf0
 v0:=Tryz.zeroValue0
 t3:=Tryz.underlying3
 a3:=Tryz.isAgg3
 z3:=Tryz.sizeOf3
 v3:=Tryz.zeroValue3
 t4:=Tryz.underlying4
 a4:=Tryz.isAgg4
 z4:=Tryz.sizeOf4
 v4:=Tryz.zeroValue4
 t5:=Tryz.underlying5
 a5:=Tryz.isAgg5
 z5:=Tryz.sizeOf5
 v5:=Tryz.zeroValue5
 t9:=Tryz.underlying9
 a9:=Tryz.isAgg9
 z9:=Tryz.sizeOf9
 v9:=Tryz.zeroValue9
 t46:=Tryz.underlying164
 a46:=Tryz.isAgg164
 z46:=Tryz.sizeOf164
 v46:=Tryz.zeroValue164
 t51:=Tryz.underlying183
 a51:=Tryz.isAgg183
 z51:=Tryz.sizeOf183
 v51:=Tryz.zeroValue183
 t146:=Tryz.underlying184
 a146:=Tryz.isAgg184
 z146:=Tryz.sizeOf184
 v146:=Tryz.zeroValue184
 g1:=by kernel_rfl}
def Tryz.lays172_ren:Go.Shelf.Ren:=⟨fun|172=>123|244=>150|245=>151|247=>169|279=>170|280=>171|281=>172|282=>173|287=>181|316=>182|171=>154|205=>183|321=>190|322=>191|243=>174|246=>184|283=>192|284=>193|285=>194|286=>195|129=>206|317=>208|318=>209|319=>210|320=>211|337=>218|338=>219|n=>n,fun|9=>9|3=>3|75=>141|76=>142|4=>4|5=>5|167=>186|37=>169|0=>0|85=>187|2=>2|168=>189|53=>198|175=>199|46=>164|210=>202|127=>209|145=>212|143=>210|21=>21|171=>213|173=>216|212=>232|51=>183|20=>20|213=>233|232=>243|233=>244|80=>82|n=>n,fun|15=>1|16=>2|17=>5|18=>6|19=>7|n=>n⟩
theorem Tryz.lays172:Go.Proofs.LaysC.n172 Tryz.prog Tryz.lays172_ren:={
 mixed:=by kernel_rfl
 f129:=Go.Pl.ck_ Tryz.func206
 f171:=Go.Pl.ck_ Tryz.func154
 f172:=Go.Pl.ck_ Tryz.func123
 f205:=Go.Pl.ck_ Tryz.func183
 f243:=Go.Pl.ck_ Tryz.func174
 f244:=Go.Pl.ck_ Tryz.func150
 f245:=Go.Pl.ck_ Tryz.func151
 f246:=Go.Pl.ck_ Tryz.func184
 f247:=Go.Pl.ck_ Tryz.func169
 f279:=Go.Pl.ck_ Tryz.func170
 f280:=Go.Pl.ck_ Tryz.func171
 f281:=Go.Pl.ck_ Tryz.func172
 f282:=Go.Pl.ck_ Tryz.func173
 f283:=Go.Pl.ck_ Tryz.func192
 f284:=Go.Pl.ck_ Tryz.func193
 f285:=Go.Pl.ck_ Tryz.func194
 f286:=Go.Pl.ck_ Tryz.func195
 f287:=Go.Pl.ck_ Tryz.func181
 f316:=Go.Pl.ck_ Tryz.func182
 f317:=Go.Pl.ck_ Tryz.func208
 f318:=Go.Pl.ck_ Tryz.func209
 f319:=Go.Pl.ck_ Tryz.func210
 f320:=Go.Pl.ck_ Tryz.func211
 f321:=Go.Pl.ck_ Tryz.func190
 f322:=Go.Pl.ck_ Tryz.func191
 f337:=Go.Pl.ck_ Tryz.func218
 f338:=Go.Pl.ck_ Tryz.func219
 t0:=Tryz.underlying0
 a0:=Tryz.isAgg0
 z0:=Tryz.sizeOf0
 v0:=Tryz.zeroValue0
 t2:=Tryz.underlying2
 a2:=Tryz.isAgg2
 z2:=Tryz.sizeOf2
 v2:=Tryz.zeroValue2
 t3:=Tryz.underlying3
 a3:=Tryz.isAgg3
 z3:=Tryz.sizeOf3
 v3:=Tryz.zeroValue3
 t4:=Tryz.underlying4
 a4:=Tryz.isAgg4
 z4:=Tryz.sizeOf4
 v4:=Tryz.zeroValue4
 t5:=Tryz.underlying5
 a5:=Tryz.isAgg5
 z5:=Tryz.sizeOf5
 v5:=Tryz.zeroValue5
 t9:=Tryz.underlying9
 a9:=Tryz.isAgg9
 z9:=Tryz.sizeOf9
 v9:=Tryz.zeroValue9
 t20:=Tryz.underlying20
 a20:=Tryz.isAgg20
 z20:=Tryz.sizeOf20
 v20:=Tryz.zeroValue20
 t21:=Tryz.underlying21
 a21:=Tryz.isAgg21
 z21:=Tryz.sizeOf21
 v21:=Tryz.zeroValue21
 t37:=Tryz.underlying169
 a37:=Tryz.isAgg169
 z37:=Tryz.sizeOf169
 v37:=Tryz.zeroValue169
 t46:=Tryz.underlying164
 a46:=Tryz.isAgg164
 z46:=Tryz.sizeOf164
 v46:=Tryz.zeroValue164
 t51:=Tryz.underlying183
 a51:=Tryz.isAgg183
 z51:=Tryz.sizeOf183
 v51:=Tryz.zeroValue183
 t53:=Tryz.underlying198
 a53:=Tryz.isAgg198
 z53:=Tryz.sizeOf198
 v53:=Tryz.zeroValue198
 t75:=Tryz.underlying141
 a75:=Tryz.isAgg141
 z75:=Tryz.sizeOf141
 v75:=Tryz.zeroValue141
 t76:=Tryz.underlying142
 a76:=Tryz.isAgg142
 z76:=Tryz.sizeOf142
 v76:=Tryz.zeroValue142
 t85:=Tryz.underlying187
 a85:=Tryz.isAgg187
 z85:=Tryz.sizeOf187
 v85:=Tryz.zeroValue187
 t127:=Tryz.underlying209
 a127:=Tryz.isAgg209
 z127:=Tryz.sizeOf209
 v127:=Tryz.zeroValue209
 t143:=Tryz.underlying210
 a143:=Tryz.isAgg210
 z143:=Tryz.sizeOf210
 v143:=Tryz.zeroValue210
 t145:=Tryz.underlying212
 a145:=Tryz.isAgg212
 z145:=Tryz.sizeOf212
 v145:=Tryz.zeroValue212
 t167:=Tryz.underlying186
 a167:=Tryz.isAgg186
 z167:=Tryz.sizeOf186
 v167:=Tryz.zeroValue186
 t168:=Tryz.underlying189
 a168:=Tryz.isAgg189
 z168:=Tryz.sizeOf189
 v168:=Tryz.zeroValue189
 t171:=Tryz.underlying213
 a171:=Tryz.isAgg213
 z171:=Tryz.sizeOf213
 v171:=Tryz.zeroValue213
 t173:=Tryz.underlying216
 a173:=Tryz.isAgg216
 z173:=Tryz.sizeOf216
 v173:=Tryz.zeroValue216
 t175:=Tryz.underlying199
 a175:=Tryz.isAgg199
 z175:=Tryz.sizeOf199
 v175:=Tryz.zeroValue199
 t210:=Tryz.underlying202
 a210:=Tryz.isAgg202
 z210:=Tryz.sizeOf202
 v210:=Tryz.zeroValue202
 t212:=Tryz.underlying232
 a212:=Tryz.isAgg232
 z212:=Tryz.sizeOf232
 v212:=Tryz.zeroValue232
 t213:=Tryz.underlying233
 a213:=Tryz.isAgg233
 z213:=Tryz.sizeOf233
 t232:=Tryz.underlying243
 a232:=Tryz.isAgg243
 z232:=Tryz.sizeOf243
 v232:=Tryz.zeroValue243
 t233:=Tryz.underlying244
 a233:=Tryz.isAgg244
 z233:=Tryz.sizeOf244
 v233:=Tryz.zeroValue244
 g15:=by kernel_rfl
 g16:=by kernel_rfl
 g17:=by kernel_rfl
 g18:=by kernel_rfl
 g19:=by kernel_rfl
 t80:=Tryz.underlying82
 a80:=Tryz.isAgg82
 z80:=Tryz.sizeOf82
 v80:=Tryz.zeroValue82
 i0:=by kernel_rfl
 i2:=by kernel_rfl
 i3:=by kernel_rfl
 i4:=by kernel_rfl
 i5:=by kernel_rfl
 i9:=by kernel_rfl
 i20:=by kernel_rfl
 i21:=by kernel_rfl
 i37:=by kernel_rfl
 i46:=by kernel_rfl
 i51:=by kernel_rfl
 i53:=by kernel_rfl
 i75:=by kernel_rfl
 i76:=by kernel_rfl
 i80:=by kernel_rfl
 i85:=by kernel_rfl
 i127:=by kernel_rfl
 i143:=by kernel_rfl
 i145:=by kernel_rfl
 i167:=by kernel_rfl
 i168:=by kernel_rfl
 i171:=by kernel_rfl
 i173:=by kernel_rfl
 i175:=by kernel_rfl
 i210:=by kernel_rfl
 i212:=by kernel_rfl
 i232:=by kernel_rfl
 i233:=by kernel_rfl
 m15:=by kernel_rfl
 m16:=by kernel_rfl
 m17:=by kernel_rfl
 m18:=by kernel_rfl
 m19:=by kernel_rfl
 c0:=by kernel_rfl
 c2:=by kernel_rfl
 c3:=by kernel_rfl
 c4:=by kernel_rfl
 c5:=by kernel_rfl
 c9:=by kernel_rfl
 c20:=by kernel_rfl
 c21:=by kernel_rfl
 c37:=by kernel_rfl
 c46:=by kernel_rfl
 c51:=by kernel_rfl
 c53:=by kernel_rfl
 c75:=by kernel_rfl
 c76:=by kernel_rfl
 c80:=by kernel_rfl
 c85:=by kernel_rfl
 c127:=by kernel_rfl
 c143:=by kernel_rfl
 c145:=by kernel_rfl
 c167:=by kernel_rfl
 c168:=by kernel_rfl
 c171:=by kernel_rfl
 c173:=by kernel_rfl
 c175:=by kernel_rfl
 c210:=by kernel_rfl
 c212:=by kernel_rfl
 c213:=by kernel_rfl
 c232:=by kernel_rfl
 c233:=by kernel_rfl}
def Tryz.lays171_ren:Go.Shelf.Ren:=⟨fun|171=>154|243=>174|246=>184|283=>192|284=>193|285=>194|286=>195|129=>206|317=>208|318=>209|319=>210|320=>211|337=>218|338=>219|n=>n,fun|3=>3|9=>9|2=>2|4=>4|171=>213|0=>0|53=>198|37=>169|5=>5|173=>216|212=>232|51=>183|20=>20|213=>233|46=>164|232=>243|233=>244|n=>n,fun|17=>5|18=>6|19=>7|n=>n⟩
theorem Tryz.lays171:Go.Proofs.LaysM.n171 Tryz.prog Tryz.lays171_ren:={
 mixed:=by kernel_rfl
 f129:=Go.Pl.ck_ Tryz.func206
 f171:=Go.Pl.ck_ Tryz.func154
 f243:=Go.Pl.ck_ Tryz.func174
 f246:=Go.Pl.ck_ Tryz.func184
 f283:=Go.Pl.ck_ Tryz.func192
 f284:=Go.Pl.ck_ Tryz.func193
 f285:=Go.Pl.ck_ Tryz.func194
 f286:=Go.Pl.ck_ Tryz.func195
 f317:=Go.Pl.ck_ Tryz.func208
 f318:=Go.Pl.ck_ Tryz.func209
 f319:=Go.Pl.ck_ Tryz.func210
 f320:=Go.Pl.ck_ Tryz.func211
 f337:=Go.Pl.ck_ Tryz.func218
 f338:=Go.Pl.ck_ Tryz.func219
 t0:=Tryz.underlying0
 a0:=Tryz.isAgg0
 z0:=Tryz.sizeOf0
 v0:=Tryz.zeroValue0
 t2:=Tryz.underlying2
 a2:=Tryz.isAgg2
 z2:=Tryz.sizeOf2
 v2:=Tryz.zeroValue2
 t3:=Tryz.underlying3
 a3:=Tryz.isAgg3
 z3:=Tryz.sizeOf3
 v3:=Tryz.zeroValue3
 t4:=Tryz.underlying4
 a4:=Tryz.isAgg4
 z4:=Tryz.sizeOf4
 v4:=Tryz.zeroValue4
 t5:=Tryz.underlying5
 a5:=Tryz.isAgg5
 z5:=Tryz.sizeOf5
 v5:=Tryz.zeroValue5
 t9:=Tryz.underlying9
 a9:=Tryz.isAgg9
 z9:=Tryz.sizeOf9
 v9:=Tryz.zeroValue9
 t20:=Tryz.underlying20
 a20:=Tryz.isAgg20
 z20:=Tryz.sizeOf20
 v20:=Tryz.zeroValue20
 t37:=Tryz.underlying169
 a37:=Tryz.isAgg169
 z37:=Tryz.sizeOf169
 v37:=Tryz.zeroValue169
 t46:=Tryz.underlying164
 a46:=Tryz.isAgg164
 z46:=Tryz.sizeOf164
 v46:=Tryz.zeroValue164
 t51:=Tryz.underlying183
 a51:=Tryz.isAgg183
 z51:=Tryz.sizeOf183
 v51:=Tryz.zeroValue183
 t53:=Tryz.underlying198
 a53:=Tryz.isAgg198
 z53:=Tryz.sizeOf198
 v53:=Tryz.zeroValue198
 t171:=Tryz.underlying213
 a171:=Tryz.isAgg213
 z171:=Tryz.sizeOf213
 v171:=Tryz.zeroValue213
 t173:=Tryz.underlying216
 a173:=Tryz.isAgg216
 z173:=Tryz.sizeOf216
 v173:=Tryz.zeroValue216
 t212:=Tryz.underlying232
 a212:=Tryz.isAgg232
 z212:=Tryz.sizeOf232
 v212:=Tryz.zeroValue232
 t213:=Tryz.underlying233
 a213:=Tryz.isAgg233
 z213:=Tryz.sizeOf233
 t232:=Tryz.underlying243
 a232:=Tryz.isAgg243
 z232:=Tryz.sizeOf243
 v232:=Tryz.zeroValue243
 t233:=Tryz.underlying244
 a233:=Tryz.isAgg244
 z233:=Tryz.sizeOf244
 v233:=Tryz.zeroValue244
 g17:=by kernel_rfl
 g18:=by kernel_rfl
 g19:=by kernel_rfl
 i0:=by kernel_rfl
 i2:=by kernel_rfl
 i3:=by kernel_rfl
 i4:=by kernel_rfl
 i5:=by kernel_rfl
 i9:=by kernel_rfl
 i20:=by kernel_rfl
 i37:=by kernel_rfl
 i46:=by kernel_rfl
 i51:=by kernel_rfl
 i53:=by kernel_rfl
 i171:=by kernel_rfl
 i173:=by kernel_rfl
 i212:=by kernel_rfl
 i232:=by kernel_rfl
 i233:=by kernel_rfl
 m17:=by kernel_rfl
 m18:=by kernel_rfl
 m19:=by kernel_rfl}
def Tryz.lays99_ren:Go.Shelf.Ren:=⟨fun|99=>89|206=>120|n=>n,fun|9=>9|4=>4|3=>3|n=>n,fun|n=>n⟩
theorem Tryz.lays99:Go.Proofs.Lays.n99 Tryz.prog Tryz.lays99_ren:={
 mixed:=by kernel_rfl
 f99:=Go.Pl.ck_ Tryz.func89
 f206:=Go.Pl.ck_ Tryz.func120
 t3:=Tryz.underlying3
 a3:=Tryz.isAgg3
 z3:=Tryz.sizeOf3
 v3:=Tryz.zeroValue3
 t4:=Tryz.underlying4
 a4:=Tryz.isAgg4
 z4:=Tryz.sizeOf4
 v4:=Tryz.zeroValue4
 t9:=Tryz.underlying9
 a9:=Tryz.isAgg9
 z9:=Tryz.sizeOf9
 v9:=Tryz.zeroValue9}
def Tryz.lays190_ren:Go.Shelf.Ren:=⟨fun|190=>176|125=>186|258=>185|128=>205|129=>206|302=>196|303=>197|304=>198|305=>199|306=>200|307=>201|308=>202|309=>203|310=>204|333=>212|329=>213|330=>214|334=>215|335=>216|336=>217|344=>220|n=>n,fun|31=>23|9=>9|3=>3|46=>164|0=>0|51=>183|53=>198|4=>4|183=>220|182=>219|131=>100|5=>5|218=>234|222=>238|228=>240|229=>241|n=>n,fun|n=>n⟩
theorem Tryz.lays190:Go.Proofs.Lays.n190 Tryz.prog Tryz.lays190_ren:={
 mixed:=by kernel_rfl
 f125:=Go.Pl.ck_ Tryz.func186
 f128:=Go.Pl.ck_ Tryz.func205
 f129:=Go.Pl.ck_ Tryz.func206
 f190:=Go.Pl.ck_ Tryz.func176
 f258:=Go.Pl.ck_ Tryz.func185
 f302:=Go.Pl.ck_ Tryz.func196
 f303:=Go.Pl.ck_ Tryz.func197
 f304:=Go.Pl.ck_ Tryz.func198
 f305:=Go.Pl.ck_ Tryz.func199
 f306:=Go.Pl.ck_ Tryz.func200
 f307:=Go.Pl.ck_ Tryz.func201
 f308:=Go.Pl.ck_ Tryz.func202
 f309:=Go.Pl.ck_ Tryz.func203
 f310:=Go.Pl.ck_ Tryz.func204
 f329:=Go.Pl.ck_ Tryz.func213
 f330:=Go.Pl.ck_ Tryz.func214
 f333:=Go.Pl.ck_ Tryz.func212
 f334:=Go.Pl.ck_ Tryz.func215
 f335:=Go.Pl.ck_ Tryz.func216
 f336:=Go.Pl.ck_ Tryz.func217
 f344:=Go.Pl.ck_ Tryz.func220
 t0:=Tryz.underlying0
 a0:=Tryz.isAgg0
 z0:=Tryz.sizeOf0
 v0:=Tryz.zeroValue0
 t3:=Tryz.underlying3
 a3:=Tryz.isAgg3
 z3:=Tryz.sizeOf3
 v3:=Tryz.zeroValue3
 t4:=Tryz.underlying4
 a4:=Tryz.isAgg4
 z4:=Tryz.sizeOf4
 v4:=Tryz.zeroValue4
 t5:=Tryz.underlying5
 a5:=Tryz.isAgg5
 z5:=Tryz.sizeOf5
 v5:=Tryz.zeroValue5
 t9:=Tryz.underlying9
 a9:=Tryz.isAgg9
 z9:=Tryz.sizeOf9
 v9:=Tryz.zeroValue9
 t31:=Tryz.underlying23
 a31:=Tryz.isAgg23
 z31:=Tryz.sizeOf23
 v31:=Tryz.zeroValue23
 t46:=Tryz.underlying164
 a46:=Tryz.isAgg164
 z46:=Tryz.sizeOf164
 v46:=Tryz.zeroValue164
 t51:=Tryz.underlying183
 a51:=Tryz.isAgg183
 z51:=Tryz.sizeOf183
 v51:=Tryz.zeroValue183
 t53:=Tryz.underlying198
 a53:=Tryz.isAgg198
 z53:=Tryz.sizeOf198
 v53:=Tryz.zeroValue198
 t131:=Tryz.underlying100
 a131:=Tryz.isAgg100
 z131:=Tryz.sizeOf100
 v131:=Tryz.zeroValue100
 t182:=Tryz.underlying219
 a182:=Tryz.isAgg219
 z182:=Tryz.sizeOf219
 v182:=Tryz.zeroValue219
 t183:=Tryz.underlying220
 a183:=Tryz.isAgg220
 z183:=Tryz.sizeOf220
 v183:=Tryz.zeroValue220
 t218:=Tryz.underlying234
 a218:=Tryz.isAgg234
 z218:=Tryz.sizeOf234
 v218:=Tryz.zeroValue234
 t222:=Tryz.underlying238
 a222:=Tryz.isAgg238
 z222:=Tryz.sizeOf238
 v222:=Tryz.zeroValue238
 t228:=Tryz.underlying240
 a228:=Tryz.isAgg240
 z228:=Tryz.sizeOf240
 v228:=Tryz.zeroValue240
 t229:=Tryz.underlying241
 a229:=Tryz.isAgg241
 z229:=Tryz.sizeOf241
 v229:=Tryz.zeroValue241}
end Go.Proofs.YtgclceacfcdigaaGreatDoor
namespace Go.Proofs.YtgclceacfcdigaaGreatDoor
open Go.Pl Go.RowKit
open Enc (enc dec is)
open EncL (encL decL isL)
set_option maxRecDepth 100000
theorem UQ:ZW Tryz.prog 89 (fun _:Str×Str×Unit=>true) (fun x:Str×Str×Unit=>x.2.1.s.isPrefixOf x.1.s):=XA (by
  rintro⟨⟨s⟩,⟨p⟩,⟨⟩⟩ hps Φ w vs hL hΦ hv
  obtain⟨u,v,rfl,h1,h2⟩:=d4y hv
  rw[Q9 h1,Q9 h2]
  refine(Any.strings_HasPrefix Tryz.lays99 ⟨s.toArray⟩ ⟨p.toArray⟩ w).mono ?_
  rintro e w' ⟨rfl,rfl⟩
  exact⟨_,rfl,.bool _,.refl _ _⟩)
theorem e0m:ZW Tryz.prog 123 (fun x:Str×Unit=>decide (x.1.s.length<=1000000)) (fun x:Str×Unit=>Yz x.1):=XA (by
  rintro⟨⟨s⟩,⟨⟩⟩ hps Φ w vs hL hΦ g
  have hs:s.length<=1000000:=by simpa using hps
  obtain⟨v,rfl,h1⟩:=g4f g
  rw[Q9 h1]
  have k:(⟨s.toArray⟩:ByteArray).size=s.length:=rfl
  cases h:Lib.atoiAll s
  ·rename_i n
   have q:Yz ⟨s⟩=(n,⟨false⟩):=by simp only[Yz,h]
   rw[q]
   refine(Any.strconv_Atoi_ok Tryz.lays172 ⟨s.toArray⟩ (by rw[k];omega) n h w).mono ?_
   rintro e w' ⟨rfl,u⟩
   refine⟨_,rfl,.tup _ _ rfl ?_,?_⟩
   ·intro j v x g i
    match j with
    | 0=>cases g;cases i;exact .int _ _
    | 1=>cases g;cases i;exact .nili
    | j+2=>simp at g
   ·rcases u with rfl|⟨t,rfl⟩
    ·exact .refl _ _
    ·exact TN _ _ 0 _
  ·skip
   have q:Yz ⟨s⟩=(0,⟨true⟩):=by simp only[Yz,h]
   rw[q]
   obtain⟨cs,hc,ev,r,l⟩:=hL.syn
   refine(Any.strconv_Atoi_syntax Tryz.lays172 ⟨s.toArray⟩ (by rw[k];omega) h ev w (Jc hΦ hc r) l).mono ?_
   rintro e w' ⟨N,rfl,_,_,hb⟩
   refine⟨_,rfl,.tup _ _ rfl ?_,hb⟩
   intro j v x g i
   match j with
   | 0=>cases g;cases i;exact .int _ _
   | 1=>cases g;cases i;exact .ifc _ _
   | j+2=>simp at g
  ·skip
   have q:Yz ⟨s⟩=(Lib.atoiSat s,⟨true⟩):=by simp only[Yz,h]
   rw[q]
   obtain⟨cs,hc,ev,r,l⟩:=hL.rng
   refine(Any.strconv_Atoi_range Tryz.lays172 ⟨s.toArray⟩ (by rw[k];omega) h ev w (Jc hΦ hc r) l).mono ?_
   rintro e w' ⟨N,rfl,_,_,hb⟩
   refine⟨_,rfl,.tup _ _ rfl ?_,hb⟩
   intro j v x g i
   match j with
   | 0=>cases g;cases i;exact .int _ _
   | 1=>cases g;cases i;exact .ifc _ _
   | j+2=>simp at g)
theorem a9o:ZW Tryz.prog 154 (fun x:Int×Unit=>decide (-9223372036854775808<=x.1)&&decide (x.1<=9223372036854775807)) (fun x:Int×Unit=>Na x.1):=XA (by
  rintro⟨n,⟨⟩⟩ hps Φ w vs hL hΦ hv
  obtain⟨v,rfl,h1⟩:=g4f hv
  have h1:RP Φ v (.int .i64 n):=h1
  rw[d2k h1]
  have hn : -9223372036854775808<=n∧n<=9223372036854775807:=by simpa using hps
  have hg:=hL.pow
  obtain⟨T,fz,hh⟩:=hΦ _ _ hg
  refine(Any.strconv_Itoa Tryz.lays171 n hn.1 hn.2 w ?_).mono ?_
  ·unfold Lib.TabIs World.var?
   rw[show Program.globalNamed Tryz.prog "internal/strconv.uint64pow10" = some 5 by kernel_rfl]
   simp only[Option.bind_some,hh]
   rfl
  ·rintro e w' ⟨rfl,k,os,rfl⟩
   refine⟨_,rfl,.str _,?_⟩
   exact⟨rfl,rfl,rfl,by show w.heap.size<=(w.heap++os).size;simp,fun j hj=>by show(w.heap++os)[j]? = _;rw[Array.getElem?_append_left hj]⟩)
end Go.Proofs.YtgclceacfcdigaaGreatDoor
namespace Go.Proofs.YtgclceacfcdigaaGreatDoor
open Go.Shelf
def Tryz.lays160_ren:Go.Shelf.Ren:=⟨fun|160=>140|232=>162|231=>161|227=>163|234=>165|233=>164|236=>167|235=>166|228=>177|271=>180|151=>179|197=>178|120=>189|152=>188|260=>187|137=>90|119=>207|224=>148|225=>147|217=>121|266=>146|n=>n,fun|9=>9|4=>4|3=>3|5=>5|117=>179|116=>178|0=>0|124=>182|21=>21|105=>195|46=>164|119=>226|139=>229|138=>228|n=>n,fun|3=>3|4=>4|n=>n⟩
theorem Tryz.lays160:Go.Proofs.Lays.n160 Tryz.prog Tryz.lays160_ren:={
 mixed:=by kernel_rfl
 f119:=Go.Pl.ck_ Tryz.func207
 f120:=Go.Pl.ck_ Tryz.func189
 f137:=Go.Pl.ck_ Tryz.func90
 f151:=Go.Pl.ck_ Tryz.func179
 f152:=Go.Pl.ck_ Tryz.func188
 f160:=Go.Pl.ck_ Tryz.func140
 f197:=Go.Pl.ck_ Tryz.func178
 f217:=Go.Pl.ck_ Tryz.func121
 f224:=Go.Pl.ck_ Tryz.func148
 f225:=Go.Pl.ck_ Tryz.func147
 f227:=Go.Pl.ck_ Tryz.func163
 f228:=Go.Pl.ck_ Tryz.func177
 f231:=Go.Pl.ck_ Tryz.func161
 f232:=Go.Pl.ck_ Tryz.func162
 f233:=Go.Pl.ck_ Tryz.func164
 f234:=Go.Pl.ck_ Tryz.func165
 f235:=Go.Pl.ck_ Tryz.func166
 f236:=Go.Pl.ck_ Tryz.func167
 f260:=Go.Pl.ck_ Tryz.func187
 f266:=Go.Pl.ck_ Tryz.func146
 f271:=Go.Pl.ck_ Tryz.func180
 t0:=Tryz.underlying0
 a0:=Tryz.isAgg0
 z0:=Tryz.sizeOf0
 v0:=Tryz.zeroValue0
 t3:=Tryz.underlying3
 a3:=Tryz.isAgg3
 z3:=Tryz.sizeOf3
 v3:=Tryz.zeroValue3
 t4:=Tryz.underlying4
 a4:=Tryz.isAgg4
 z4:=Tryz.sizeOf4
 v4:=Tryz.zeroValue4
 t5:=Tryz.underlying5
 a5:=Tryz.isAgg5
 z5:=Tryz.sizeOf5
 v5:=Tryz.zeroValue5
 t9:=Tryz.underlying9
 a9:=Tryz.isAgg9
 z9:=Tryz.sizeOf9
 v9:=Tryz.zeroValue9
 t21:=Tryz.underlying21
 a21:=Tryz.isAgg21
 z21:=Tryz.sizeOf21
 v21:=Tryz.zeroValue21
 t46:=Tryz.underlying164
 a46:=Tryz.isAgg164
 z46:=Tryz.sizeOf164
 v46:=Tryz.zeroValue164
 t105:=Tryz.underlying195
 a105:=Tryz.isAgg195
 z105:=Tryz.sizeOf195
 v105:=Tryz.zeroValue195
 t116:=Tryz.underlying178
 a116:=Tryz.isAgg178
 z116:=Tryz.sizeOf178
 t117:=Tryz.underlying179
 a117:=Tryz.isAgg179
 z117:=Tryz.sizeOf179
 v117:=Tryz.zeroValue179
 t119:=Tryz.underlying226
 a119:=Tryz.isAgg226
 z119:=Tryz.sizeOf226
 t124:=Tryz.underlying182
 a124:=Tryz.isAgg182
 z124:=Tryz.sizeOf182
 v124:=Tryz.zeroValue182
 t138:=Tryz.underlying228
 a138:=Tryz.isAgg228
 z138:=Tryz.sizeOf228
 v138:=Tryz.zeroValue228
 t139:=Tryz.underlying229
 a139:=Tryz.isAgg229
 z139:=Tryz.sizeOf229
 v139:=Tryz.zeroValue229
 g3:=by kernel_rfl
 g4:=by kernel_rfl}
end Go.Proofs.YtgclceacfcdigaaGreatDoor
namespace Go.Proofs.YtgclceacfcdigaaGreatDoor
open Go.Pl Go.RowKit
open Enc (enc dec is)
open EncL (encL decL isL)
set_option maxRecDepth 100000
theorem f7z: ∀ s:List UInt8,((s.dropWhile fun c=>c != 46)=[]->Lib.index s [46] = -1) ∧
  ∀ (c:UInt8) (r:List UInt8),(s.dropWhile fun c=>c != 46)=c::r->Lib.index s [46]=((s.takeWhile fun c=>c != 46).length:Nat)∧s.drop ((s.takeWhile fun c=>c != 46).length+1)=r∧s.take (s.takeWhile fun c=>c != 46).length=s.takeWhile fun c=>c != 46
 | []=>⟨fun _=>rfl,fun _ _ h=>by cases h⟩
 | b::l=>by
  obtain⟨h1,h2⟩:=f7z l
  by_cases hb:b=46
  ·subst hb
   refine⟨fun h=>by simp at h,fun c r h=> ?_⟩
   have h:(46:UInt8)::l=c::r:=by simpa using h
   cases h
   exact⟨rfl,rfl,rfl⟩
  ·have g:(b != 46)=true:=by simpa using hb
   have k:([46]:List UInt8).isPrefixOf (b::l)=false:=by simp[List.isPrefixOf];exact fun e=>hb e.symm
   have i:Lib.index (b::l) [46]=if Lib.index l [46] == -1 then -1 else Lib.index l [46]+1:=by rw[Lib.index,k];rfl
   rw[List.dropWhile_cons,if_pos g,List.takeWhile_cons,if_pos g]
   refine⟨fun h=>by rw[i,h1 h];rfl,fun c r h=> ?_⟩
   obtain⟨u,q,j⟩:=h2 c r h
   rw[i,u]
   refine⟨?_,?_,?_⟩
   ·rw[if_neg (by simp),List.length_cons];rfl
   ·rw[List.length_cons,List.drop_succ_cons];exact q
   ·rw[List.length_cons,List.take_succ_cons,j]
theorem f5a(s:List UInt8):Lib.cut s [46]=((Qv ⟨s⟩).a.s,(Qv ⟨s⟩).b.s,(Qv ⟨s⟩).c):=by
 obtain⟨h1,h2⟩:=f7z s
 unfold Lib.cut Qv
 cases hd:s.dropWhile fun c=>c != 46 with
 | nil=>
  rw[h1 hd]
  rfl
 | cons c r=>
  obtain⟨h,g,e⟩:=h2 c r hd
  rw[h,if_pos (by omega),Int.toNat_natCast,e]
  show(_,s.drop ((s.takeWhile fun c=>c != 46).length+1),true)=_
  rw[g]
theorem e0b:ZW Tryz.prog 136 (fun x:Str×Str×Unit=>decide (x.1.s.length<=1048576)&&decide (x.2.1.s=[46])) (fun x:Str×Str×Unit=>Qv x.1):=XA (by
  rintro⟨⟨s⟩,⟨p⟩,⟨⟩⟩ hps Φ w vs hL hΦ g
  simp only[Bool.and_eq_true,decide_eq_true_eq]at hps
  obtain⟨hs,i⟩:=hps
  have i:p=[46]:=i
  subst i
  obtain⟨u,v,rfl,h1,h2⟩:=d4y g
  rw[Q9 h1,Q9 h2]
  obtain⟨cs,m,hc,hm⟩:=hL.mx
  have l:(⟨s.toArray⟩:ByteArray).size=s.length:=rfl
  refine(Any.strings_Cut Tryz.lays145 ⟨s.toArray⟩ ⟨#[46]⟩ m w (by rw[l];have hs:s.length<=1048576:=hs;omega) (Jc hΦ hc hm)).mono ?_
  rintro e w' ⟨rfl,k,rfl⟩
  refine⟨_,rfl,.tup _ _ rfl ?_,?_⟩
  ·rw[show(⟨s.toArray⟩:ByteArray).data.toList=s from rfl,show(⟨#[46]⟩:ByteArray).data.toList=[46]from rfl,f5a]
   intro j v x g h
   match j with
   | 0=>cases g;cases h;exact .str _
   | 1=>cases g;cases h;exact .str _
   | 2=>cases g;cases h;exact .bool _
   | j+3=>simp at g
  ·exact⟨rfl,rfl,rfl,Nat.le_refl _,fun _ _=>rfl⟩)
theorem f1p:ZW Tryz.prog 90 (fun x:Str×UInt8×Unit=>decide (x.1.s.length<=1048576)) (fun x:Str×UInt8×Unit=>Lib.indexByte x.1.s x.2.1):=XA (by
  rintro⟨⟨s⟩,c,⟨⟩⟩ hps Φ w vs hL hΦ hv
  obtain⟨u,v,rfl,h1,h2⟩:=d4y hv
  rw[Q9 h1,d2k h2]
  refine(Any.strings_IndexByte Tryz.lays137 ⟨s.toArray⟩ (c.toNat:Int) w).mono ?_
  rintro e w' ⟨rfl,rfl⟩
  have hc:((c.toNat:Int)).toNat.toUInt8=c:=by
   rw[Int.toNat_natCast]
   exact UInt8.ofNat_toNat
  rw[hc]
  exact⟨_,rfl,.int _ _,.refl _ _⟩)
theorem d2g:ZW Tryz.prog 65 (fun x:Str×Str×Unit=>decide (x.1.s.length<=1048576)&&decide (x.2.1.s=[10])) (fun x:Str×Str×Unit=>(Lib.countByte x.1.s 10:Int)):=XA (by
  rintro⟨⟨s⟩,⟨p⟩,⟨⟩⟩ hps Φ w vs hL hΦ hv
  obtain⟨-,rfl⟩:s.length<=1048576∧p=[10]:=by simpa using hps
  obtain⟨u,v,rfl,h1,h2⟩:=d4y hv
  rw[Q9 h1,Q9 h2]
  refine(Any.strings_Count_one Tryz.lays138 ⟨s.toArray⟩ 10 w).mono ?_
  rintro e w' ⟨rfl,rfl⟩
  exact⟨_,rfl,.int _ _,.refl _ _⟩)
theorem c7n:ZW Tryz.prog 140 (fun x:Str×Str×Unit=>decide (x.1.s.length<=1048576)&&decide (x.2.1.s=Ht)) (fun x:Str×Str×Unit=>(⟨LD x.1.s⟩:Str)):=XA (by
  rintro⟨⟨s⟩,⟨p⟩,⟨⟩⟩ hps Φ w vs hL hΦ hv
  simp only[Bool.and_eq_true,decide_eq_true_eq]at hps
  obtain⟨hs,h⟩:=hps
  have h:p=Ht:=h
  subst h
  obtain⟨u,v,rfl,h1,h2⟩:=d4y hv
  rw[Q9 h1,Q9 h2]
  have g:(⟨s.toArray⟩:ByteArray).size=s.length:=rfl
  refine(Any.strings_Trim_laid Tryz.lays160 (by kernel_rfl) ⟨s.toArray⟩ ⟨Ht.toArray⟩ w (by rw[g];have hs:s.length<=1048576:=hs;omega) (by decide) (ascii_of_all (l:=Ht) (by decide))).mono ?_
  rintro e w' ⟨rfl,hb⟩
  exact⟨_,rfl,.str _,hb⟩)
end Go.Proofs.YtgclceacfcdigaaGreatDoor
namespace Go.Proofs.YtgclceacfcdigaaGreatDoor
open Go.RowKit Go.Lib Go.Pl
theorem d9i:(Tryz.prog.info? 3).map (fun i=>(i.zero,i.size,i.bytes))=some (some (.int .i64 0),1,8):=by kernel_rfl
theorem Ae:Tryz.prog.underlying 25=some (.slice 3):=by kernel_rfl
theorem b3u(n c:Nat)(w:World):Calls Tryz.prog 134 #[.slice none n c] w fun e w'=>e = .returned (.slice none 0 0)∧w'=w:=by
 have q22 : ∀ (w:World) (a:Option Addr) (n c g h:Nat),(binOp .eql 25 (.slice a n c) (.slice none g h)).run Tryz.prog w = .ok (.bool a.isNone) w:=fun w a n c g h=>Lib.run_eql_slice_nil w _ _ a n c g h Ae
 go_enter Tryz.func134,Tryz.ntmps134
 go_wp2
 go_ret
 exact⟨rfl,rfl⟩
theorem b2k(a:Addr)(c:Nat)(w:World):Calls Tryz.prog 134 #[.slice (some a) 0 c] w fun e w'=>(∃ g,e = .returned (.slice (some g) 0 0))∧Below w.heap.size w w':=by
 have q22 : ∀ (w:World) (a:Option Addr) (n c h i:Nat),(binOp .eql 25 (.slice a n c) (.slice none h i)).run Tryz.prog w = .ok (.bool a.isNone) w:=fun w a n c h i=>Lib.run_eql_slice_nil w _ _ a n c h i Ae
 obtain⟨i0,hi,hz0,hz1,hz2⟩:=info_parts d9i
 go_enter Tryz.func134,Tryz.ntmps134
 go_wp2_with (at_builtin;refine Lib.wpList_append_run _ rfl _ _ _ _ rfl _ _ rfl rfl _ _ (VD Ae hi (Nat.le_refl _)) ?_)
 go_ret
 exact⟨⟨_,rfl⟩,(Below.refl _ w).alloc (Nat.le_refl _) _⟩
theorem b2c(a:Addr)(n c:Nat)(news:List Value)(w:World)(h0:0<n)(hn:n<=2000000)(z:news.length=n*1)(hc : ∀ j u,news[j]? = some u->w.cell? (a.add j)=some u)(h1 : ∀ u∈news,u.oneCell'=true):
  Calls Tryz.prog 134 #[.slice (some a) n c] w fun e w'=> ∃ v',e = .returned v'∧w'.ownsRow w.heap.size 3 1 v' n news∧Below w.heap.size w w':=by
 have q22 : ∀ (w:World) (a:Option Addr) (n c i l:Nat),(binOp .eql 25 (.slice a n c) (.slice none i l)).run Tryz.prog w = .ok (.bool a.isNone) w:=fun w a n c i l=>Lib.run_eql_slice_nil w _ _ a n c i l Ae
 obtain⟨C,hi,s,r,q⟩:=info_parts d9i
 have A:Aside (∀ j u,news[j]? = some u->w.cell? (a.add j)=some u):=hc
 clear hc
 go_enter Tryz.func134,Tryz.ntmps134
 go_wp2_with (at_builtin;refine wpList_append_own _ rfl _ _ 25 rfl w.heap.size 3 C (.int .i64 0) 1 8 Ae hi s r q rfl (by decide) _ _ _ rfl (World.ownsRow_made w #[] 0 (Nat.le_refl _) (Nat.zero_le _) rfl) a n c news rfl ?qc1 ?qc2 ?qc3 ?qc4 ?qc5 ?qc6 ?_)
 case qc1=>exact z
 case qc2=>intro j u y;exact Lib.cell?_alloc_some _ (A.out j u y)
 case qc3=>exact h1
 case qc4=>unfold maxLen;omega
 case qc5=>omega
 case qc6=>simp
 intro v' w1 h g hnil
 go_wp2
 go_ret
 refine⟨v',rfl,by simpa using h,?_⟩
 exact((Below.refl _ w).alloc (Nat.le_refl _) _).grown g (by simp) (by intro k B;simp[Value.ownBlock]at B;omega)
theorem g0e:CloneC Tryz.prog 134 3 1:=⟨b3u,b2k,b2c⟩
end Go.Proofs.YtgclceacfcdigaaGreatDoor
namespace Go.Proofs.YtgclceacfcdigaaGreatDoor
open Go.Pl
open Enc (enc dec is)
open EncL (encL decL isL)
set_option maxRecDepth 100000
theorem U2:Tryz.prog.follows .mixedOrders=true:=by kernel_rfl
theorem tq{f:Nat}{D:Den}{l:List (Nat×Den)}{fn:Func}(hf:Tryz.prog.funcs[f]? = some fn)(h:c5p Tryz.prog f D)(k:Yi Tryz.prog (Y9 l))(hb:(fn.body.isSome&& !(fn.name == "runtime.NumGoroutine"))=true:=by kernel_rfl):Yi Tryz.prog (Y9 ((f,D)::l)):=Wj (ent hf hb h) k
theorem dq{f nt:Nat}{α β:Type}[EncL α][Enc β]{fn:Func}{T:ZP}{ic:IC}{rs:List IRes}{pre:α->Bool}{F:α->β}(h : ∀ a,pre a=true->Zj T 0 (Za rs (Ze (F a))) ic [] (YN nt (encL a)))(k:Yi Tryz.prog T)(j:Tryz.prog.funcs[f]? = some fn)(g:Rn Tryz.prog fn=some ic:=by kernel_rfl)(i:XK (Xh Tryz.prog) fn.results.toList=some rs:=by kernel_rfl)(e:fn.ntmps=nt:=by kernel_rfl):ZW Tryz.prog f pre F:=ZW.of k U2 j g i e h
theorem Af{α β S:Type}[EncL α][Enc β][EncL S]{T:ZP}{f:Nat}{fn:Func}{ic:IC}{rs:List IRes}{mk:α->List AV}{e g:List AObj}{pre:S->α->Bool}{un:List AV->α}{F:S->α->β×S}{nt k:Nat}(h : ∀ s a,pre s a=true->Zj T k (Zz k rs (ZK e g (F s a).1 (F s a).2)) ic [] (Z8 nt (mk a) (e++Zi s::g)))(hm:N9 mk un)(r:Yi Tryz.prog T)(q:Tryz.prog.funcs[f]? = some fn)(u:e.length+1+g.length=k:=by exact rfl)(j:Rn Tryz.prog fn=some ic:=by kernel_rfl)(i:XK (Xh Tryz.prog) fn.results.toList=some rs:=by kernel_rfl)(l:fn.ntmps=nt:=by kernel_rfl):Z9 Tryz.prog f mk un e g pre F:=Z9.of hm r U2 q j i l u h
theorem Ef:ZW Tryz.prog 123 (fun x:Str×Unit=>decide (x.1.s.length<=281474976710656)) (fun x:Str×Unit=>Yz x.1):=XA (by
  rintro⟨⟨s⟩,⟨⟩⟩ hps Φ w vs hL hΦ g
  have hs:s.length<=281474976710656:=by simpa using hps
  obtain⟨v,rfl,h1⟩:=g4f g
  rw[Q9 h1]
  have k:(⟨s.toArray⟩:ByteArray).size=s.length:=rfl
  cases h:Lib.atoiAll s
  ·rename_i n
   have q:Yz ⟨s⟩=(n,⟨false⟩):=by simp only[Yz,h]
   rw[q]
   refine(Any.strconv_Atoi_ok Tryz.lays172 ⟨s.toArray⟩ (by rw[k];omega) n h w).mono ?_
   rintro e w' ⟨rfl,u⟩
   refine⟨_,rfl,.tup _ _ rfl ?_,?_⟩
   ·intro j v x g i
    match j with
    | 0=>cases g;cases i;exact .int _ _
    | 1=>cases g;cases i;exact .nili
    | j+2=>simp at g
   ·rcases u with rfl|⟨t,rfl⟩
    ·exact .refl _ _
    ·exact TN _ _ 0 _
  ·skip
   have q:Yz ⟨s⟩=(0,⟨true⟩):=by simp only[Yz,h]
   rw[q]
   obtain⟨cs,hc,ev,r,l⟩:=hL.syn
   refine(Any.strconv_Atoi_syntax Tryz.lays172 ⟨s.toArray⟩ (by rw[k];omega) h ev w (Jc hΦ hc r) l).mono ?_
   rintro e w' ⟨N,rfl,_,_,hb⟩
   refine⟨_,rfl,.tup _ _ rfl ?_,hb⟩
   intro j v x g i
   match j with
   | 0=>cases g;cases i;exact .int _ _
   | 1=>cases g;cases i;exact .ifc _ _
   | j+2=>simp at g
  ·skip
   have q:Yz ⟨s⟩=(Lib.atoiSat s,⟨true⟩):=by simp only[Yz,h]
   rw[q]
   obtain⟨cs,hc,ev,r,l⟩:=hL.rng
   refine(Any.strconv_Atoi_range Tryz.lays172 ⟨s.toArray⟩ (by rw[k];omega) h ev w (Jc hΦ hc r) l).mono ?_
   rintro e w' ⟨N,rfl,_,_,hb⟩
   refine⟨_,rfl,.tup _ _ rfl ?_,hb⟩
   intro j v x g i
   match j with
   | 0=>cases g;cases i;exact .int _ _
   | 1=>cases g;cases i;exact .ifc _ _
   | j+2=>simp at g)
theorem d1m:Xn Tryz.prog 176 UM QG:=d0l (Any.slices_Sort_string Tryz.lays190) (Any.slices_Sort_string_none Tryz.lays190)
theorem Od:ZW Tryz.prog 131 (fun _:Int×Unit=>true) (fun x:Int×Unit=>Xo x.1):=dq e7w Zd Tryz.func131
theorem b1w:ZW Tryz.prog 130 (fun x:Str×Unit=>decide (x.1.s.length<=1000000)) (fun x:Str×Unit=>nameB x.1):=dq c8j (tq Tryz.func89 UQ (tq Tryz.func123 e0m (tq Tryz.func154 a9o Zd))) Tryz.func130
theorem TY:ZW Tryz.prog 130 (fun x:Str×Unit=>decide (x.1.s.length<=281474976710656)) (fun x:Str×Unit=>nameB x.1):=dq b4i (tq Tryz.func89 UQ (tq Tryz.func123 Ef (tq Tryz.func154 a9o Zd))) Tryz.func130
theorem Js:ZW Tryz.prog 105 (fun x:Lin×Unit=>Z0 x.1) (fun x:Lin×Unit=>Zx x.1):=dq c0o (tq Tryz.func131 Od (tq Tryz.func130 b1w Zd)) Tryz.func105
theorem JU:ZW Tryz.prog 105 (fun x:Lin×Unit=>X4 x.1) (fun x:Lin×Unit=>Zx x.1):=dq c8g (tq Tryz.func131 Od (tq Tryz.func130 TY Zd)) Tryz.func105
theorem Jr:ZW Tryz.prog 94 (fun _:UInt8×Unit=>true) (fun x:UInt8×Unit=>lowB x.1):=dq b3c Zd Tryz.func94
theorem Bu:ZW Tryz.prog 97 (fun _:UInt8×Unit=>true) (fun x:UInt8×Unit=>digB x.1):=dq b5e Zd Tryz.func97
theorem Cu:ZW Tryz.prog 95 (fun x:Str×Bool×Unit=>decide (x.1.s.length<=1048576)) (fun x:Str×Bool×Unit=>YQ x.1 x.2.1):=dq d5c (tq Tryz.func97 Bu (tq Tryz.func94 Jr Zd)) Tryz.func95
theorem He:ZW Tryz.prog 96 (fun _:Str×Unit=>true) (fun x:Str×Unit=>Cn.contains x.1.s):=dq e5b Zd Tryz.func96
theorem UU:ZW Tryz.prog 72 (fun x:Str×Unit=>decide (x.1.s.length<=1048576)) (fun x:Str×Unit=>nameI x.1.s):=dq c8s (tq Tryz.func94 Jr (tq Tryz.func95 Cu (tq Tryz.func96 He Zd))) Tryz.func72
theorem Kz:ZW Tryz.prog 109 (fun x:Str×Unit=>decide (x.1.s.length<=1048576)) (fun x:Str×Unit=>fullI x.1.s):=dq d0q (tq Tryz.func136 e0b (tq Tryz.func72 UU Zd)) Tryz.func109
theorem Hg:ZW Tryz.prog 77 (fun x:Str×Unit=>decide (x.1.s.length<=1048576)) (fun x:Str×Unit=>fnI x.1.s):=dq d9f (tq Tryz.func72 UU (tq Tryz.func109 Kz Zd)) Tryz.func77
theorem NN:ZW Tryz.prog 74 (fun x:Tm×Unit=>nW x.1) (fun x:Tm×Unit=>Sl x.1.nd):=dq e4w Zd Tryz.func74
theorem LZ:ZW Tryz.prog 104 (fun x:Lin×Unit=>X4 x.1) (fun x:Lin×Unit=> !(Zx x.1)):=dq e5d (tq Tryz.func105 JU Zd) Tryz.func104
theorem e9y:ZW Tryz.prog 129 (fun x:List Lin×FnV 104×Unit=>decide (x.1.length<=1048576)&&x.1.all X4) (fun x:List Lin×FnV 104×Unit=>XW (fun l:Lin=> !(Zx l)) x.1):=dq f4a (tq Tryz.func104 LZ Zd) Tryz.func129
theorem f3m:ZW Tryz.prog 103 (fun x:List Lin×FnV 104×Unit=>decide (x.1.length<=1048576)&&x.1.all X4) (fun x:List Lin×FnV 104×Unit=>x.1.any fun l:Lin=> !(Zx l)):=dq f0s (tq Tryz.func129 e9y Zd) Tryz.func103
theorem BI:ZW Tryz.prog 73 (fun x:Tm×Int×Int×Unit=>nW x.1) (fun x:Tm×Int×Int×Unit=>XD x.1.nd x.2.1 x.2.2.1):=dq c0k (tq Tryz.func103 f3m Zd) Tryz.func73
theorem a3p:ZW Tryz.prog 108 (fun _:Int×Unit=>true) (fun x:Int×Unit=>YE x.1):=dq e3c Zd Tryz.func108
theorem e7f:ZW Tryz.prog 135 (fun x:List Int×FnV 108×Unit=>decide (x.1.length<=1048576)) (fun x:List Int×FnV 108×Unit=>XW YE x.1):=dq f3u (tq Tryz.func108 a3p Zd) Tryz.func135
theorem e8t:ZW Tryz.prog 107 (fun x:List Int×FnV 108×Unit=>decide (x.1.length<=1048576)) (fun x:List Int×FnV 108×Unit=>x.1.any YE):=dq e8o (tq Tryz.func135 e7f Zd) Tryz.func107
theorem a8k:ZW Tryz.prog 76 (fun x:Tm×Unit=>nW x.1) (fun x:Tm×Unit=>callB x.1.nd x.1.ks.length):=dq c8b (tq Tryz.func77 Hg (tq Tryz.func73 BI (tq Tryz.func107 e8t Zd))) Tryz.func76
theorem d4g:WH Tryz.prog 175 YF GY:=G7 (T:=Qw) (ic:=V9) (rs:=V3) Zd U2 Tryz.func175 (by kernel_rfl) (by kernel_rfl) (by kernel_rfl) c7m
theorem b1m:WH Tryz.prog 155 YF Qz:=G7 (T:=DZ) (ic:=H5) (rs:=GM) (tq Tryz.func175 d4g Zd) U2 Tryz.func155 (by kernel_rfl) (by kernel_rfl) (by kernel_rfl) a1w
theorem f5l:WH Tryz.prog 132 P6 U3:=G7 (T:=WK) (ic:=XI) (rs:=XH) (tq Tryz.func155 b1m Zd) U2 Tryz.func132 (by kernel_rfl) (by kernel_rfl) (by kernel_rfl) d7l
theorem e3a:ZW Tryz.prog 132 (fun _:List Int×Unit=>true) (fun x:List Int×Unit=>Qr x.1):=ZW.ofPure f5l fun⟨l,_⟩ h=>⟨by show(ZQ l).all PV.isNum=true;simp,by show Ze _ (.tup [.int .i64 (Qr ((ZQ l).map PV.asInt)).1,.int .i64 (Qr ((ZQ l).map PV.asInt)).2]);rw[UD];exact Zq (x:=Qr l) rfl⟩
theorem c9q:ZW Tryz.prog 134 (fun x:List Int×Unit=>decide (x.1.length<=2000000)) (fun x:List Int×Unit=>x.1):=b5j (α:=Int) (by decide) (d0i g0e (by decide))
theorem a5g:ZW Tryz.prog 157 (fun _:Str×Int×Unit=>true) (fun x:Str×Int×Unit=>Uq x.1 x.2.1):=dq f4c Zd Tryz.func157
theorem g3f:Xn Tryz.prog 156 RB a3m:=FK (T:=d7r) (ic:=b3j) (rs:=b6l) (tq Tryz.func157 a5g Zd) U2 Tryz.func156 (by kernel_rfl) (by kernel_rfl) (by kernel_rfl) e8s
theorem g0r:Xn Tryz.prog 135 Uf RX:=FK (T:=M4) (ic:=DW) (rs:=CF) (tq Tryz.func156 g3f Zd) U2 Tryz.func135 (by kernel_rfl) (by kernel_rfl) (by kernel_rfl) e9b
theorem g5z:Xn Tryz.prog 107 Uf EQ:=FK (T:=d7i) (ic:=b9r) (rs:=b3s) (tq Tryz.func135 g0r Zd) U2 Tryz.func107 (by kernel_rfl) (by kernel_rfl) (by kernel_rfl) e7t
theorem b0m:ZW Tryz.prog 133 (fun x:Str×List Int×Unit=>decide (x.2.1.length<=2000000)) (fun x:Str×List Int×Unit=>x.2.1.all (Uq x.1)):=dq a5c (tq Tryz.func107 g5z Zd) Tryz.func133
theorem c7i:ZW Tryz.prog 106 (fun x:Str×List Int×List Int×Unit=>decide (x.2.1.length<=2000000)&&decide (x.2.2.1.length<=2000000)) (fun x:Str×List Int×List Int×Unit=>c6n x.1 x.2.1 x.2.2.1):=dq d7j (tq Tryz.func132 e3a (tq Tryz.func133 b0m (tq Tryz.func134 c9q Zd))) Tryz.func106
theorem a4o:ZW Tryz.prog 75 (fun x:Arr×Unit=>d0e x.1) (fun x:Arr×Unit=>d6g x.1):=dq f3t (tq Tryz.func106 c7i Zd) Tryz.func75
theorem b2p:ZW Tryz.prog 52 (fun x:Tm×Unit=>nW x.1) (fun x:Tm×Unit=>Pz x.1):=dq c9u (tq Tryz.func72 UU (tq Tryz.func73 BI (tq Tryz.func74 NN (tq Tryz.func75 a4o (tq Tryz.func76 a8k (tq Tryz.func77 Hg Zd)))))) Tryz.func52
theorem g1n:Xn Tryz.prog 51 BL (a0t 70):=FK (T:=b8d) (ic:=a0w) (rs:=a2k) Zd U2 Tryz.func51 (by kernel_rfl) (by kernel_rfl) (by kernel_rfl) d7p
theorem c5v{cd:Code}(h:DL Tryz.prog e4i Tryz.f28 0=some cd):BO Tryz.prog cd=some (.t 7,[8,9],NK,NJ):=by
 have:(DL Tryz.prog e4i Tryz.f28 0).bind (BO Tryz.prog)=some (.t 7,[8,9],NK,NJ):=by kernel_rfl
 rw[h]at this
 exact this
theorem f3x(g:Yi Tryz.prog DC): ∀ (B:Nat) (c:Ctx),c.w0.heap.size=B->(∀ i m,0<=i->c.μ0 i m=none)->e0e (MM B 4 g U2) (fun n cd=>DL Tryz.prog e4i Tryz.f28 n=some cd) tvE c:=by
 rintro B c j k n cd e st a w q hr ⟨rfl,h⟩
 exact c7q g U2 d2h (fun x=>by obtain⟨t,l⟩:=x;rfl) (c5v e) j k hr h
theorem c1r:Yi Tryz.prog DC:=(tq Tryz.func51 g1n (tq Tryz.func52 b2p Zd))
theorem DN:ZW Tryz.prog 28 (fun x:Tm×Unit=>gW x.1) (fun x:Tm×Unit=>YB x.1):=ZW.ofM (T:=DC) (ic:=A8) (rs:=D9) (E:=tvE) (sel:=e4i) c1r U2 Tryz.func28 (by kernel_rfl) (by kernel_rfl) (by kernel_rfl) (f3x c1r) e9h
theorem NH:Yi Tryz.prog Wh:=(tq Tryz.func176 d1m (tq Tryz.func105 Js Zd))
theorem d0t{cd:Code}(h:DL Tryz.prog d6b Tryz.f160 0=some cd):Bf Tryz.prog cd=some d2v:=by
 have:(DL Tryz.prog d6b Tryz.f160 0).bind (Bf Tryz.prog)=some d2v:=by kernel_rfl
 rw[h]at this
 exact this
theorem f1k(args:List AV)(os:List AObj)(h:WM args os=true)(c:Ctx)(g : ∀ i m,os.length<=i->c.μ0 i m=none):e0e (R7 NH U2) (fun n cd=>DL Tryz.prog d6b Tryz.f160 n=some cd) Em c:=by
 rintro n cd e st a w q hr ⟨rfl,j⟩
 have h2:os.length=2:=by
  unfold WM at h
  split at h
  ·rfl
  ·cases h
 rw[h2]at g
 exact f2s NH U2 (d0t e) g hr j
theorem e7m:Xn Tryz.prog 160 WM KZ:=g7m (T:=Wh) (ic:=X6) (rs:=X7) (E:=Em) (sel:=d6b) NH U2 Tryz.func160 (by kernel_rfl) (by kernel_rfl) (by kernel_rfl) f1k e0l e1g
theorem g0y:Xn Tryz.prog 160 WM RQ:=f5d e7m
theorem f9s:Xn Tryz.prog 159 Kt Rw:=FK (T:=Hz) (ic:=Kq) (rs:=Kk) Zd U2 Tryz.func159 (by kernel_rfl) (by kernel_rfl) (by kernel_rfl) f0z
theorem Gv:ZW Tryz.prog 139 (fun x:Lin×Lin×Int×Unit=>Z0 x.1&&Z0 x.2.1) (fun x:Lin×Lin×Int×Unit=>ZM x.1 x.2.1 x.2.2.1):=dq b0g (tq Tryz.func105 Js (tq Tryz.func159 f9s (tq Tryz.func160 g0y Zd))) Tryz.func139
theorem FR:ZW Tryz.prog 113 (fun x:Lin×Lin×Unit=>Z0 x.1&&Z0 x.2.1) (fun x:Lin×Lin×Unit=>ZM x.1 x.2.1 1):=dq c8k (tq Tryz.func139 Gv Zd) Tryz.func113
theorem TP:ZW Tryz.prog 112 (fun x:Lin×Int×Unit=>Z0 x.1) (fun x:Lin×Int×Unit=>Uu x.1 x.2.1):=dq b9p (tq Tryz.func139 Gv Zd) Tryz.func112
theorem c7v:ZW Tryz.prog 138 (fun _:Int×Unit=>true) (fun x:Int×Unit=>(⟨x.1,[]⟩:Lin)):=dq e8l Zd Tryz.func138
theorem F4:ZW Tryz.prog 114 (fun x:Lin×Lin×Unit=>Z0 x.1&&Z0 x.2.1) (fun x:Lin×Lin×Unit=>ZM x.1 x.2.1 (-1)):=dq d0w (tq Tryz.func139 Gv Zd) Tryz.func114
theorem b2x:ZW Tryz.prog 137 (fun _:Str×Unit=>true) (fun x:Str×Unit=>BD x.1):=dq f2d Zd Tryz.func137
theorem Jy:ZW Tryz.prog 98 (fun x:Str×Unit=>decide (x.1.s.length<=1048576)) (fun x:Str×Unit=>U1 x.1):=dq e7l (tq Tryz.func95 Cu (tq Tryz.func123 Ef Zd)) Tryz.func98
theorem g2e:WH Tryz.prog 99 RV a2u:=G7 (T:=d1w) (ic:=b6c) (rs:=b4a) Zd U2 Tryz.func99 (by kernel_rfl) (by kernel_rfl) (by kernel_rfl) fun ps h=>c4h (e7x ps h)
theorem a1h:ZW Tryz.prog 64 (fun x:Str×Unit=>decide (x.1.s.length<=1048576)) (fun x:Str×Unit=>QP x.1):=dq f4w (tq Tryz.func89 UQ (tq Tryz.func90 f1p Zd)) Tryz.func64
theorem a1q:ZW Tryz.prog 66 (fun x:Str×Unit=>decide (x.1.s.length<=1048576)) (fun x:Str×Unit=>ZE x.1):=dq e7n (tq Tryz.func94 Jr (tq Tryz.func95 Cu (tq Tryz.func96 He (tq Tryz.func72 UU (tq Tryz.func97 Bu (tq Tryz.func98 Jy (tq Tryz.func89 UQ (tq Tryz.func99 g2e Zd)))))))) Tryz.func66
theorem NG:ZW Tryz.prog 48 (fun _:Str×Unit=>true) (fun x:Str×Unit=>Y4 x.1):=dq e9i (tq Tryz.func64 a1h (tq Tryz.func65 d2g (tq Tryz.func66 a1q Zd))) Tryz.func48
theorem g0q:WH Tryz.prog 124 a4w a6a:=G7 (T:=b4p) (ic:=a5r) (rs:=a0e) Zd U2 Tryz.func124 (by kernel_rfl) (by kernel_rfl) (by kernel_rfl) fun ps h=>c4h (d1x ps h)
theorem a0l:ZW Tryz.prog 101 (fun _:Str×Bool×Unit=>true) (fun x:Str×Bool×Unit=>Hr x.1 x.2.1):=dq d9l (tq Tryz.func124 g0q Zd) Tryz.func101
theorem c9t:ZW Tryz.prog 115 (fun x:Str×Unit=>decide (x.1.s.length<=1048576)) (fun x:Str×Unit=>evB x.1.s):=dq e7q (tq Tryz.func140 c7n Zd) Tryz.func115
theorem d0p:ZW Tryz.prog 141 (fun x:Lin×Unit=>X4 x.1) (fun x:Lin×Unit=> !(Zx x.1)):=dq f1d (tq Tryz.func105 JU Zd) Tryz.func141
theorem f0i:ZW Tryz.prog 129 (fun x:List Lin×FnV 141×Unit=>decide (x.1.length<=1048576)&&x.1.all X4) (fun x:List Lin×FnV 141×Unit=>XW (fun l:Lin=> !(Zx l)) x.1):=dq e9j (tq Tryz.func141 d0p Zd) Tryz.func129
theorem e9a:ZW Tryz.prog 103 (fun x:List Lin×FnV 141×Unit=>decide (x.1.length<=1048576)&&x.1.all X4) (fun x:List Lin×FnV 141×Unit=>x.1.any fun l:Lin=> !(Zx l)):=dq f4k (tq Tryz.func129 f0i Zd) Tryz.func103
theorem a4u:ZW Tryz.prog 116 (fun x:Sp×Unit=>spW x.1) (fun x:Sp×Unit=>shV x.1.row x.1.dims):=dq b5r (tq Tryz.func130 TY (tq Tryz.func103 e9a Zd)) Tryz.func116
theorem L9:ZW Tryz.prog 80 (fun x:TyS×Unit=>Ja x.1) (fun x:TyS×Unit=>LG x.1):=dq a9d (tq Tryz.func115 c9t (tq Tryz.func116 a4u Zd)) Tryz.func80
theorem Y3: Z9 Tryz.prog 38 ZF Y5 [] [] (fun(s:PS) (a:Int×Unit)=>Zb s&&(decide (0<=a.1)&&decide (a.1<=1000))) PR:=Af (f4e) ZR Zd Tryz.func38
theorem Us: Z9 Tryz.prog 50 ZF Y5 [] [] (fun(s:PS) (_:Unit)=>Zb s) FX:=Af (f2z) ZR (tq Tryz.func38 Y3 Zd) Tryz.func50
theorem Wv: Z9 Tryz.prog 37 ZF Y5 [] [] (fun(s:PS) (_:Str×Unit)=>Zb s) Cf:=Af (f2t) ZR (tq Tryz.func38 Y3 Zd) Tryz.func37
theorem YR: Z9 Tryz.prog 35 ZF Y5 [] [] (fun(s:PS) (_:Str×Unit)=>Zb s) Ox:=Af (f2q) ZR (tq Tryz.func37 Wv Zd) Tryz.func35
theorem VG: Z9 Tryz.prog 33 ZF Y5 [] [] (fun(s:PS) (_:Str×Unit)=>Zb s) Py:=Af (e8x) ZR (tq Tryz.func35 YR (tq Tryz.func50 Us Zd)) Tryz.func33
theorem WS: Z9 Tryz.prog 34 ZF Y5 [] [] (fun(s:PS) (_:Unit)=>Zb s) Ni:=Af (f0d) ZR (tq Tryz.func38 Y3 (tq Tryz.func50 Us Zd)) Tryz.func34
theorem Vn: Z9 Tryz.prog 100 ZF Y5 [] [] (fun(s:PS) (_:Int×Unit)=>Zb s) b7i:=Af (f1l) ZR (tq Tryz.func38 Y3 (tq Tryz.func98 Jy (tq Tryz.func50 Us Zd))) Tryz.func100
theorem MR: Z9 Tryz.prog 111 ZF Y5 [] [] (fun(s:PS) (_:Lin×Int×Unit)=>Zb s) FC:=Af (f5o) ZR Zd Tryz.func111
theorem b5i: Z9 Tryz.prog 110 ZF Y5 [] [] (fun(s:PS) (_:Unit)=>Zb s) Ot:=Af (f3w) ZR (tq Tryz.func38 Y3 (tq Tryz.func34 WS (tq Tryz.func137 b2x (tq Tryz.func100 Vn (tq Tryz.func111 MR (tq Tryz.func112 TP (tq Tryz.func138 c7v Zd))))))) Tryz.func110
theorem Bc: Z9 Tryz.prog 79 ZF Y5 [] [] (fun(s:PS) (_:Unit)=>Zb s) c7l:=Af (e8n) ZR (tq Tryz.func35 YR (tq Tryz.func110 b5i (tq Tryz.func111 MR (tq Tryz.func112 TP (tq Tryz.func113 FR (tq Tryz.func114 F4 (tq Tryz.func105 Js Zd))))))) Tryz.func79
theorem a7i: Z9 Tryz.prog 36 (Pi 34) CX [] [] (fun(s:PS) (_:Unit)=>Zb s) (Xr PS.name):=Af (f0p) (GU _) (tq Tryz.func34 WS (tq Tryz.func35 YR Zd)) Tryz.func36
theorem TU: Z9 Tryz.prog 78 (Pi 79) CX [] [] (fun(s:PS) (_:Unit)=>Zb s) (Xr PS.linear):=Af (e8p) (GU _) (tq Tryz.func79 Bc (tq Tryz.func35 YR Zd)) Tryz.func78
theorem Gj: Z9 Tryz.prog 127 ZF Y5 [] [] (fun(s:PS) (_:Unit)=>Zb s) Ec:=Af (e8m) ZR (tq Tryz.func34 WS (tq Tryz.func35 YR Zd)) Tryz.func127
theorem NZ: Z9 Tryz.prog 69 ZF Y5 [] [] (fun(s:PS) (_:Unit)=>Zb s) Pw:=Af (f1c) ZR (tq Tryz.func38 Y3 (tq Tryz.func101 a0l Zd)) Tryz.func69
theorem OX: Z9 Tryz.prog 57 ZF Y5 [] [] (fun(s:PS) (_:Unit)=>Zb s) c8l:=Af (f4d) ZR (tq Tryz.func35 YR (tq Tryz.func38 Y3 (tq Tryz.func34 WS (tq Tryz.func37 Wv (tq Tryz.func33 VG (tq Tryz.func78 TU (tq Tryz.func80 L9 (tq Tryz.func50 Us Zd)))))))) Tryz.func57
theorem a2d: Z9 Tryz.prog 153 c6o CX [.box [.ptr 1 0]] [] (fun(s:PS) (_:Unit)=>Zb s) FW:=Af (e8k) c5e (tq Tryz.func100 Vn Zd) Tryz.func153
theorem a8o: Z9 Tryz.prog 152 (c7t 153) CX [] [.box [.ptr 0 0]] (fun(s:PS) (_:Unit)=>Zb s) (Xr PS.numM):=Af (f2l) (c4m _) (tq Tryz.func153 a2d (tq Tryz.func35 YR Zd)) Tryz.func152
theorem Ll: Z9 Tryz.prog 128 ZF Y5 [] [] (fun(s:PS) (_:Unit)=>Zb s) d0o:=Af (f0v) ZR (tq Tryz.func38 Y3 (tq Tryz.func33 VG (tq Tryz.func100 Vn (tq Tryz.func37 Wv (tq Tryz.func35 YR Zd))))) Tryz.func128
theorem c6g{N:Nat}(e:Z9 Tryz.prog 26 ZF Y5 [] [] (fun(s:PS) (_:Unit)=>Zb s&&decide (s.l.length - s.i<N)) (Hd N)):Z9 Tryz.prog 126 (Pi 26) CX [] [] (fun(s:PS) (_:Unit)=>Zb s&&decide (s.l.length - s.i<N)) (Xr (ZZ N)):=Af (f5s N) (GU _) (tq Tryz.func26 e (tq Tryz.func35 YR Zd)) Tryz.func126
theorem c9s{N:Nat}(e:Z9 Tryz.prog 126 (Pi 26) CX [] [] (fun(s:PS) (_:Unit)=>Zb s&&decide (s.l.length - s.i<N)) (Xr (ZZ N))):Z9 Tryz.prog 125 ZF Y5 [] [] (fun(s:PS) (_:Unit)=>Zb s&&decide (s.l.length - s.i<N+1)) (QI N):=Af ((d8f N)) ZR (tq Tryz.func38 Y3 (tq Tryz.func127 Gj (tq Tryz.func109 Kz (tq Tryz.func37 Wv (tq Tryz.func35 YR (tq Tryz.func78 TU (tq Tryz.func33 VG (tq Tryz.func100 Vn (tq Tryz.func152 a8o (tq Tryz.func126 e Zd)))))))))) Tryz.func125
theorem c6i{N:Nat}(e:Z9 Tryz.prog 26 ZF Y5 [] [] (fun(s:PS) (_:Unit)=>Zb s&&decide (s.l.length - s.i<N)) (Hd N))(g:Z9 Tryz.prog 126 (Pi 26) CX [] [] (fun(s:PS) (_:Unit)=>Zb s&&decide (s.l.length - s.i<N)) (Xr (ZZ N)))(hn:Z9 Tryz.prog 125 ZF Y5 [] [] (fun(s:PS) (_:Unit)=>Zb s&&decide (s.l.length - s.i<N+1)) (QI N)):Z9 Tryz.prog 102 ZF Y5 [] [] (fun(s:PS) (_:Unit)=>Zb s&&decide (s.l.length - s.i<N+1)) (MG N):=Af ((f3i N)) ZR (tq Tryz.func38 Y3 (tq Tryz.func100 Vn (tq Tryz.func125 hn (tq Tryz.func37 Wv (tq Tryz.func35 YR (tq Tryz.func26 e (tq Tryz.func33 VG (tq Tryz.func126 g (tq Tryz.func127 Gj (tq Tryz.func79 Bc (tq Tryz.func128 Ll (tq Tryz.func50 Us Zd)))))))))))) Tryz.func102
theorem c9v{N:Nat}(hu:Z9 Tryz.prog 68 ZF Y5 [] [] (fun(s:PS) (_:Unit)=>Zb s&&decide (s.l.length - s.i<N)) (unF N))(e:Z9 Tryz.prog 102 ZF Y5 [] [] (fun(s:PS) (_:Unit)=>Zb s&&decide (s.l.length - s.i<N+1)) (MG N)):Z9 Tryz.prog 68 ZF Y5 [] [] (fun(s:PS) (_:Unit)=>Zb s&&decide (s.l.length - s.i<N+1)) (unF (N+1)):=Af ((f0o N)) ZR (tq Tryz.func38 Y3 (tq Tryz.func37 Wv (tq Tryz.func100 Vn (tq Tryz.func101 a0l (tq Tryz.func68 hu (tq Tryz.func102 e Zd)))))) Tryz.func68
theorem N7{N:Nat}(e:Z9 Tryz.prog 68 ZF Y5 [] [] (fun(s:PS) (_:Unit)=>Zb s&&decide (s.l.length - s.i<N+1)) (unF (N+1))): ∀ m:Nat,Z9 Tryz.prog 67 mkB unI [.box [.ptr 2 0],.box [.fn 67 [] [.ptr 0 0,.ptr 1 0]]] [] (fun(s:PS) (a:Int×Unit)=>(Zb s&&decide (s.l.length - s.i<N+1))&&(decide (1<=a.1)&&(decide ((6 - (m:Int))<a.1)&&decide (a.1<=6)))) (VX (N+1))
 | 0=>Z9.none (fun s a=>by
   rw[Bool.eq_false_iff]
   intro h
   simp only[Bool.and_eq_true,decide_eq_true_eq]at h
   omega)
 | m+1=>by
  have g:=N7 e m
  rw[show(6 - ((m+1:Nat):Int))=6 - (m:Int) - 1 by omega]
  exact Af (f3r N (6 - (m:Int))) a5e (tq Tryz.func68 e (tq Tryz.func67 g (tq Tryz.func69 NZ Zd))) Tryz.func67
theorem c8c{N:Nat}(e:Z9 Tryz.prog 68 ZF Y5 [] [] (fun(s:PS) (_:Unit)=>Zb s&&decide (s.l.length - s.i<N+1)) (unF (N+1))):Z9 Tryz.prog 67 mkB unI [.box [.ptr 2 0],.box [.fn 67 [] [.ptr 0 0,.ptr 1 0]]] [] (fun(s:PS) (a:Int×Unit)=>(Zb s&&decide (s.l.length - s.i<N+1))&&(decide (1<=a.1)&&decide (a.1<=6))) (VX (N+1)):=Z9.weaken a5e (N7 e 6) (fun s a h=>by
  simp only[Bool.and_eq_true,decide_eq_true_eq]at h ⊢
  exact⟨h.1,h.2.1,by have:=h.2.1;show(6:Int) - 6<_;omega,h.2.2⟩) (fun _ _ _=>rfl)
theorem d0b{N:Nat}(hb:Z9 Tryz.prog 67 mkB unI [.box [.ptr 2 0],.box [.fn 67 [] [.ptr 0 0,.ptr 1 0]]] [] (fun(s:PS) (a:Int×Unit)=>(Zb s&&decide (s.l.length - s.i<N+1))&&(decide (1<=a.1)&&decide (a.1<=6))) (VX (N+1))):Z9 Tryz.prog 49 ZF Y5 [] [] (fun(s:PS) (_:Unit)=>Zb s&&decide (s.l.length - s.i<N+1)) (b5f (N+1)):=Af ((e7c N)) ZR (tq Tryz.func67 hb Zd) Tryz.func49
theorem c5x{N:Nat}(e:Z9 Tryz.prog 26 ZF Y5 [] [] (fun(s:PS) (_:Unit)=>Zb s&&decide (s.l.length - s.i<N)) (Hd N))(hb:Z9 Tryz.prog 49 ZF Y5 [] [] (fun(s:PS) (_:Unit)=>Zb s&&decide (s.l.length - s.i<N+1)) (b5f (N+1))):Z9 Tryz.prog 26 ZF Y5 [] [] (fun(s:PS) (_:Unit)=>Zb s&&decide (s.l.length - s.i<N+1)) (Hd (N+1)):=Af (f0w N) ZR (tq Tryz.func37 Wv (tq Tryz.func49 hb (tq Tryz.func38 Y3 (tq Tryz.func34 WS (tq Tryz.func33 VG (tq Tryz.func26 e Zd)))))) Tryz.func26
theorem c4y: ∀ N:Nat,Z9 Tryz.prog 26 ZF Y5 [] [] (fun(s:PS) (_:Unit)=>Zb s&&decide (s.l.length - s.i<N)) (Hd N)∧Z9 Tryz.prog 68 ZF Y5 [] [] (fun(s:PS) (_:Unit)=>Zb s&&decide (s.l.length - s.i<N)) (unF N)
 | 0=>⟨Z9.none (fun s a=>by simp),Z9.none (fun s a=>by simp)⟩
 | N+1=>by
  obtain⟨g,hu⟩:=c4y N
  have h:=c6g g
  have e:=c9v hu (c6i g h (c9s h))
  exact⟨c5x g (d0b (c8c e)),e⟩
theorem b3e:Z9 Tryz.prog 26 ZF Y5 [] [] (fun(s:PS) (_:Unit)=>Zb s) EI:=Z9.weaken ZR (c4y 4001).1 (fun s a h=>by
  have h0:=(Zm h).1
  rw[h]
  exact decide_eq_true (by omega)) (fun _ _ _=>rfl)
theorem b2g: Z9 Tryz.prog 56 ZF Y5 [] [] (fun(s:PS) (_:Unit)=>Zb s) AY:=Af (f3s) ZR (tq Tryz.func34 WS (tq Tryz.func35 YR (tq Tryz.func57 OX Zd))) Tryz.func56
theorem a7d: Z9 Tryz.prog 55 (Pi 56) CX [] [] (fun(s:PS) (_:Unit)=>Zb s) (Xr PS.param):=Af (f4o) (GU _) (tq Tryz.func56 b2g (tq Tryz.func35 YR Zd)) Tryz.func55
theorem c7g: Z9 Tryz.prog 27 ZF Y5 [] [] (fun(s:PS) (_:Unit)=>Zb s) Om:=Af (e9o) ZR (tq Tryz.func50 Us Zd) Tryz.func27
theorem h1t:Xn Tryz.prog 25 Ao EU:=FK (T:=c4e) (ic:=a2t) (rs:=a1e) (tq Tryz.func48 NG Zd) U2 Tryz.func25 (by kernel_rfl) (by kernel_rfl) (by kernel_rfl) f2w
theorem d0j: Z9 Tryz.prog 39 ZF Y5 [] [] (fun(s:PS) (_:Unit)=>Zb s&&ZI s.l) c9d:=Af (e9u) ZR (tq Tryz.func38 Y3 (tq Tryz.func33 VG (tq Tryz.func34 WS (tq Tryz.func37 Wv (tq Tryz.func55 a7d (tq Tryz.func35 YR (tq Tryz.func57 OX (tq Tryz.func26 b3e (tq Tryz.func28 DN Zd))))))))) Tryz.func39
theorem a7e:ZW Tryz.prog 18 (fun _:Str×Unit=>true) (fun x:Str×Unit=>YH x.1):=dq f3f (tq Tryz.func25 h1t (tq Tryz.func33 VG (tq Tryz.func34 WS (tq Tryz.func35 YR (tq Tryz.func36 a7i (tq Tryz.func37 Wv (tq Tryz.func38 Y3 (tq Tryz.func39 d0j (tq Tryz.func27 c7g Zd))))))))) Tryz.func18
theorem c8o:ZW Tryz.prog 29 (fun x:List Int×List Int×Unit=>decide (x.1.length<=1048576)) (fun x:List Int×List Int×Unit=>decide (x.1=x.2.1)):=dq f2c Zd Tryz.func29
theorem c8f:ZW Tryz.prog 30 (fun x:Lin×Lin×Unit=>decide (x.1.t.length<=1048576)) (fun x:Lin×Lin×Unit=>decide (x.1=x.2.1)):=dq f0g Zd Tryz.func30
theorem BJ:ZW Tryz.prog 13 (fun x:Tm×Tm×Unit=>tW x.1&&tW x.2.1) (fun x:Tm×Tm×Unit=>Lu x.1 x.2.1):=ZW.rec (fun a=>Uz a.1) fun N e=>dq (f0l N) (tq Tryz.func29 c8o (tq Tryz.func30 c8f (tq Tryz.func13 e Zd))) Tryz.func13
theorem a4r:ZW Tryz.prog 15 (fun x:Tm×Tm×Unit=>tW x.1&&tW x.2.1) (fun x:Tm×Tm×Unit=>exM x.1 x.2.1):=ZW.rec (fun a=>Uz a.1) fun N e=>dq (e7y N) (tq Tryz.func13 BJ (tq Tryz.func15 e Zd)) Tryz.func15
theorem NP:ZW Tryz.prog 145 (fun x:Lin×Lin×Unit=>Uh x.1) (fun x:Lin×Lin×Unit=>LJ x.1 x.2.1):=dq d2d Zd Tryz.func145
theorem a3s:ZW Tryz.prog 119 (fun x:Lin×Lin×Unit=>Uh x.1) (fun x:Lin×Lin×Unit=>LJ x.1 x.2.1==0):=dq e8c (tq Tryz.func145 NP Zd) Tryz.func119
noncomputable def ivC(f:Nat):Option (IC×Nat×List IRes):=c7r Tryz.prog f
theorem ET:ZW Tryz.prog 9 (fun _:Unit=>true) (fun _:Unit=>true):=ZW.iv (C:=ivC) (fun _ _ h=>h) (TB NG Tryz.func48 (by kernel_rfl) (TB Jy Tryz.func98 (by kernel_rfl) (TB Kz Tryz.func109 (by kernel_rfl) (TB a0l Tryz.func101 (by kernel_rfl) (TB FR Tryz.func113 (by kernel_rfl) (TB F4 Tryz.func114 (by kernel_rfl) (TB JU Tryz.func105 (by kernel_rfl) (TB DN Tryz.func28 (by kernel_rfl) Zd)))))))) U2 50 60 (fun _ _=>⟨.bool true,by kernel_rfl,rfl,rfl⟩)
theorem LW:ZW Tryz.prog 119 (fun x:Lin×Lin×Unit=>Uh x.1) (fun x:Lin×Lin×Unit=>decide (x.1=x.2.1)):=by
 have h:(fun x:Lin×Lin×Unit=>LJ x.1 x.2.1==0)=(fun x:Lin×Lin×Unit=>decide (x.1=x.2.1)):=funext fun x=>Cm.cmpL_dec x.1 x.2.1
 rw[<- h]
 exact a3s
theorem Nf:ZW Tryz.prog 88 (fun x:Sp×Sp×Unit=>spE x.1 x.2.1) (fun _:Sp×Sp×Unit=>true):=ZW.of (T:=M0) (ic:=Cz) (rs:=Ce) (Wj (ent Tryz.func119 (by kernel_rfl) LW) Zd) U2 Tryz.func88 (by kernel_rfl) (by kernel_rfl) (by kernel_rfl) f2x
theorem GR:ZW Tryz.prog 63 (fun x:TyS×TyS×Unit=>tyE x.1 x.2.1) (fun _:TyS×TyS×Unit=>true):=ZW.of (T:=d4m) (ic:=b7l) (rs:=b9a) (Wj (ent Tryz.func88 (by kernel_rfl) Nf) Zd) U2 Tryz.func63 (by kernel_rfl) (by kernel_rfl) (by kernel_rfl) e9c
theorem CK:ZW Tryz.prog 62 (fun x:Pm×Pm×Unit=>pmE x.1 x.2.1) (fun _:Pm×Pm×Unit=>true):=ZW.of (T:=e4f) (ic:=b6v) (rs:=b6k) (Wj (ent Tryz.func63 (by kernel_rfl) GR) Zd) U2 Tryz.func62 (by kernel_rfl) (by kernel_rfl) (by kernel_rfl) f5r
theorem SI:ZW Tryz.prog 47 (fun x:Df×Df×Unit=>dfE x.1 x.2.1) (fun _:Df×Df×Unit=>true):=ZW.of (T:=TQ) (ic:=GD) (rs:=H6) (Wj (ent Tryz.func62 (by kernel_rfl) CK) (Wj (ent Tryz.func63 (by kernel_rfl) GR) (Wj (ent Tryz.func15 (by kernel_rfl) a4r) Zd))) U2 Tryz.func47 (by kernel_rfl) (by kernel_rfl) (by kernel_rfl) f3p
theorem LM:ZW Tryz.prog 22 (fun x:Mdu×Mdu×Unit=>mdE x.1 x.2.1) (fun _:Mdu×Mdu×Unit=>true):=ZW.of (T:=U7) (ic:=Va) (rs:=Vd) (Wj (ent Tryz.func47 (by kernel_rfl) SI) Zd) U2 Tryz.func22 (by kernel_rfl) (by kernel_rfl) (by kernel_rfl) f2n
theorem BC:ZW Tryz.prog 8 (fun _:Str×Str×Unit=>true) (fun _:Str×Str×Unit=>true):=ZW.of (T:=Cx) (ic:=JE) (rs:=JA) (Wj (ent Tryz.func9 (by kernel_rfl) ET) (Wj (ent Tryz.func18 (by kernel_rfl) a7e) (Wj (ent Tryz.func13 (by kernel_rfl) BJ) (Wj (ent Tryz.func22 (by kernel_rfl) LM) Zd)))) U2 Tryz.func8 (by kernel_rfl) (by kernel_rfl) (by kernel_rfl) e3u
end Go.Proofs.YtgclceacfcdigaaGreatDoor
