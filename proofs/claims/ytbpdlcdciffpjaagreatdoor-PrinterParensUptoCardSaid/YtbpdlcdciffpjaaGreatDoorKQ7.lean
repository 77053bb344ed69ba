/-
  Lemmas for the law PrinterParens, for every input.
-/
import Derived.Test.YtbpdlcdciffpjaaGreatDoorChecked
import Derived.Test.YtbpdlcdciffpjaaGreatDoorRows
import Derived.Test.YtbpdlcdciffpjaaGreatDoorKQ2
import Derived.Test.YtbpdlcdciffpjaaGreatDoorKQ3
import Derived.Test.YtbpdlcdciffpjaaGreatDoorKQ4
import Derived.Test.YtbpdlcdciffpjaaGreatDoorKQ5
import Derived.Test.YtbpdlcdciffpjaaGreatDoorKQ6
import Derived.Below
import Derived.ChangeSame
import Derived.Stop.LaidErr
import Derived.Lib.LaidTab
import Derived.Shelf.Vars
import Derived.KernelRfl
import Derived.Shelf.Strings.Cut
import Derived.Shelf.Strings.OnBuilder
import Derived.Shelf.Strings.Trim
import Derived.Shelf.Small.Wraps
import Derived.Shelf.LaysM
import Derived.Shelf.Strconv.Itoa3
import Derived.Shelf.Strconv.AtoiAll
import Derived.Shelf.Strings.Prefix
import Derived.Shelf.Sort.Plain
import Derived.Shelf.Small.Strs
import Derived.Shelf.Slices.In.SortNone
import Derived.Shelf.SlIter.Sorted
import Derived.Shelf.SlIter.Keys
import Derived.Ground.GgzProg
import Derived.WalkKit
import Derived.Deep.LoopGhost
import Derived.Lib.Walk
import Derived.Lib.SliceRun
open Go.Pl renaming ck_->iA
open Bool renaming and_eq_true->Ib
open Go.DataW renaming trod->Ih,TrodAll->IY
open Go.Lib renaming run_eql_slice_nil->Il,index->Iq,join->IA,formatBool->IV,TabIs->IW,atoiAll->I5,atoiSat->I6
open Go.Proofs.Any renaming strconv_Atoi_syntax->Iy,strconv_Atoi_range->Iz,strconv_Atoi_ok->IE
open Go.Proofs.Lays renaming n145->aH,n156->aI,n121->aJ,n102->aK,n190->aL,n99->aM
open Go.Shelf renaming Ren->Ic
open Go.Value renaming okWide->Iu,cells->II
open Go.World renaming var?->IP,holding->IZ
open List renaming getElem?_eq_getElem->Cm,map_cons->Ia,getElem?_eq_some_iff->Ig,length_cons->Ik,length_map->Im,getElem_of_mem->Ip,getElem?_map->Ir,getElem_mem->IJ,all_eq_true->IK,intercalate->IL,headD_cons->IR,sum_cons->I1,range->I8
open Nat renaming le_refl->Ie,zero_le->I4
open Option renaming bind_eq_some_iff->Ii,map_eq_some_iff->Ij,bind_some->Iw
open Go.Proofs.Tryz
set_option linter.unusedVariables false
set_option linter.unusedSimpArgs false
set_option linter.defProp false
namespace Go.Proofs.YtbpdlcdciffpjaaGreatDoor
open Go.RowKit Go.WideShapes Go.ChangeShapes
section
section
variable {H:Type} {enc:TypeId×Value->H} {P:Program}
def a5t{f:Func}{s:ChangeSpec}{apart fresh h u:Bool}{W W':World}{args:Array Value}{v:Value}{ds y:List (DataW H)}{a pa pv:List MemPlace}
  (B:DataW.Whole enc P f.params.toList s.vars apart W args.toList ds y a)
  (l : ∀ (b:Nat) (q:Nat->Bool) (hd:Bool),IY enc P W' b q hd f.resultTypes.toList (v.resultList f.resultTypes.size) (s.fn H (ds++y)).results [])
  (g : ∀ q:Nat->Bool,(∀ p∈a,q p.block)->IY enc P W' 0 q true f.params.toList args.toList (s.fn H (ds++y)).args pa)
  (i : ∀ q:Nat->Bool,(∀ p∈a,q p.block)->DataW.TrodVars enc P W' q s.vars (s.fn H (ds++y)).vars pv)
  (hps:a=pa++pv) (hb:Below W.heap.size W W')
  (C : ∀ (j:Nat) (t:TypeId) (r:Value),f.resultTypes[j]? = some t->(v.resultList f.resultTypes.size)[j]? = some r->Iu P W' .any 0 t r) :
  s.post enc P f apart fresh h u W args v W':=by
 have z : ∀ p∈a,p.block<W.heap.size:=λp e=>B.lt p e
 have k : ∀ p∈a,(λb=>decide (b<W.heap.size)) p.block:=λp e=>by simpa using z p e
 refine⟨ds,y,a,[],pa,pv,B,l _ _ _,g _ k,i _ k,World.keptBut_mono (λp e=>⟨e,?_⟩) (hb.frame (· ∈ a)),λ_=> ?_⟩
 ·rw[hps,List.mem_append]at e;exact Or.inr e
 ·obtain⟨_,_,_,_,_,D,hn⟩:=B;refine⟨C,_,_,([]++pa)++pv,⟨[]++pa,pv,trodAll_append (g _ (λ_ _=>rfl)) (l _ _ _),i _ (λ_ _=>rfl),rfl,?_,?_⟩,?_⟩
  ·intro b off e;have A:MemPlace.cell b off∈a:=by rw[hps];simpa using e
   rw[hb.frozen (z _ A)];exact D b off A
  ·intro ha
   have:=hn ha;rw[hps]at this;simpa using this
  ·intro p e _;rw[hps];simpa using e
end
end
end Go.Proofs.YtbpdlcdciffpjaaGreatDoor
namespace Go.Proofs.YtbpdlcdciffpjaaGreatDoor
open Go.Pl Go.RowKit Go.ChangeShapes
set_option maxRecDepth 100000
def e0a{P:Program}{W:World}{n:String}{g:Nat}{cs:Array Value}(a:P.globalNamed n=some g)(h:W.var? P n=some cs):Em W g=some cs:=by unfold IP at h;rw[a]at h;simp only[Iw]at h;unfold Em;exact h
def h8o:Tryz.prog.globalNamed "internal/strconv.uint64pow10" = some 0:=by kernel_rfl
def j3b:Tryz.prog.globalNamed "strconv.ErrRange" = some 3:=by kernel_rfl
def i9y:Tryz.prog.globalNamed "strconv.ErrSyntax" = some 2:=by kernel_rfl
def e4w:Tryz.prog.underlying 124=some (.interface ((match Tryz.prog.underlying 124 with|some (.interface ms)=>ms|_=>#[]))):=by kernel_rfl
def i8p{W:World}{r:List (String×DataW Unit)}(h:laidMet prog (("internal/strconv.uint64pow10",Rows.laid_internal_strconv_uint64pow10)::r) W):Em W 0=some a1j:=by
 have h1:IW prog W "internal/strconv.uint64pow10" .u64 ((I8 20).map λi=>((10 ^ i:Nat):Int)):=Lib.tabIs_of_head (e:=147) (t:=186) h8o (by kernel_rfl) (n:=20) (by kernel_rfl) (by kernel_rfl) (by kernel_rfl) (by kernel_rfl) h
 exact(e0a h8o h1).trans rfl
def f8b{W:World}{n:String}{g:Nat}{text:List UInt8}{r:List (String×DataW Unit)}(hg:Tryz.prog.globalNamed n=some g)(ht:(Tryz.prog.globals[g]?).map (·.type)=some 124)(h:laidMet prog ((n,.iface "*errors.errorString" (.ptr (.agg [.lit (.string text)])))::r) W): ∃ cs,Em W g=some cs∧a3f cs:=by obtain⟨ps,⟨g0,t0,cs0,f0,p0,q0,hg0,ht0,hv0,hd0,_,e0⟩,_,hrows⟩:=h;obtain rfl:=Option.some.inj (hg.symm.trans hg0);obtain rfl:=Option.some.inj (ht.symm.trans ht0);subst e0;refine⟨cs0,e0a hg hv0,?_⟩;obtain⟨f1,u,v,e,_⟩:=iface_of_trod e4w hd0;obtain⟨l0⟩:=cs0;have e:l0=[.iface u v]:=e;subst e;exact⟨_,rfl,.inr ⟨u,v,rfl⟩⟩
def j2v{W:World}(h:W.ShapedOpen prog): ∃ cs m,Em W 1=some cs∧cs[0]? = some (Value.int .i64 m):=by
 obtain⟨m,hm⟩:=cell_of_shapedOpen_int (g:=1) (t:=3) (zero:=#[.int .i64 0]) (k:=.i64) h (fZ (by kernel_rfl)) (by kernel_rfl) rfl (by kernel_rfl) (by kernel_rfl) (by kernel_rfl);unfold World.cell? at hm;unfold Em;split at hm
 ·rename_i cs T fz a;exact⟨cs,m,by simp only[a],by simpa using hm⟩
 ·cases hm
def g7x{W:World}{x y:String×DataW Unit}{r:List (String×DataW Unit)}(h:laidMet prog (x::y::("internal/strconv.uint64pow10",Rows.laid_internal_strconv_uint64pow10)::("strconv.ErrRange",Rows.laid_strconv_ErrRange)::("strconv.ErrSyntax",Rows.laid_strconv_ErrSyntax)::r) W)(hs:W.ShapedOpen prog):GlobOK (Em W):=⟨f8b i9y (by kernel_rfl) h.tail.tail.tail.tail,f8b j3b (by kernel_rfl) h.tail.tail.tail,i8p h.tail.tail,j2v hs⟩
noncomputable def j6n:DataW Unit->Value
 | .lit (.int k n)=>.int k n
 | _=>.int .i64 0
noncomputable def d0y:DataW Unit->Array Value
 | .agg ds=>(ds.map j6n).toArray
 | _=>#[]
noncomputable def f6p:DataW Unit->ByteArray
 | .iface _ (.ptr (.agg [.lit (.string bs)]))=>⟨bs.toArray⟩
 | _=>⟨#[]⟩
noncomputable def low:Nat:=(IZ prog default ⟨#[],#[],[]⟩).heap.size
noncomputable def f4m(cs:Array Value):Obj->Obj
 | .cells _ t frozen=>.cells cs t frozen
 | o=>o
noncomputable def MP(os:Os):World:=
 let w0:=IZ prog os ⟨#[.cells #[.string (f6p Rows.laid_strconv_ErrRange)] 215,.cells #[.string (f6p Rows.laid_strconv_ErrSyntax)] 215],#[],[]⟩
 {w0 with heap:=((((w0.heap.modify 3 (f4m #[.iface 213 (.pointer (some ⟨low,0,none⟩))])).modify 2 (f4m #[.iface 213 (.pointer (some ⟨low+1,0,none⟩))])).modify 0 (f4m (d0y Rows.laid_internal_strconv_uint64pow10))).modify 4 (f4m (d0y Rows.laid_math_bits_deBruijn32tab))).modify 5 (f4m (d0y Rows.laid_math_bits_deBruijn64tab))}
end Go.Proofs.YtbpdlcdciffpjaaGreatDoor
namespace Go.Pl
open Go.RowKit Go.WideShapes Go.ChangeShapes
section
abbrev uB{H:Type}(d:DataW H):Nat:=Go.Proofs.YtbpdlcdciffpjaaGreatDoor.Rows.uptoBulk d
abbrev uBs{H:Type}(l:List (DataW H)):Nat:=Go.Proofs.YtbpdlcdciffpjaaGreatDoor.Rows.uptoBulkAll l
def a1q{H:Type}(d:DataW H)(l:List (DataW H)):uBs (d::l)=uB d+uBs l:=by unfold uBs uB;rw[Go.Proofs.YtbpdlcdciffpjaaGreatDoor.Rows.uptoBulkAll]
def c7q{H:Type}(d:DataW H):1<=uB d:=by
 cases d with
 | lit l=>cases l <;> simp[uB,Go.Proofs.YtbpdlcdciffpjaaGreatDoor.Rows.uptoBulk]
 | _=>simp[uB,Go.Proofs.YtbpdlcdciffpjaaGreatDoor.Rows.uptoBulk]
mutual
def pvW:PV->Nat
 | .str s=>s.length+1
 | .sl _ _ xs=>Wz xs+1
 | .agg xs=>Wz xs
 | _=>1
def Wz:List PV->Nat
 | []=>0
 | p::ps=>pvW p+Wz ps
end
def f2z(a b:List PV):Wz (a++b)=Wz a+Wz b:=by
 induction a with
 | nil=>simp[Wz]
 | cons x a ih=>rw[List.cons_append,Wz,ih,Wz];omega
def j0u{P:Program}{e:TypeId}{q:List PV}(a:WG P e∨P.cellsOf e=1)(b:q.length=P.cellsOf e):pvW (AU P e q)<=Wz q:=by
 cases ha:WG P e with
 | true=>simp only[AU,ha];rw[pvW];exact Ie _
 | false=>
  have h1:P.cellsOf e=1:=by simpa [ha]using a
  rw[h1]at b
  match q,b with
  | [x],_=>simp only[AU,ha,IR];rw[Wz,Wz];exact Ie _
def e1a{H:Type}{f:List PV->PV}: ∀ {qs:List (List PV)} {xs:List (DataW H×List MemPlace)},qs.length=xs.length->(∀ (i:Nat) (q:List PV) (x:DataW H×List MemPlace),qs[i]? = some q->xs[i]? = some x->pvW (f q)<=uB x.1)->Wz (qs.map f)<=uBs (xs.map (·.1))
 | [],[],_,_=>by simp[Wz]
 | q::qs,x::xs,hl,h=>by
  have h0:=h 0 q x rfl rfl;have h1:=e1a (qs:=qs) (xs:=xs) (by simpa using hl) λi q x b a=>h (i+1) q x (by simpa using b) (by simpa using a)
  rw[Ia,Wz,Ia,a1q];omega
 | [],_::_,hl,_=>by cases hl
 | _::_,[],hl,_=>by cases hl
def g5i(P:Program)(S:List TypeId):Bool:=S.all λt=>match P.underlying t with|some (.array _ _)=>false|_=>true
section
variable {H:Type} {enc:TypeId×Value->H} {P:Program} {w:World} {base:Nat} {sp:Nat->Bool} {held:Bool} {S:List TypeId}
def b3t{n:Nat}{cs:List Value}(q : ∀ (t:TypeId) (cs:List Value) (x:DataW H×List MemPlace),t∈S->Ih enc P w base sp held n t cs=some x-> ∃ ps,Cl w cs ps∧Qn P n t ps∧Wz ps<=uB x.1):
  ∀ (b:List Field) (o N:Nat) (xs:List (DataW H×List MemPlace)),CP P o b N->(∀ f∈b,f.type∈S)->cs.length=N->o<=N ->
   b.mapM (λf=>Ih enc P w base sp held n f.type ((cs.drop f.offset).take (P.cellsOf f.type)))=some xs ->
   ∃ ps,Cl w (cs.drop o) ps∧Wz ps<=uBs (xs.map (·.1))∧ ∀ qs:List PV,qs.length=o->(∀ f∈b,Qn P n f.type (((qs++ps).drop f.offset).take (P.cellsOf f.type))):=by
 intro b
 induction b with
 | nil=>intro o N xs hc _ y ho _;simp[CP]at hc;refine⟨[],?_,by simp[Wz],λqs _ f A=>by simp at A⟩;rw[List.drop_of_length_le (by omega)];exact Cl.nil
 | cons f b ihf=>
  intro o N xs hc hm y ho h;simp only[CP,Ib,gm]at hc;obtain⟨i,hc⟩:=hc;simp only[List.mapM_cons,Option.bind_eq_bind,Ii]at h;obtain⟨x,B,l,s,e⟩:=h;cases e;obtain⟨r,k1,D,w1⟩:=q _ _ x (hm f List.mem_cons_self) B;have u:o+P.cellsOf f.type<=N:=by
   have : ∀ (b:List Field) (a:Nat),CP P a b N->a<=N:=by
    intro b
    induction b with
    | nil=>intro a h;simp[CP]at h;omega
    | cons g b q=>intro a h;simp only[CP,Ib]at h;have:=q _ h.2;omega
   exact this _ _ hc
  obtain⟨E,k3,w2,C⟩:=ihf (o+P.cellsOf f.type) N l hc (λg k=>hm g (List.mem_cons_of_mem _ k)) y u s;have j:r.length=P.cellsOf f.type:=by rw[<- k1.1.1,List.length_take,List.length_drop,i];omega
  refine⟨r++E,?_,by rw[f2z,Ia,a1q];omega,λqs z g k=> ?_⟩
  ·have:=k1.append k3;rw[i]at this;have e:cs.drop o=(cs.drop o).take (P.cellsOf f.type)++cs.drop (o+P.cellsOf f.type):=by rw[<- List.drop_drop,List.take_append_drop]
   rw[e];exact this
  ·rcases List.mem_cons.1 k with rfl|k
   ·rw[i,<- z,List.drop_left,<- j,List.take_left];exact D
   ·have:=C (qs++r) (by simp[z,j]) g k
    rwa [List.append_assoc]at this
def c0v{n:Nat}{e:TypeId}{a:Addr}{len cap:Nat}{xs:List (DataW H×List MemPlace)}(C:0<P.cellsOf e)(F:WG P e∨P.cellsOf e=1)(E:len<=cap)(hmax:cap<=maxLen)
  (ih : ∀ (cs:List Value) (x:DataW H×List MemPlace),Ih enc P w base sp held n e cs=some x-> ∃ ps,Cl w cs ps∧Qn P n e ps∧Wz ps<=uB x.1)
  (h:(I8 len).mapM (λi=>(w.cells? base (a.add (i*P.cellsOf e)) (P.cellsOf e)).bind (Ih enc P w base sp held n e))=some xs) :
  ∃ qs:List (List PV),RP (Em w) (.slice (some a) len cap) (.sl (P.cellsOf e) false (qs.map (AU P e)))∧qs.length<=maxLen∧(∀ q∈qs,q.length=P.cellsOf e∧Qn P n e q)∧Wz (qs.map (AU P e))<=uBs (xs.map (·.1)):=by
 obtain⟨Q,hg⟩:=c4i h;rw[List.length_range]at Q;have O : ∀ i,i<len-> ∃ q:List PV,(q.length=P.cellsOf e∧Qn P n e q∧ ∃ x,xs[i]? = some x∧Wz q<=uB x.1)∧ ∀ (r:Nat) p,q[r]? = some p-> ∃ v,w.cell? (a.add (i*P.cellsOf e+r))=some v∧v.oneCell'∧RP (Em w) v p:=by
  intro i hi;have B:=Cm (show i<xs.length by omega)
  have:=hg i i _ (by simp[hi]) B;rw[Ii]at this;obtain⟨cs,h1,h2⟩:=this;obtain⟨q,k1,Z,k3⟩:=ih cs _ h2;obtain⟨W,Y⟩:=e4z h1;refine⟨q,⟨by rw[<- k1.1.1,W],Z,_,B,k3⟩,λr p l=> ?_⟩;have hr:r<cs.length:=by rw[k1.1.1];exact(Ig.1 l).1
  have u:=Cm hr;refine⟨_,?_,k1.2 _ (IJ hr),k1.1.2 r _ p u l⟩;rw[<- e7d];exact Y r _ u
 obtain⟨qs,s,k⟩:=c4x len O;have g : ∀ q∈qs,(AU P e q).cells=q:=by
  intro q A;obtain⟨i,hi,rfl⟩:=Ip A
  have:=(k i _ (Cm hi)).1;exact e8h F this.1 λha=>f6i this.2.1 ha
 refine⟨qs,?_,by omega,λq A=> ?_,?_⟩
 ·by_cases h0:len=0
  ·subst h0;have:qs=[]:=List.length_eq_zero_iff.1 s;subst this;exact .sl0 _ _ _ _ λe=>by cases e
  ·obtain⟨b,off,cs,rfl,hb,-⟩ : ∃ b off cs,a=⟨b,off,none⟩∧Em w b=some cs∧True:=by have L:=Cm (show 0<qs.length by omega);obtain⟨⟨f1,f2,-⟩,f3⟩:=k 0 _ L;have l:=Cm (show 0<(qs[0]'(by omega)).length by omega);obtain⟨v,u,_⟩:=f3 0 _ l;simp[Addr.add]at u;obtain⟨b,off,cs,M,K,_⟩:=a6t u;exact⟨b,off,cs,M,K,trivial⟩
   have hs : ∀ x∈qs.map (AU P e),x.cells.length=P.cellsOf e:=by intro x B;obtain⟨q,A,rfl⟩:=List.mem_map.1 B;rw[g q A];obtain⟨i,hi,rfl⟩:=Ip A;exact(k i _ (Cm hi)).1.1
   have I : ∀ (j:Nat) p,(flat (qs.map (AU P e)))[j]? = some p-> ∃ v,cs[off+j]? = some v∧v.oneCell'∧RP (Em w) v p:=by
    intro j p l;have X:j<len*P.cellsOf e:=by have:=(Ig.1 l).1;rw[Uc hs]at this;simpa [s]using this
    have hi:j / P.cellsOf e<qs.length:=by rw[s];exact(Nat.div_lt_iff_lt_mul C).2 X
    have hr:j % P.cellsOf e<P.cellsOf e:=Nat.mod_lt _ C;have J:=Cm hi;have U:j=j / P.cellsOf e*P.cellsOf e+j % P.cellsOf e:=by rw[Nat.mul_comm];exact(Nat.div_add_mod _ _).symm
    have N:(qs.map (AU P e))[j / P.cellsOf e]? = some (AU P e qs[j / P.cellsOf e]):=by rw[Ir,J];rfl
    have D:=c0p hs N hr;rw[<- U,g _ (IJ hi)]at D;rw[D]at l;obtain⟨v,u,h1,h2⟩:=(k _ _ J).2 _ p l;rw[<- U,VB]at u;obtain⟨b',off',cs',M,K,V⟩:=a6t u;cases M;rw[hb]at K;cases K;exact⟨v,V,h1,h2⟩
   have z:len=(qs.map (AU P e)).length:=by simp[s]
   rw[z];refine .sl b off cs cap _ false _ (λj=>(cs[off+j]?).getD default) hb (by rw[<- z];exact E) (λe=>by cases e) hs (λj p l=> ?_) (λj p l=> ?_)
   ·obtain⟨v,h1,h2,h3⟩:=I j p l;rw[h1];exact⟨rfl,h2⟩
   ·obtain⟨v,h1,h2,h3⟩:=I j p l;rw[h1];exact h3
 ·obtain⟨i,hi,rfl⟩:=Ip A
  have:=(k i _ (Cm hi)).1;exact⟨this.1,this.2.1⟩
 ·refine e1a (by rw[s,Q]) λi q x A B=> ?_
  have:=(k i q A).1;obtain⟨y,T,hw⟩:=this.2.2;rw[B]at T;cases T;have hm:=j0u (P:=P) (e:=e) (q:=q) F this.1;omega
def c6r(u:b3n P S)(r:g5i P S): ∀ (n:Nat) (t:TypeId) (cs:List Value) (x:DataW H×List MemPlace),t∈S->Ih enc P w base sp held n t cs=some x-> ∃ ps,Cl w cs ps∧Qn P n t ps∧Wz ps<=uB x.1:=by
  intro n
  induction n with
  | zero=>intro t cs x _ h;simp[Ih]at h
  | succ n ih=>
    intro t cs x ht h;have b:=a7l u ht;have g:=IK.1 r t ht;unfold Ih at h;unfold Qn;split at h <;> (try rename_i hu) <;> (try simp only[hu]at b g ⊢) <;> try (cases b;done)
    all_goals first
      | (exact⟨_,Cl.one (.bool _) rfl,⟨_,rfl⟩,c7q _⟩)
      | (split at h
         · rename_i hc
           obtain⟨rfl,s⟩:=hc;exact⟨_,Cl.one (.int _ _) rfl,⟨_,rfl,s⟩,c7q _⟩
         · cases h)
      | (split at h
         · rename_i hc
           cases h;refine⟨_,Cl.one (.str _) rfl,⟨_,rfl,hc⟩,?_⟩;show Wz [PV.str _]<=Go.Proofs.YtbpdlcdciffpjaaGreatDoor.Rows.uptoBulk (DataW.lit (.string _));rw[Go.Proofs.YtbpdlcdciffpjaaGreatDoor.Rows.uptoBulk,Wz,Wz,pvW];omega
         · cases h)
      | (cases h;done)
      | (cases g;done)
      | skip
    · exact⟨_,Cl.one (.sl0 _ _ _ false (λe=>by cases e)) rfl,⟨[],rfl,by simp,λq z=>by simp at z⟩,c7q _⟩
    · rename_i e a len cap
      simp only[Ib,Bool.or_eq_true,gm,fu]at b;simp only at h;split at h
      · rename_i hc
        obtain⟨xs,h1,h3⟩:=Ii.1 h;obtain⟨ys,h4,rfl⟩:=Ij.1 h3;obtain⟨qs,k1,j,k3,k⟩:=c0v b.1.2 b.2 hc.2.1 hc.2.2 (λcs x y=>ih e cs x (by simpa using b.1.1.2) y) h1;refine⟨_,Cl.one k1 rfl,⟨qs,rfl,j,k3⟩,?_⟩;show Wz [PV.sl _ false (qs.map (AU P e))]<=Go.Proofs.YtbpdlcdciffpjaaGreatDoor.Rows.uptoBulk (DataW.slice (xs.map (·.1)) (ys.map (·.1)));rw[Go.Proofs.YtbpdlcdciffpjaaGreatDoor.Rows.uptoBulk,Wz,Wz,pvW];have:Wz (qs.map (AU P e))<=Go.Proofs.YtbpdlcdciffpjaaGreatDoor.Rows.uptoBulkAll (xs.map (·.1)):=k;omega
      · cases h
    · rename_i cs2 l
      simp only[Ib]at b;split at h
      · rename_i hc
        rw[Ij]at h;obtain⟨xs,h1,rfl⟩:=h;obtain⟨ps,k1,k3,j⟩:=b3t ih l.toList 0 (P.cellsOf t) xs b.1 (λf i=>by simpa using IK.1 b.2 f i) hc (I4 _) h1;rw[List.drop_zero]at k1;refine⟨ps,k1,⟨by rw[<- k1.1.1,hc],λf i=>by simpa using j [] rfl f i⟩,?_⟩;show Wz ps<=Go.Proofs.YtbpdlcdciffpjaaGreatDoor.Rows.uptoBulk (DataW.agg (xs.map (·.1)));rw[Go.Proofs.YtbpdlcdciffpjaaGreatDoor.Rows.uptoBulk];have:Wz ps<=Go.Proofs.YtbpdlcdciffpjaaGreatDoor.Rows.uptoBulkAll (xs.map (·.1)):=k3;omega
      · cases h
def e7m(s:b3n P S)(B:g5i P S){t:TypeId}(ht:t∈S){r:Reach}{z:Nat}{v:Value}{d:DataW H}{p:List MemPlace}(e:Iu P w r z t v)(h:DataW.Trod enc P w base sp held t v d p):
  ∃ n q,RP (Em w) v (AU P t q)∧Qn P n t q∧Wz q<=uB d:=by
 obtain⟨n,h⟩:=h;obtain⟨q,k1,C,k3⟩:=c6r s B n t _ _ ht h;refine⟨n,q,?_,C,k3⟩;have k:=a7l s ht;have g:v.cells = #[v]->WG P t=false->RP (Em w) v (AU P t q):=by
  intro hc ha;rw[hc]at k1;have u:=k1.1.1
  match q,u with
  | [x],_=>simp only[AU,ha,IR];exact k1.1.2 0 v x rfl rfl
 have agg : ∀ cs,v = .agg cs->WG P t->RP (Em w) v (AU P t q):=by rintro cs rfl ha;simp only[AU,ha];exact .agg cs q (by have:=k1.1.1;simpa [II]using this) (λx i=>k1.2 x (by simpa [II]using i)) λj x y i A=>k1.1.2 j x y (by simpa [II]using i) A
 split at k
 ·rename_i hu;obtain⟨b,rfl⟩:=okWide_bool hu e;exact g rfl (by simp[WG,hu])
 ·rename_i hu;obtain⟨b,rfl⟩:=okWide_int hu e;exact g rfl (by simp[WG,hu])
 ·rename_i hu;obtain⟨b,rfl⟩:=okWide_string hu e;exact g rfl (by simp[WG,hu])
 ·rename_i hu;obtain⟨a,l,c,rfl⟩:=okWide_slice hu e;exact g rfl (by simp[WG,hu])
 ·rename_i hu;simp only[Iu,hu]at e;obtain⟨cs,rfl,_⟩:=e;exact agg cs rfl (by simp[WG,hu])
 ·rename_i hu;simp only[Iu,hu]at e;obtain⟨cs,rfl,_⟩:=e;exact agg cs rfl (by simp[WG,hu])
 ·cases k
end
end
open Enc (enc dec is)
open EncL (encL decL isL)
def c7w(l:List Int):Wz (l.map enc)=l.length:=by
 induction l with
 | nil=>rfl
 | cons a l ih=>rw[Ia,Wz,ih,Ik];show 1+_=_;omega
def g8n(l:List Coef):Wz (l.map enc)=(l.map wCf).sum:=by
 induction l with
 | nil=>rfl
 | cons a l ih=>rw[Ia,Wz,ih,Ia,I1];rfl
def i0v(l:List Lin):Wz (l.map enc)=(l.map TJ).sum:=by
 induction l with
 | nil=>rfl
 | cons a l ih=>rw[Ia,Wz,ih,Ia,I1];congr 1;show pvW (.agg [.int .i64 a.k,.sl 2 false (a.t.map enc)])=_;simp only[pvW,Wz,g8n];unfold TJ;omega
mutual
def h9a: ∀ t:Tm,QV t<=pvW (tmP t)
 | .mk n ks=>by have h:=g2g ks;have h1:=c7w n.dims;have h2:=c7w n.data;have h3:=c7w n.ranks;have a:=i0v n.sizes;rw[tmP,QV];show wNd n+Q8 ks<=pvW (.agg [.int .i64 n.kind,.int .i64 n.line,.str n.name.s,.int .i64 n.num,.str n.elem.s,.sl 1 false (n.dims.map enc),.sl 1 false (n.data.map enc),.sl 2 false (n.sizes.map enc),.sl 1 false (n.ranks.map enc),.sl 10 false (Rl ks)]);simp only[pvW,Wz,h1,h2,h3,a];unfold wNd;omega
def g2g: ∀ ks:List Tm,Q8 ks<=Wz (Rl ks)
 | []=>by simp[Q8,Rl,Wz]
 | k::ks=>by have h1:=h9a k;have h2:=g2g ks;rw[Q8,Rl,Wz];omega
end
end Go.Pl
namespace Go.Proofs.YtbpdlcdciffpjaaGreatDoor
open Go.Pl
set_option maxRecDepth 100000
open Enc (enc dec is)
open EncL (encL decL isL)
def Sj:Tryz.prog.underlying 3=some (.int .i64):=by kernel_rfl
def b4d:Tryz.prog.underlying 9=some .string:=by kernel_rfl
def g4c:Tryz.prog.underlying 22=some (.slice 3):=by kernel_rfl
def f8e:Tryz.prog.underlying 45=some (.slice 79):=by kernel_rfl
def g0x:Tryz.prog.underlying 25=some (.slice 47):=by kernel_rfl
def e8z:Tryz.prog.underlying 26=some (.slice 28):=by kernel_rfl
def Ep:Tryz.prog.cellsOf 3=1:=by kernel_rfl
def b4z:Tryz.prog.cellsOf 9=1:=by kernel_rfl
def b8b:Tryz.prog.cellsOf 22=1:=by kernel_rfl
def g2f:Tryz.prog.cellsOf 45=1:=by kernel_rfl
def f9p:Tryz.prog.cellsOf 25=1:=by kernel_rfl
def f9y:Tryz.prog.cellsOf 26=1:=by kernel_rfl
def b9d:Tryz.prog.cellsOf 79=2:=by kernel_rfl
def c3y:Tryz.prog.cellsOf 47=2:=by kernel_rfl
def c2n:Tryz.prog.cellsOf 24=3:=by kernel_rfl
def b8l:Tryz.prog.cellsOf 28=10:=by kernel_rfl
def i2p:WG prog 79:=by kernel_rfl
def i1j:WG prog 47:=by kernel_rfl
def f3s:WG prog 28:=by kernel_rfl
def f6e:SB prog 79=some [(0,9),(1,3)]:=by kernel_rfl
def e9v:SB prog 47=some [(0,3),(1,45)]:=by kernel_rfl
def f5q:SB prog 24=some [(0,9),(1,22),(2,22)]:=by kernel_rfl
def f0h:SB prog 28=some [(0,3),(1,3),(2,9),(3,3),(4,24),(7,25),(8,22),(9,26)]:=by kernel_rfl
def Ee{α:Type}[Enc α]{f:List PV->PV}: ∀ {qs:List (List PV)},(∀ q∈qs,∃ a:α,f q=enc a)-> ∃ l:List α,qs.map f=l.map enc
 | [],_=>⟨[],rfl⟩
 | q::qs,h=>by
  obtain⟨a,e⟩:=h q (by simp);obtain⟨l,b⟩:=Ee (qs:=qs) λx g=>h x (by simp[g])
  exact⟨a::l,by rw[Ia,Ia,e,b]⟩
def h2f{n:Nat}{q:List PV}(h:Qn prog n 79 q): ∃ t:Coef,AU prog 79 q=enc t:=by
 obtain⟨m,_,j,e,h1,_⟩:=Gc f6e b9d h
 match q,j with
 | [a,b],_=>rw[b4z]at e;rw[Ep]at h1;obtain⟨s,i,_⟩:=a0b b4d e;obtain⟨k,g,_⟩:=De Sj h1;simp at i g;subst i g;exact⟨⟨⟨s⟩,k⟩,by rw[AU,i2p];rfl⟩
def b0x{n:Nat}{q:List PV}(h:Qn prog n 22 q): ∃ l:List Int,q=[enc l]:=by obtain⟨a,e,_⟩:=e7b g4c Sj Ep h;exact⟨a,e⟩
def g6j{n:Nat}{q:List PV}(h:Qn prog n 47 q): ∃ l:Lin,AU prog 47 q=enc l:=by
 obtain⟨m,_,j,e,h1,_⟩:=Gc e9v c3y h
 match q,j with
 | [a,b],_=>
  rw[Ep]at e;rw[g2f]at h1;obtain⟨k,i,_⟩:=De Sj e;obtain⟨m',_,qs,g,_,u⟩:=Bh f8e b9d h1;obtain⟨l,r⟩:=Ee (α:=Coef) (f:=AU prog 79) λx s=>h2f (u x s).2
  simp at i g;subst i g;exact⟨⟨k,l⟩,by rw[AU,i1j,r];rfl⟩
def g6x: ∀ (n:Nat) {q:List PV},Qn prog n 28 q-> ∃ t:Tm,AU prog 28 q=enc t:=by
 intro n
 induction n using Nat.strongRecOn with
 | ind n ih=>
  intro q h;obtain⟨m,hm,S,B,h1,h2,h3,N,H,D,K,_⟩:=Gc f0h b8l h
  match q,S with
  | [a,b,c,d,e,f,g,i,j,k],_=>
   rw[Ep]at B h1 h3;rw[b4z]at h2;rw[c2n]at N;rw[f9p]at H;rw[b8b]at D;rw[f9y]at K;obtain⟨Y,O,_⟩:=De Sj B;obtain⟨X,C,_⟩:=De Sj h1;obtain⟨v2,u,_⟩:=a0b b4d h2;obtain⟨Z,A,_⟩:=De Sj h3;obtain⟨m4,_,_,y,k1,M,_⟩:=Gc f5q c2n N;rw[b4z]at y;rw[b8b]at k1 M;obtain⟨V,E,_⟩:=a0b b4d y;obtain⟨W,J⟩:=b0x k1;obtain⟨T,F⟩:=b0x M;obtain⟨m7,_,qs,z,_,hq⟩:=Bh g0x c3y H;obtain⟨U,l⟩:=Ee (α:=Lin) (f:=AU prog 47) λx r=>g6j (hq x r).2
   obtain⟨Q,L⟩:=b0x D;obtain⟨m9,hm9,ts,I,_,ht⟩:=Bh e8z b8l K;obtain⟨P,s⟩:=Ee (α:=Tm) (f:=AU prog 28) λx r=>ih m9 (by omega) (ht x r).2
   simp at O C u A E J F z L I;subst O C u A E J F z L I;exact⟨.mk ⟨Y,X,⟨v2⟩,Z,⟨V⟩,W,T,U,Q⟩ P,by rw[AU,f3s,YB,l,s];rfl⟩
def e3n{n:Nat}{q:List PV}(h:Qn prog n 28 q)(hw:Wz q<=1048576):preT (λx:Tm×Unit=>tW x.1) [AU prog 28 q]:=by
 obtain⟨t,e⟩:=g6x n h;rw[e];refine Zb (t,()) rfl (eY ?_);have h1:=h9a t;have h2:pvW (AU prog 28 q)<=Wz q:=by simp only[AU,f3s];rw[pvW];exact Ie _
 rw[e]at h2;have h3:pvW (tmP t)<=Wz q:=h2;show QV t<=1048576;omega
end Go.Proofs.YtbpdlcdciffpjaaGreatDoor
namespace Go.Proofs.YtbpdlcdciffpjaaGreatDoor
open Go.Shelf
def lays145_ren:Ic:=⟨λ|145=>136|220=>171|219=>194|217=>202|225=>203|224=>204|267=>205|266=>208|314=>209|n=>n,λ|9=>9|4=>4|59=>153|3=>3|5=>5|46=>140|146=>216|51=>163|n=>n,λ|1=>1|n=>n⟩
def lays145:aH prog lays145_ren:={
 mixed:=by kernel_rfl
 f145:=iA func136
 f217:=iA func202
 f219:=iA func194
 f220:=iA func171
 f224:=iA func204
 f225:=iA func203
 f266:=iA func208
 f267:=iA func205
 f314:=iA func209
 t3:=underlying3
 a3:=isAgg3
 z3:=sizeOf3
 v3:=zeroValue3
 t4:=underlying4
 a4:=isAgg4
 z4:=sizeOf4
 v4:=zeroValue4
 t5:=underlying5
 a5:=isAgg5
 z5:=sizeOf5
 v5:=zeroValue5
 t9:=underlying9
 a9:=isAgg9
 z9:=sizeOf9
 v9:=zeroValue9
 t46:=underlying140
 a46:=isAgg140
 z46:=sizeOf140
 v46:=zeroValue140
 t51:=underlying163
 a51:=isAgg163
 z51:=sizeOf163
 v51:=zeroValue163
 t59:=underlying153
 a59:=isAgg153
 z59:=sizeOf153
 v59:=zeroValue153
 t146:=underlying216
 a146:=isAgg216
 z146:=sizeOf216
 v146:=zeroValue216
 g1:=by kernel_rfl}
def lays156_ren:Ic:=⟨λ|156=>56|165=>86|166=>87|169=>88|240=>117|241=>118|276=>152|277=>153|n=>n,λ|31=>60|9=>9|3=>3|4=>4|0=>0|20=>20|72=>121|76=>125|70=>119|37=>102|75=>124|127=>142|164=>169|5=>5|80=>74|n=>n,λ|n=>n⟩
def lays156:aI prog lays156_ren:={
 mixed:=by kernel_rfl
 f156:=iA func56
 f165:=iA func86
 f166:=iA func87
 f169:=iA func88
 f240:=iA func117
 f241:=iA func118
 f276:=iA func152
 f277:=iA func153
 t0:=underlying0
 a0:=isAgg0
 z0:=sizeOf0
 v0:=zeroValue0
 t3:=underlying3
 a3:=isAgg3
 z3:=sizeOf3
 v3:=zeroValue3
 t4:=underlying4
 a4:=isAgg4
 z4:=sizeOf4
 v4:=zeroValue4
 t9:=underlying9
 a9:=isAgg9
 z9:=sizeOf9
 v9:=zeroValue9
 t20:=underlying20
 a20:=isAgg20
 z20:=sizeOf20
 v20:=zeroValue20
 t31:=underlying60
 a31:=isAgg60
 z31:=sizeOf60
 v31:=zeroValue60
 t37:=underlying102
 a37:=isAgg102
 z37:=sizeOf102
 v37:=zeroValue102
 t70:=underlying119
 a70:=isAgg119
 z70:=sizeOf119
 v70:=zeroValue119
 t72:=underlying121
 a72:=isAgg121
 z72:=sizeOf121
 v72:=zeroValue121
 t75:=underlying124
 a75:=isAgg124
 z75:=sizeOf124
 v75:=zeroValue124
 t76:=underlying125
 a76:=isAgg125
 z76:=sizeOf125
 v76:=zeroValue125
 t127:=underlying142
 a127:=isAgg142
 z127:=sizeOf142
 v127:=zeroValue142
 t164:=underlying169
 a164:=isAgg169
 z164:=sizeOf169
 v164:=zeroValue169}
def lays121_ren:Ic:=⟨λ|121=>53|214=>85|n=>n,λ|4=>4|9=>9|n=>n,λ|n=>n⟩
def lays121:aJ prog lays121_ren:={
 mixed:=by kernel_rfl
 f121:=iA func53
 f214:=iA func85
 t4:=underlying4
 a4:=isAgg4
 z4:=sizeOf4
 v4:=zeroValue4
 t9:=underlying9
 a9:=isAgg9
 z9:=sizeOf9
 v9:=zeroValue9}
def lays102_ren:Ic:=⟨λ|102=>59|209=>91|207=>121|n=>n,λ|9=>9|4=>4|3=>3|n=>n,λ|n=>n⟩
def lays102:aK prog lays102_ren:={
 mixed:=by kernel_rfl
 f102:=iA func59
 f207:=iA func121
 f209:=iA func91
 t3:=underlying3
 a3:=isAgg3
 z3:=sizeOf3
 v3:=zeroValue3
 t4:=underlying4
 a4:=isAgg4
 z4:=sizeOf4
 v4:=zeroValue4
 t9:=underlying9
 a9:=isAgg9
 z9:=sizeOf9
 v9:=zeroValue9}
def lays288_ren:Ic:=⟨λ|288=>125|283=>148|284=>149|285=>150|286=>151|129=>147|317=>178|318=>179|319=>180|320=>181|337=>196|338=>197|n=>n,λ|37=>102|53=>147|3=>3|4=>4|9=>9|171=>165|0=>0|173=>167|212=>186|51=>163|5=>5|20=>20|213=>187|46=>140|232=>210|233=>211|n=>n,λ|17=>0|18=>4|19=>5|n=>n⟩
def lays288:Go.Proofs.LaysM.n288 prog lays288_ren:={
 mixed:=by kernel_rfl
 f129:=iA func147
 f283:=iA func148
 f284:=iA func149
 f285:=iA func150
 f286:=iA func151
 f288:=iA func125
 f317:=iA func178
 f318:=iA func179
 f319:=iA func180
 f320:=iA func181
 f337:=iA func196
 f338:=iA func197
 t0:=underlying0
 a0:=isAgg0
 z0:=sizeOf0
 v0:=zeroValue0
 t3:=underlying3
 a3:=isAgg3
 z3:=sizeOf3
 v3:=zeroValue3
 t4:=underlying4
 a4:=isAgg4
 z4:=sizeOf4
 v4:=zeroValue4
 t5:=underlying5
 a5:=isAgg5
 z5:=sizeOf5
 v5:=zeroValue5
 t9:=underlying9
 a9:=isAgg9
 z9:=sizeOf9
 v9:=zeroValue9
 t20:=underlying20
 a20:=isAgg20
 z20:=sizeOf20
 v20:=zeroValue20
 t37:=underlying102
 a37:=isAgg102
 z37:=sizeOf102
 v37:=zeroValue102
 t46:=underlying140
 a46:=isAgg140
 z46:=sizeOf140
 v46:=zeroValue140
 t51:=underlying163
 a51:=isAgg163
 z51:=sizeOf163
 v51:=zeroValue163
 t53:=underlying147
 a53:=isAgg147
 z53:=sizeOf147
 v53:=zeroValue147
 t171:=underlying165
 a171:=isAgg165
 z171:=sizeOf165
 v171:=zeroValue165
 t173:=underlying167
 a173:=isAgg167
 z173:=sizeOf167
 v173:=zeroValue167
 t212:=underlying186
 a212:=isAgg186
 z212:=sizeOf186
 v212:=zeroValue186
 t213:=underlying187
 a213:=isAgg187
 z213:=sizeOf187
 t232:=underlying210
 a232:=isAgg210
 z232:=sizeOf210
 v232:=zeroValue210
 t233:=underlying211
 a233:=isAgg211
 z233:=sizeOf211
 v233:=zeroValue211
 g17:=by kernel_rfl
 g18:=by kernel_rfl
 g19:=by kernel_rfl
 i0:=by kernel_rfl
 i3:=by kernel_rfl
 i4:=by kernel_rfl
 i5:=by kernel_rfl
 i9:=by kernel_rfl
 i20:=by kernel_rfl
 i37:=by kernel_rfl
 i46:=by kernel_rfl
 i51:=by kernel_rfl
 i53:=by kernel_rfl
 i171:=by kernel_rfl
 i173:=by kernel_rfl
 i212:=by kernel_rfl
 i232:=by kernel_rfl
 i233:=by kernel_rfl
 m17:=by kernel_rfl
 m18:=by kernel_rfl
 m19:=by kernel_rfl}
def lays172_ren:Ic:=⟨λ|172=>120|244=>155|245=>156|247=>182|279=>183|280=>184|281=>185|282=>186|287=>198|316=>199|171=>52|205=>200|321=>206|322=>207|243=>84|246=>116|283=>148|284=>149|285=>150|286=>151|129=>147|317=>178|318=>179|319=>180|320=>181|337=>196|338=>197|n=>n,λ|9=>9|3=>3|75=>124|76=>125|4=>4|5=>5|167=>188|37=>102|0=>0|85=>189|2=>2|168=>191|53=>147|175=>203|46=>140|210=>206|127=>142|145=>215|143=>213|21=>21|171=>165|173=>167|212=>186|51=>163|20=>20|213=>187|232=>210|233=>211|80=>74|n=>n,λ|15=>2|16=>3|17=>0|18=>4|19=>5|n=>n⟩
def lays172:Go.Proofs.LaysC.n172 prog lays172_ren:={
 mixed:=by kernel_rfl
 f129:=iA func147
 f171:=iA func52
 f172:=iA func120
 f205:=iA func200
 f243:=iA func84
 f244:=iA func155
 f245:=iA func156
 f246:=iA func116
 f247:=iA func182
 f279:=iA func183
 f280:=iA func184
 f281:=iA func185
 f282:=iA func186
 f283:=iA func148
 f284:=iA func149
 f285:=iA func150
 f286:=iA func151
 f287:=iA func198
 f316:=iA func199
 f317:=iA func178
 f318:=iA func179
 f319:=iA func180
 f320:=iA func181
 f321:=iA func206
 f322:=iA func207
 f337:=iA func196
 f338:=iA func197
 t0:=underlying0
 a0:=isAgg0
 z0:=sizeOf0
 v0:=zeroValue0
 t2:=underlying2
 a2:=isAgg2
 z2:=sizeOf2
 v2:=zeroValue2
 t3:=underlying3
 a3:=isAgg3
 z3:=sizeOf3
 v3:=zeroValue3
 t4:=underlying4
 a4:=isAgg4
 z4:=sizeOf4
 v4:=zeroValue4
 t5:=underlying5
 a5:=isAgg5
 z5:=sizeOf5
 v5:=zeroValue5
 t9:=underlying9
 a9:=isAgg9
 z9:=sizeOf9
 v9:=zeroValue9
 t20:=underlying20
 a20:=isAgg20
 z20:=sizeOf20
 v20:=zeroValue20
 t21:=underlying21
 a21:=isAgg21
 z21:=sizeOf21
 v21:=zeroValue21
 t37:=underlying102
 a37:=isAgg102
 z37:=sizeOf102
 v37:=zeroValue102
 t46:=underlying140
 a46:=isAgg140
 z46:=sizeOf140
 v46:=zeroValue140
 t51:=underlying163
 a51:=isAgg163
 z51:=sizeOf163
 v51:=zeroValue163
 t53:=underlying147
 a53:=isAgg147
 z53:=sizeOf147
 v53:=zeroValue147
 t75:=underlying124
 a75:=isAgg124
 z75:=sizeOf124
 v75:=zeroValue124
 t76:=underlying125
 a76:=isAgg125
 z76:=sizeOf125
 v76:=zeroValue125
 t85:=underlying189
 a85:=isAgg189
 z85:=sizeOf189
 v85:=zeroValue189
 t127:=underlying142
 a127:=isAgg142
 z127:=sizeOf142
 v127:=zeroValue142
 t143:=underlying213
 a143:=isAgg213
 z143:=sizeOf213
 v143:=zeroValue213
 t145:=underlying215
 a145:=isAgg215
 z145:=sizeOf215
 v145:=zeroValue215
 t167:=underlying188
 a167:=isAgg188
 z167:=sizeOf188
 v167:=zeroValue188
 t168:=underlying191
 a168:=isAgg191
 z168:=sizeOf191
 v168:=zeroValue191
 t171:=underlying165
 a171:=isAgg165
 z171:=sizeOf165
 v171:=zeroValue165
 t173:=underlying167
 a173:=isAgg167
 z173:=sizeOf167
 v173:=zeroValue167
 t175:=underlying203
 a175:=isAgg203
 z175:=sizeOf203
 v175:=zeroValue203
 t210:=underlying206
 a210:=isAgg206
 z210:=sizeOf206
 v210:=zeroValue206
 t212:=underlying186
 a212:=isAgg186
 z212:=sizeOf186
 v212:=zeroValue186
 t213:=underlying187
 a213:=isAgg187
 z213:=sizeOf187
 t232:=underlying210
 a232:=isAgg210
 z232:=sizeOf210
 v232:=zeroValue210
 t233:=underlying211
 a233:=isAgg211
 z233:=sizeOf211
 v233:=zeroValue211
 g15:=by kernel_rfl
 g16:=by kernel_rfl
 g17:=by kernel_rfl
 g18:=by kernel_rfl
 g19:=by kernel_rfl
 t80:=underlying74
 a80:=isAgg74
 z80:=sizeOf74
 v80:=zeroValue74
 i0:=by kernel_rfl
 i2:=by kernel_rfl
 i3:=by kernel_rfl
 i4:=by kernel_rfl
 i5:=by kernel_rfl
 i9:=by kernel_rfl
 i20:=by kernel_rfl
 i21:=by kernel_rfl
 i37:=by kernel_rfl
 i46:=by kernel_rfl
 i51:=by kernel_rfl
 i53:=by kernel_rfl
 i75:=by kernel_rfl
 i76:=by kernel_rfl
 i80:=by kernel_rfl
 i85:=by kernel_rfl
 i127:=by kernel_rfl
 i143:=by kernel_rfl
 i145:=by kernel_rfl
 i167:=by kernel_rfl
 i168:=by kernel_rfl
 i171:=by kernel_rfl
 i173:=by kernel_rfl
 i175:=by kernel_rfl
 i210:=by kernel_rfl
 i212:=by kernel_rfl
 i232:=by kernel_rfl
 i233:=by kernel_rfl
 m15:=by kernel_rfl
 m16:=by kernel_rfl
 m17:=by kernel_rfl
 m18:=by kernel_rfl
 m19:=by kernel_rfl
 c0:=by kernel_rfl
 c2:=by kernel_rfl
 c3:=by kernel_rfl
 c4:=by kernel_rfl
 c5:=by kernel_rfl
 c9:=by kernel_rfl
 c20:=by kernel_rfl
 c21:=by kernel_rfl
 c37:=by kernel_rfl
 c46:=by kernel_rfl
 c51:=by kernel_rfl
 c53:=by kernel_rfl
 c75:=by kernel_rfl
 c76:=by kernel_rfl
 c80:=by kernel_rfl
 c85:=by kernel_rfl
 c127:=by kernel_rfl
 c143:=by kernel_rfl
 c145:=by kernel_rfl
 c167:=by kernel_rfl
 c168:=by kernel_rfl
 c171:=by kernel_rfl
 c173:=by kernel_rfl
 c175:=by kernel_rfl
 c210:=by kernel_rfl
 c212:=by kernel_rfl
 c213:=by kernel_rfl
 c232:=by kernel_rfl
 c233:=by kernel_rfl}
def lays171_ren:Ic:=⟨λ|171=>52|243=>84|246=>116|283=>148|284=>149|285=>150|286=>151|129=>147|317=>178|318=>179|319=>180|320=>181|337=>196|338=>197|n=>n,λ|3=>3|9=>9|2=>2|4=>4|171=>165|0=>0|53=>147|37=>102|5=>5|173=>167|212=>186|51=>163|20=>20|213=>187|46=>140|232=>210|233=>211|n=>n,λ|17=>0|18=>4|19=>5|n=>n⟩
def lays171:Go.Proofs.LaysM.n171 prog lays171_ren:={
 mixed:=by kernel_rfl
 f129:=iA func147
 f171:=iA func52
 f243:=iA func84
 f246:=iA func116
 f283:=iA func148
 f284:=iA func149
 f285:=iA func150
 f286:=iA func151
 f317:=iA func178
 f318:=iA func179
 f319:=iA func180
 f320:=iA func181
 f337:=iA func196
 f338:=iA func197
 t0:=underlying0
 a0:=isAgg0
 z0:=sizeOf0
 v0:=zeroValue0
 t2:=underlying2
 a2:=isAgg2
 z2:=sizeOf2
 v2:=zeroValue2
 t3:=underlying3
 a3:=isAgg3
 z3:=sizeOf3
 v3:=zeroValue3
 t4:=underlying4
 a4:=isAgg4
 z4:=sizeOf4
 v4:=zeroValue4
 t5:=underlying5
 a5:=isAgg5
 z5:=sizeOf5
 v5:=zeroValue5
 t9:=underlying9
 a9:=isAgg9
 z9:=sizeOf9
 v9:=zeroValue9
 t20:=underlying20
 a20:=isAgg20
 z20:=sizeOf20
 v20:=zeroValue20
 t37:=underlying102
 a37:=isAgg102
 z37:=sizeOf102
 v37:=zeroValue102
 t46:=underlying140
 a46:=isAgg140
 z46:=sizeOf140
 v46:=zeroValue140
 t51:=underlying163
 a51:=isAgg163
 z51:=sizeOf163
 v51:=zeroValue163
 t53:=underlying147
 a53:=isAgg147
 z53:=sizeOf147
 v53:=zeroValue147
 t171:=underlying165
 a171:=isAgg165
 z171:=sizeOf165
 v171:=zeroValue165
 t173:=underlying167
 a173:=isAgg167
 z173:=sizeOf167
 v173:=zeroValue167
 t212:=underlying186
 a212:=isAgg186
 z212:=sizeOf186
 v212:=zeroValue186
 t213:=underlying187
 a213:=isAgg187
 z213:=sizeOf187
 t232:=underlying210
 a232:=isAgg210
 z232:=sizeOf210
 v232:=zeroValue210
 t233:=underlying211
 a233:=isAgg211
 z233:=sizeOf211
 v233:=zeroValue211
 g17:=by kernel_rfl
 g18:=by kernel_rfl
 g19:=by kernel_rfl
 i0:=by kernel_rfl
 i2:=by kernel_rfl
 i3:=by kernel_rfl
 i4:=by kernel_rfl
 i5:=by kernel_rfl
 i9:=by kernel_rfl
 i20:=by kernel_rfl
 i37:=by kernel_rfl
 i46:=by kernel_rfl
 i51:=by kernel_rfl
 i53:=by kernel_rfl
 i171:=by kernel_rfl
 i173:=by kernel_rfl
 i212:=by kernel_rfl
 i232:=by kernel_rfl
 i233:=by kernel_rfl
 m17:=by kernel_rfl
 m18:=by kernel_rfl
 m19:=by kernel_rfl}
def lays99_ren:Ic:=⟨λ|99=>119|206=>154|n=>n,λ|9=>9|4=>4|3=>3|n=>n,λ|n=>n⟩
def lays99:aM prog lays99_ren:={
 mixed:=by kernel_rfl
 f99:=iA func119
 f206:=iA func154
 t3:=underlying3
 a3:=isAgg3
 z3:=sizeOf3
 v3:=zeroValue3
 t4:=underlying4
 a4:=isAgg4
 z4:=sizeOf4
 v4:=zeroValue4
 t9:=underlying9
 a9:=isAgg9
 z9:=sizeOf9
 v9:=zeroValue9}
def lays190_ren:Ic:=⟨λ|190=>81|125=>115|258=>114|128=>146|129=>147|302=>137|303=>138|304=>139|305=>140|306=>141|307=>142|308=>143|309=>144|310=>145|333=>172|329=>173|330=>174|334=>175|335=>176|336=>177|344=>195|n=>n,λ|31=>60|9=>9|3=>3|46=>140|0=>0|51=>163|53=>147|4=>4|183=>157|182=>156|131=>129|5=>5|218=>179|222=>183|228=>200|229=>201|n=>n,λ|n=>n⟩
def lays190:aL prog lays190_ren:={
 mixed:=by kernel_rfl
 f125:=iA func115
 f128:=iA func146
 f129:=iA func147
 f190:=iA func81
 f258:=iA func114
 f302:=iA func137
 f303:=iA func138
 f304:=iA func139
 f305:=iA func140
 f306:=iA func141
 f307:=iA func142
 f308:=iA func143
 f309:=iA func144
 f310:=iA func145
 f329:=iA func173
 f330:=iA func174
 f333:=iA func172
 f334:=iA func175
 f335:=iA func176
 f336:=iA func177
 f344:=iA func195
 t0:=underlying0
 a0:=isAgg0
 z0:=sizeOf0
 v0:=zeroValue0
 t3:=underlying3
 a3:=isAgg3
 z3:=sizeOf3
 v3:=zeroValue3
 t4:=underlying4
 a4:=isAgg4
 z4:=sizeOf4
 v4:=zeroValue4
 t5:=underlying5
 a5:=isAgg5
 z5:=sizeOf5
 v5:=zeroValue5
 t9:=underlying9
 a9:=isAgg9
 z9:=sizeOf9
 v9:=zeroValue9
 t31:=underlying60
 a31:=isAgg60
 z31:=sizeOf60
 v31:=zeroValue60
 t46:=underlying140
 a46:=isAgg140
 z46:=sizeOf140
 v46:=zeroValue140
 t51:=underlying163
 a51:=isAgg163
 z51:=sizeOf163
 v51:=zeroValue163
 t53:=underlying147
 a53:=isAgg147
 z53:=sizeOf147
 v53:=zeroValue147
 t131:=underlying129
 a131:=isAgg129
 z131:=sizeOf129
 v131:=zeroValue129
 t182:=underlying156
 a182:=isAgg156
 z182:=sizeOf156
 v182:=zeroValue156
 t183:=underlying157
 a183:=isAgg157
 z183:=sizeOf157
 v183:=zeroValue157
 t218:=underlying179
 a218:=isAgg179
 z218:=sizeOf179
 v218:=zeroValue179
 t222:=underlying183
 a222:=isAgg183
 z222:=sizeOf183
 v222:=zeroValue183
 t228:=underlying200
 a228:=isAgg200
 z228:=sizeOf200
 v228:=zeroValue200
 t229:=underlying201
 a229:=isAgg201
 z229:=sizeOf201
 v229:=zeroValue201}
end Go.Proofs.YtbpdlcdciffpjaaGreatDoor
namespace Go.Proofs.YtbpdlcdciffpjaaGreatDoor
open Go.Pl Go.RowKit
open Enc (enc dec is)
open EncL (encL decL isL)
set_option maxRecDepth 100000
def TD:ZB prog 119 (λ_:Str×Str×Unit=>true) (λx:Str×Str×Unit=>x.2.1.s.isPrefixOf x.1.s):=Wd (by
  rintro⟨⟨s⟩,⟨p⟩,⟨⟩⟩ hps Φ w vs hL hΦ hv;obtain⟨u,v,rfl,h1,h2⟩:=h6a hv;rw[GD h1,GD h2];refine(Any.strings_HasPrefix lays99 ⟨s.toArray⟩ ⟨p.toArray⟩ w).mono ?_;rintro e w' ⟨rfl,rfl⟩
  exact⟨_,rfl,.bool _,.refl _ _⟩)
def g5m:ZB prog 120 (λx:Str×Unit=>decide (x.1.s.length<=1000000)) (λx:Str×Unit=>Xk x.1):=Wd (by
  rintro⟨⟨s⟩,⟨⟩⟩ hps Φ w vs hL hΦ a;have hs:s.length<=1000000:=by simpa using hps
  obtain⟨v,rfl,h1⟩:=h6l a;rw[GD h1];have i:(⟨s.toArray⟩:ByteArray).size=s.length:=rfl;cases h:I5 s
  ·rename_i n;have k:Xk ⟨s⟩=(n,⟨false⟩):=by simp only[Xk,h]
   rw[k];refine(IE lays172 ⟨s.toArray⟩ (by rw[i];omega) n h w).mono ?_;rintro e w' ⟨rfl,q⟩;refine⟨_,rfl,.tup _ _ rfl ?_,?_⟩
   ·intro j v x a b
    match j with
    | 0=>cases a;cases b;exact .int _ _
    | 1=>cases a;cases b;exact .nili
    | j+2=>simp at a
   ·rcases q with rfl|⟨t,rfl⟩
    ·exact .refl _ _
    ·exact Ou _ _ 0 _
  ·skip
   have k:Xk ⟨s⟩=(0,⟨true⟩):=by simp only[Xk,h]
   rw[k];obtain⟨cs,hc,ev,l,g⟩:=hL.syn;refine(Iy lays172 ⟨s.toArray⟩ (by rw[i];omega) h ev w (Dq hΦ hc l) g).mono ?_;rintro e w' ⟨N,rfl,_,_,hb⟩;refine⟨_,rfl,.tup _ _ rfl ?_,hb⟩;intro j v x a b
   match j with
   | 0=>cases a;cases b;exact .int _ _
   | 1=>cases a;cases b;exact .ifc _ _
   | j+2=>simp at a
  ·skip
   have k:Xk ⟨s⟩=(I6 s,⟨true⟩):=by simp only[Xk,h]
   rw[k];obtain⟨cs,hc,ev,l,g⟩:=hL.rng;refine(Iz lays172 ⟨s.toArray⟩ (by rw[i];omega) h ev w (Dq hΦ hc l) g).mono ?_;rintro e w' ⟨N,rfl,_,_,hb⟩;refine⟨_,rfl,.tup _ _ rfl ?_,hb⟩;intro j v x a b
   match j with
   | 0=>cases a;cases b;exact .int _ _
   | 1=>cases a;cases b;exact .ifc _ _
   | j+2=>simp at a)
def G9:ZB prog 52 (λx:Int×Unit=>decide (-9223372036854775808<=x.1)&&decide (x.1<=9223372036854775807)) (λx:Int×Unit=>Yw x.1):=Wd (by
  rintro⟨n,⟨⟩⟩ hps Φ w vs hL hΦ hv;obtain⟨v,rfl,h1⟩:=h6l hv;have h1:RP Φ v (.int .i64 n):=h1;rw[i2x h1];have hn : -9223372036854775808<=n∧n<=9223372036854775807:=by simpa using hps
  have hg:=hL.pow;obtain⟨T,fz,hh⟩:=hΦ _ _ hg;refine(Any.strconv_Itoa lays171 n hn.1 hn.2 w ?_).mono ?_
  ·unfold IW IP
   rw[show Program.globalNamed prog "internal/strconv.uint64pow10" = some 0 by kernel_rfl]
   simp only[Iw,hh];rfl
  ·rintro e w' ⟨rfl,k,os,rfl⟩;refine⟨_,rfl,.str _,?_⟩
   exact⟨rfl,rfl,rfl,by show w.heap.size<=(w.heap++os).size;simp,λj hj=>by show(w.heap++os)[j]? = _;rw[Array.getElem?_append_left hj]⟩)
def h8x: ∀ s:List UInt8,((s.dropWhile λc=>c != 46)=[]->Iq s [46] = -1) ∧
  ∀ (c:UInt8) (r:List UInt8),(s.dropWhile λc=>c != 46)=c::r->Iq s [46]=((s.takeWhile λc=>c != 46).length:Nat)∧s.drop ((s.takeWhile λc=>c != 46).length+1)=r∧s.take (s.takeWhile λc=>c != 46).length=s.takeWhile λc=>c != 46
 | []=>⟨λ_=>rfl,λ_ _ h=>by cases h⟩
 | b::l=>by
  obtain⟨h1,h2⟩:=h8x l;by_cases hb:b=46
  ·subst hb;refine⟨λh=>by simp at h,λc r h=> ?_⟩;have h:(46:UInt8)::l=c::r:=by simpa using h
   cases h;exact⟨rfl,rfl,rfl⟩
  ·have a:(b != 46):=by simpa using hb
   have j:([46]:List UInt8).isPrefixOf (b::l)=false:=by simp[List.isPrefixOf];exact λe=>hb e.symm
   have g:Iq (b::l) [46]=if Iq l [46] == -1 then -1 else Iq l [46]+1:=by rw[Iq,j];rfl
   rw[List.dropWhile_cons,fw a,List.takeWhile_cons,fw a];refine⟨λh=>by rw[g,h1 h];rfl,λc r h=> ?_⟩;obtain⟨k1,i,k3⟩:=h2 c r h;rw[g,k1];refine⟨?_,?_,?_⟩
   ·rw[fo (by simp),Ik];rfl
   ·rw[Ik,List.drop_succ_cons];exact i
   ·rw[Ik,List.take_succ_cons,k3]
def h2u(s:List UInt8):Lib.cut s [46]=((JC ⟨s⟩).a.s,(JC ⟨s⟩).b.s,(JC ⟨s⟩).c):=by
 obtain⟨h1,h2⟩:=h8x s;unfold Lib.cut JC;cases hd:s.dropWhile λc=>c != 46 with
 | nil=>rw[h1 hd];rfl
 | cons c r=>obtain⟨k1,e,k3⟩:=h2 c r hd;rw[k1,fw (by omega),Int.toNat_natCast,k3];show(_,s.drop ((s.takeWhile λc=>c != 46).length+1),true)=_;rw[e]
def f7c:ZB prog 136 (λx:Str×Str×Unit=>decide (x.1.s.length<=1048576)&&decide (x.2.1.s=[46])) (λx:Str×Str×Unit=>JC x.1):=Wd (by
  rintro⟨⟨s⟩,⟨p⟩,⟨⟩⟩ hps Φ w vs hL hΦ a;simp only[Ib,fu]at hps;obtain⟨hs,b⟩:=hps;have b:p=[46]:=b;subst b;obtain⟨u,v,rfl,h1,h2⟩:=h6a a;rw[GD h1,GD h2];obtain⟨cs,m,hc,hm⟩:=hL.mx;have g:(⟨s.toArray⟩:ByteArray).size=s.length:=rfl;refine(Any.strings_Cut lays145 ⟨s.toArray⟩ ⟨#[46]⟩ m w (by rw[g];have hs:s.length<=1048576:=hs;omega) (Dq hΦ hc hm)).mono ?_;rintro e w' ⟨rfl,k,rfl⟩;refine⟨_,rfl,.tup _ _ rfl ?_,?_⟩
  ·rw[show(⟨s.toArray⟩:ByteArray).data.toList=s from rfl,show(⟨#[46]⟩:ByteArray).data.toList=[46]from rfl,h2u];intro j v x a h
   match j with
   | 0=>cases a;cases h;exact .str _
   | 1=>cases a;cases h;exact .str _
   | 2=>cases a;cases h;exact .bool _
   | j+3=>simp at a
  ·exact⟨rfl,rfl,rfl,Ie _,λ_ _=>rfl⟩)
def e6n:IV true=[116,114,117,101]:=by decide
def d0c:IV false=[102,97,108,115,101]:=by decide
def i8j:ZB prog 53 (λ_:Bool×Unit=>true) (λx:Bool×Unit=>g7w x.1):=Wd (by
  rintro⟨b,⟨⟩⟩ _ Φ w vs hL hΦ hv;obtain⟨v,rfl,h1⟩:=h6l hv;have h1:RP Φ v (.bool b):=h1;cases h1;refine(Any.strconv_FormatBool lays121 b w).mono ?_;rintro e w' ⟨rfl,rfl⟩;refine⟨_,rfl,?_,.refl _ _⟩;cases b
  ·rw[d0c];exact .str _
  ·rw[e6n];exact .str _)
def a4f:ZB prog 59 (λx:Str×Str×Unit=>decide (x.1.s.length<=1000000)) (λx:Str×Str×Unit=>(⟨Lib.trimSuffix x.1.s x.2.1.s⟩:Str)):=Wd (by
  rintro⟨⟨s⟩,⟨p⟩,⟨⟩⟩ hps Φ w vs hL hΦ hv;have hs:s.length<=1000000:=by simpa using hps
  obtain⟨u,v,rfl,h1,h2⟩:=h6a hv;rw[GD h1,GD h2];have a:(⟨s.toArray⟩:ByteArray).size=s.length:=rfl;refine(Any.strings_TrimSuffix lays102 ⟨s.toArray⟩ ⟨p.toArray⟩ w (by rw[a];omega)).mono ?_;rintro e w' ⟨rfl,rfl⟩
  exact⟨_,rfl,.str _,.refl _ _⟩)
def h7v:Builder.Extra prog lays156_ren where
 sizeBuilder:=by kernel_rfl
 liesBuilder:=by kernel_rfl
 t5:=lays288.t5
 a5:=lays288.a5
 z5:=lays288.z5
 v5:=lays288.v5
 infoByte:=by kernel_rfl
 cellsByte:=by kernel_rfl
 sizeByte:=by kernel_rfl
 neB5:=by decide
def R7: ∀ l:List (List UInt8),IA l [44,32]=Yg l
 | []=>rfl
 | [s]=>by simp[IA,IL,Yg]
 | s::t::r=>by
  have h:=R7 (t::r);rw[Yg]
  ·rw[<- h];simp[IA,IL]
  ·simp
def e2p(l:List Str):flat (l.map (enc:Str->PV))=l.map λs:Str=>PV.str s.s:=by
 induction l with
 | nil=>rfl
 | cons a l ih=>rw[Ia,Ia,<- ih];rfl
def g1f:ZB prog 56 (λx:List Str×Str×Unit=>V9 x.1&&decide (x.2.1.s=[44,32])) (λx:List Str×Str×Unit=>WI x.1):=Wd (by
  rintro⟨l,⟨p⟩,⟨⟩⟩ hps Φ w vs hL hΦ hv;simp only[Ib,fu]at hps;obtain⟨q,r⟩:=hps;have r:p=[44,32]:=r;subst r;have q:V9 l:=q;unfold V9 at q;simp only[Ib,fu]at q;obtain⟨u,v,rfl,h1,h2⟩:=h6a hv;have h1:RP Φ u (.sl 1 false (l.map enc)):=h1;rw[GD h2];have B:(l.map λs:Str=>(⟨s.s.toArray⟩:ByteArray)).map (·.data.toList)=l.map (·.s):=by rw[List.map_map];rfl
  by_cases hl:l=[]
  ·subst hl;have : ∃ a c,u = .slice a 0 c:=by
    cases h1 with
    | sl0 a c _ _ h=>exact⟨a,c,rfl⟩
    | sl b off cs c _ _ _ uu hb hc htt hs hu hr=>exact⟨_,_,rfl⟩
   obtain⟨a,c,rfl⟩:=this;refine(Any.strings_Join_none lays156 h7v a c ⟨#[44,32]⟩ w).mono ?_;rintro e w' ⟨rfl,rfl⟩;exact⟨_,rfl,.str _,.refl _ _⟩
  ·obtain⟨b,off,c,cs,F,rfl,hb,hc,_,h3,D,A,h6⟩:=h1.sl_cells hΦ (by simpa using hl);obtain⟨T,fz,E⟩:=hΦ b cs hb;have i:b<w.heap.size:=(Array.getElem?_eq_some_iff.1 E).1;have H:=e2p l;rw[H]at A;have g : ∀ (j:Nat) x,(l.map λs:Str=>(⟨s.s.toArray⟩:ByteArray))[j]? = some x->w.cell? ⟨b,off+j,none⟩=some (.string x):=λj x C=>by
    rw[Ir,Ij]at C;obtain⟨s,hs,rfl⟩:=C;have y:j<F.length:=by rw[A.1,Im];exact(Ig.1 hs).1
    have hu:=Cm y;have hr:=A.2 j _ _ hu (by rw[Ir,hs];rfl);rw[D j _ hu,GD hr]
   have k:(l.map (enc:Str->PV)).length=(l.map λs:Str=>(⟨s.s.toArray⟩:ByteArray)).length:=by rw[Im,Im]
   rw[k]at hc ⊢
   refine(Any.strings_Join lays156 h7v b off c (l.map λs:Str=>(⟨s.s.toArray⟩:ByteArray)) ⟨#[44,32]⟩ w g i (by rw[Im];omega) hc (by
    rw[B];show(IA (l.map (·.s)) [44,32]).length<=_
    rw[R7];omega)).mono ?_
   rintro e w' ⟨rfl,z⟩;refine⟨_,rfl,?_,z⟩;rw[B];show RP Φ (.string ⟨(IA (l.map (·.s)) [44,32]).toArray⟩) _;rw[R7]
   exact .str _)
def a4y:YP prog 125 (Ry 5) b6x:=i5i (ρ:=lays288_ren) lays288 λΦ w hL hΦ=>by
 have hg:=hL.pow;obtain⟨T,fz,hh⟩:=hΦ _ _ hg;unfold IW IP
 rw[show Program.globalNamed prog "internal/strconv.uint64pow10" = some 0 by kernel_rfl]
 simp only[Iw,hh];rfl
end Go.Proofs.YtbpdlcdciffpjaaGreatDoor
namespace Go.Proofs.YtbpdlcdciffpjaaGreatDoor
open Go.Shelf
def keysA_ren:Ic:=⟨λ|7=>49|10=>82|n=>n,λ|23=>84|26=>9|3=>4|28=>87|0=>0|27=>86|33=>72|4=>4|n=>n,λ|n=>n⟩
def keysA:Go.Proofs.SlLaysZ.n7 prog keysA_ren:={
 mixed:=by kernel_rfl
 f7:=⟨Tryz.f49.name,by decide,Tryz.func49.trans (congrArg some (by kernel_rfl))⟩
 f10:=⟨Tryz.f82.name,by decide,Tryz.func82.trans (congrArg some (by kernel_rfl))⟩
 t0:=underlying0
 a0:=isAgg0
 z0:=sizeOf0
 v0:=zeroValue0
 t4:=underlying4
 a4:=isAgg4
 z4:=sizeOf4
 v4:=zeroValue4
 t23:=underlying84
 a23:=isAgg84
 z23:=sizeOf84
 v23:=zeroValue84
 t26:=underlying9
 a26:=isAgg9
 z26:=sizeOf9
 v26:=zeroValue9
 t27:=underlying86
 a27:=isAgg86
 z27:=sizeOf86
 v27:=zeroValue86
 t28:=underlying87
 a28:=isAgg87
 z28:=sizeOf87
 v28:=zeroValue87
 t33:=underlying72
 a33:=isAgg72
 z33:=sizeOf72
 v33:=zeroValue72}
def sortedA_ren:Ic:=⟨λ|6=>48|8=>80|9=>81|11=>113|13=>115|12=>114|23=>146|24=>147|14=>137|15=>138|16=>139|17=>140|18=>141|19=>142|20=>143|21=>144|22=>145|25=>172|26=>173|27=>174|28=>175|29=>176|30=>177|31=>195|n=>n,λ|26=>9|28=>87|24=>60|0=>0|3=>3|37=>140|48=>163|50=>147|4=>4|40=>157|39=>156|45=>129|5=>5|9=>9|51=>179|55=>183|57=>200|58=>201|33=>72|n=>n,λ|n=>n⟩
def sortedA:Go.Proofs.SlLaysZ.n6 prog sortedA_ren:={
 mixed:=by kernel_rfl
 f6:=⟨Tryz.f48.name,by decide,Tryz.func48.trans (congrArg some (by kernel_rfl))⟩
 f8:=⟨Tryz.f80.name,by decide,Tryz.func80.trans (congrArg some (by kernel_rfl))⟩
 f11:=⟨Tryz.f113.name,by decide,Tryz.func113.trans (congrArg some (by kernel_rfl))⟩
 t0:=underlying0
 a0:=isAgg0
 z0:=sizeOf0
 v0:=zeroValue0
 t24:=underlying60
 a24:=isAgg60
 z24:=sizeOf60
 v24:=zeroValue60
 t26:=underlying9
 a26:=isAgg9
 z26:=sizeOf9
 v26:=zeroValue9
 t28:=underlying87
 a28:=isAgg87
 z28:=sizeOf87
 v28:=zeroValue87
 i26:=by kernel_rfl}
end Go.Proofs.YtbpdlcdciffpjaaGreatDoor
namespace Go.Proofs.YtbpdlcdciffpjaaGreatDoor
open Go.RowKit Go.Shelf Go.Pl Go.Proofs
def h6z(m:Nat):AnyZ.SortsIn prog sortedA_ren Fence.wide m:=
  ⟨λblk off cap ss W e a b=>callsIn_wide.2 (Any.slices_Sort_string lays190 blk off cap ss W e a b),
   λp cap W=>callsIn_wide.2 (Any.slices_Sort_string_none lays190 p cap W)⟩
def g8x:SortedC prog 48 82 9 where
 str:=by kernel_rfl
 run:=by
  intro Bm b nn D0 w i hm h e a;have g:SeqGives Fence.wide 2 prog 82 #[.pointer (some ⟨Bm,0,none⟩)] encStr (λss=>ss.Perm (strKeys D0)) (Maps.size D0) w:=AnyZ.keys_gives (ρ:=keysA_ren) {keysA with} Fence.wide _ trivial rfl (by omega) Bm b nn D0 _ i hm h
  exact callsIn_wide.1 (AnyZ.sorted_in sortedA Fence.wide 5 trivial trivial trivial trivial rfl (by omega) (h6z _) (enters_of func81 (by kernel_rfl) rfl) 82 #[.pointer (some ⟨Bm,0,none⟩)] trivial (enters_of func82 (by kernel_rfl) rfl) _ _ e a _ g)
def j4h:YP prog 48 (GL 82) Cw:=c9t (c8a g8x)
end Go.Proofs.YtbpdlcdciffpjaaGreatDoor
namespace Go.Proofs.YtbpdlcdciffpjaaGreatDoor
open Go.RowKit Go.Lib Go.Pl
def g6d:(Tryz.prog.info? 3).map (λi=>(i.zero,i.size,i.bytes))=some (some (.int .i64 0),1,8):=by kernel_rfl
def Px:Tryz.prog.underlying 22=some (.slice 3):=by kernel_rfl
def d2x(n c:Nat)(w:World):Calls prog 124 #[.slice none n c] w λe w'=>e = .returned (.slice none 0 0)∧w'=w:=by
 have q22 : ∀ (w:World) (a:Option Addr) (n c g b:Nat),(binOp .eql 22 (.slice a n c) (.slice none g b)).run prog w = .ok (.bool a.isNone) w:=λw a n c g b=>Il w _ _ a n c g b Px
 go_enter func124,ntmps124
 go_wp2
 go_ret
 exact⟨rfl,rfl⟩
def b8u(a:Addr)(c:Nat)(w:World):Calls prog 124 #[.slice (some a) 0 c] w λe w'=>(∃ g,e = .returned (.slice (some g) 0 0))∧Below w.heap.size w w':=by
 have q22 : ∀ (w:World) (a:Option Addr) (n c h b:Nat),(binOp .eql 22 (.slice a n c) (.slice none h b)).run prog w = .ok (.bool a.isNone) w:=λw a n c h b=>Il w _ _ a n c h b Px
 obtain⟨i0,hi,hz0,hz1,hz2⟩:=info_parts g6d
 go_enter func124,ntmps124
 go_wp2_with (at_builtin;refine Lib.wpList_append_run _ rfl _ _ _ _ rfl _ _ rfl rfl _ _ (UX Px hi (Ie _)) ?_)
 go_ret
 exact⟨⟨_,rfl⟩,(Below.refl _ w).alloc (Ie _) _⟩
def c1m(a:Addr)(n c:Nat)(news:List Value)(w:World)(h0:0<n)(hn:n<=2000000)(s:news.length=n*1)(hc : ∀ j u,news[j]? = some u->w.cell? (a.add j)=some u)(h1 : ∀ u∈news,u.oneCell'):
  Calls prog 124 #[.slice (some a) n c] w λe w'=> ∃ v',e = .returned v'∧w'.ownsRow w.heap.size 3 1 v' n news∧Below w.heap.size w w':=by
 have q22 : ∀ (w:World) (a:Option Addr) (n c l i:Nat),(binOp .eql 22 (.slice a n c) (.slice none l i)).run prog w = .ok (.bool a.isNone) w:=λw a n c l i=>Il w _ _ a n c l i Px
 obtain⟨B,hi,q,r,h⟩:=info_parts g6d;have A:Aside (∀ j u,news[j]? = some u->w.cell? (a.add j)=some u):=hc;clear hc
 go_enter func124,ntmps124
 go_wp2_with (at_builtin;refine wpList_append_own _ rfl _ _ 22 rfl w.heap.size 3 B (.int .i64 0) 1 8 Px hi q r h rfl (by decide) _ _ _ rfl (World.ownsRow_made w #[] 0 (Ie _) (I4 _) rfl) a n c news rfl ?qc1 ?qc2 ?qc3 ?qc4 ?qc5 ?qc6 ?_)
 case qc1=>exact s
 case qc2=>intro j u z;exact Lib.cell?_alloc_some _ (A.out j u z)
 case qc3=>exact h1
 case qc4=>unfold maxLen;omega
 case qc5=>omega
 case qc6=>simp
 intro v' w1 g b hnil
 go_wp2
 go_ret
 refine⟨v',rfl,by simpa using g,?_⟩;exact((Below.refl _ w).alloc (Ie _) _).grown b (by simp) (by intro k y;simp[Value.ownBlock]at y;omega)
def i8e:CloneC prog 124 3 1:=⟨d2x,b8u,c1m⟩
end Go.Proofs.YtbpdlcdciffpjaaGreatDoor
namespace Go.Proofs.YtbpdlcdciffpjaaGreatDoor
open Go.Pl
open Enc (enc dec is)
open EncL (encL decL isL)
set_option maxRecDepth 100000
def KP:Tryz.prog.follows .mixedOrders:=by kernel_rfl
def tq{f:Nat}{D:Den}{l:List (Nat×Den)}{fn:Func}(hf:Tryz.prog.funcs[f]? = some fn)(h:e1j prog f D)(k:Xa prog (YT l))(hb:(fn.body.isSome&& !(fn.name == "runtime.NumGoroutine")):=by kernel_rfl):Xa prog (YT ((f,D)::l)):=f4s (ent hf hb h) k
def dq{f i:Nat}{α β:Type}[EncL α][Enc β]{fn:Func}{T:ZH}{ic:IC}{rs:List IRes}{pre:α->Bool}{F:α->β}(h : ∀ a,pre a->Zh T 0 (Za rs (Ze (F a))) ic [] (Z7 i (encL a)))(j:Xa prog T)(k:Tryz.prog.funcs[f]? = some fn)(e:a4i prog fn=some ic:=by kernel_rfl)(b:Vj (WR prog) fn.results.toList=some rs:=by kernel_rfl)(g:fn.ntmps=i:=by kernel_rfl):ZB prog f pre F:=ZB.of j KP k e b g h
def dqS{α β S:Type}[EncL α][Enc β][EncL S]{T:ZH}{f:Nat}{fn:Func}{ic:IC}{rs:List IRes}{mk:α->List AV}{e b:List AObj}{pre:S->α->Bool}{un:List AV->α}{F:S->α->β×S}{l k:Nat}(h : ∀ s a,pre s a->Zh T k (ZA k rs (ZW e b (F s a).1 (F s a).2)) ic [] (Yr l (mk a) (e++Zz s::b)))(hm:b9k mk un)(q:Xa prog T)(u:Tryz.prog.funcs[f]? = some fn)(r:e.length+1+b.length=k:=by exact rfl)(i:a4i prog fn=some ic:=by kernel_rfl)(g:Vj (WR prog) fn.results.toList=some rs:=by kernel_rfl)(j:fn.ntmps=l:=by kernel_rfl):Yy prog f mk un e b pre F:=Yy.of hm q KP u i g j r h
def e5w:ZB prog 120 (λx:Str×Unit=>decide (x.1.s.length<=281474976710656)) (λx:Str×Unit=>Xk x.1):=Wd (by
  rintro⟨⟨s⟩,⟨⟩⟩ hps Φ w vs hL hΦ a;have hs:s.length<=281474976710656:=by simpa using hps
  obtain⟨v,rfl,h1⟩:=h6l a;rw[GD h1];have i:(⟨s.toArray⟩:ByteArray).size=s.length:=rfl;cases h:I5 s
  ·rename_i n;have k:Xk ⟨s⟩=(n,⟨false⟩):=by simp only[Xk,h]
   rw[k];refine(IE lays172 ⟨s.toArray⟩ (by rw[i];omega) n h w).mono ?_;rintro e w' ⟨rfl,q⟩;refine⟨_,rfl,.tup _ _ rfl ?_,?_⟩
   ·intro j v x a b
    match j with
    | 0=>cases a;cases b;exact .int _ _
    | 1=>cases a;cases b;exact .nili
    | j+2=>simp at a
   ·rcases q with rfl|⟨t,rfl⟩
    ·exact .refl _ _
    ·exact Ou _ _ 0 _
  ·skip
   have k:Xk ⟨s⟩=(0,⟨true⟩):=by simp only[Xk,h]
   rw[k];obtain⟨cs,hc,ev,l,g⟩:=hL.syn;refine(Iy lays172 ⟨s.toArray⟩ (by rw[i];omega) h ev w (Dq hΦ hc l) g).mono ?_;rintro e w' ⟨N,rfl,_,_,hb⟩;refine⟨_,rfl,.tup _ _ rfl ?_,hb⟩;intro j v x a b
   match j with
   | 0=>cases a;cases b;exact .int _ _
   | 1=>cases a;cases b;exact .ifc _ _
   | j+2=>simp at a
  ·skip
   have k:Xk ⟨s⟩=(I6 s,⟨true⟩):=by simp only[Xk,h]
   rw[k];obtain⟨cs,hc,ev,l,g⟩:=hL.rng;refine(Iz lays172 ⟨s.toArray⟩ (by rw[i];omega) h ev w (Dq hΦ hc l) g).mono ?_;rintro e w' ⟨N,rfl,_,_,hb⟩;refine⟨_,rfl,.tup _ _ rfl ?_,hb⟩;intro j v x a b
   match j with
   | 0=>cases a;cases b;exact .int _ _
   | 1=>cases a;cases b;exact .ifc _ _
   | j+2=>simp at a)
def a6h:ZB prog 90 (λ_:Int×Unit=>true) (λx:Int×Unit=>Yq x.1):=dq h2q Zd func90
def b9z:ZB prog 89 (λx:Str×Unit=>decide (x.1.s.length<=1000000)) (λx:Str×Unit=>nameB x.1):=dq e7i (tq func119 TD (tq func120 g5m (tq func52 G9 Zd))) func89
def c3z:ZB prog 89 (λx:Str×Unit=>decide (x.1.s.length<=281474976710656)) (λx:Str×Unit=>nameB x.1):=dq c7g (tq func119 TD (tq func120 e5w (tq func52 G9 Zd))) func89
def b2m:ZB prog 57 (λx:Lin×Unit=>Ye x.1) (λx:Lin×Unit=>Zf x.1):=dq d4s (tq func90 a6h (tq func89 b9z Zd)) func57
def b3z:ZB prog 57 (λx:Lin×Unit=>GZ x.1) (λx:Lin×Unit=>Zf x.1):=dq e7l (tq func90 a6h (tq func89 c3z Zd)) func57
def NK:ZB prog 77 (λ_:UInt8×Unit=>true) (λx:UInt8×Unit=>lowB x.1):=dq d3d Zd func77
def b1x:ZB prog 112 (λ_:UInt8×Unit=>true) (λx:UInt8×Unit=>digB x.1):=dq c6n Zd func112
def c7r:ZB prog 78 (λx:Str×Bool×Unit=>decide (x.1.s.length<=1048576)) (λx:Str×Bool×Unit=>Ve x.1 x.2.1):=dq f2j (tq func112 b1x (tq func77 NK Zd)) func78
def OU:ZB prog 79 (λ_:Str×Unit=>true) (λx:Str×Unit=>Qa.contains x.1.s):=dq f7v Zd func79
def KA:ZB prog 47 (λx:Str×Unit=>decide (x.1.s.length<=1048576)) (λx:Str×Unit=>nameI x.1.s):=dq e4v (tq func77 NK (tq func78 c7r (tq func79 OU Zd))) func47
def a5i:ZB prog 111 (λx:Str×Unit=>decide (x.1.s.length<=1048576)) (λx:Str×Unit=>fullI x.1.s):=dq e7z (tq func136 f7c (tq func47 KA Zd)) func111
def BB:ZB prog 75 (λx:Str×Unit=>decide (x.1.s.length<=1048576)) (λx:Str×Unit=>Mm x.1.s):=dq f7e (tq func47 KA (tq func111 a5i Zd)) func75
def a0k:ZB prog 73 (λx:Tm×Unit=>nW x.1) (λx:Tm×Unit=>Jn x.1.nd):=dq f1s Zd func73
def a6a:ZB prog 108 (λx:Lin×Unit=>GZ x.1) (λx:Lin×Unit=> !(Zf x.1)):=dq f9e (tq func57 b3z Zd) func108
def g8p:ZB prog 134 (λx:List Lin×FnV 108×Unit=>decide (x.1.length<=1048576)&&x.1.all GZ) (λx:List Lin×FnV 108×Unit=>WZ (λl:Lin=> !(Zf l)) x.1):=dq g7s (tq func108 a6a Zd) func134
def h6p:ZB prog 107 (λx:List Lin×FnV 108×Unit=>decide (x.1.length<=1048576)&&x.1.all GZ) (λx:List Lin×FnV 108×Unit=>x.1.any λl:Lin=> !(Zf l)):=dq h2i (tq func134 g8p Zd) func107
def P9:ZB prog 72 (λx:Tm×Int×Int×Unit=>nW x.1) (λx:Tm×Int×Int×Unit=>Wn x.1.nd x.2.1 x.2.2.1):=dq c7v (tq func107 h6p Zd) func72
def b6k:ZB prog 110 (λ_:Int×Unit=>true) (λx:Int×Unit=>Y2 x.1):=dq g5j Zd func110
def h4i:ZB prog 135 (λx:List Int×FnV 110×Unit=>decide (x.1.length<=1048576)) (λx:List Int×FnV 110×Unit=>WZ Y2 x.1):=dq g9g (tq func110 b6k Zd) func135
def h4d:ZB prog 109 (λx:List Int×FnV 110×Unit=>decide (x.1.length<=1048576)) (λx:List Int×FnV 110×Unit=>x.1.any Y2):=dq g7y (tq func135 h4i Zd) func109
def c5a:ZB prog 74 (λx:Tm×Unit=>nW x.1) (λx:Tm×Unit=>callB x.1.nd x.1.ks.length):=dq e3t (tq func75 BB (tq func72 P9 (tq func109 h4d Zd))) func74
def e8q:W9 prog 187 Y1 Tc:=SS (T:=JE) (ic:=QF) (rs:=Qr) Zd KP func187 (by kernel_rfl) (by kernel_rfl) (by kernel_rfl) e2o
def c0q:W9 prog 157 Y1 Jq:=SS (T:=RD) (ic:=BU) (rs:=A8) (tq func187 e8q Zd) KP func157 (by kernel_rfl) (by kernel_rfl) (by kernel_rfl) b2z
def h3b:W9 prog 122 Dw X3:=SS (T:=VV) (ic:=Ww) (rs:=Wx) (tq func157 c0q Zd) KP func122 (by kernel_rfl) (by kernel_rfl) (by kernel_rfl) f7k
def f9g:ZB prog 122 (λ_:List Int×Unit=>true) (λx:List Int×Unit=>X4 x.1):=ZB.ofPure h3b λ⟨l,_⟩ h=>⟨by show(nums l).all PV.isNum;simp,by show Ze _ (.tup [.int .i64 (X4 ((nums l).map PV.asInt)).1,.int .i64 (X4 ((nums l).map PV.asInt)).2]);rw[Wu];exact Zt (x:=X4 l) rfl⟩
def e8d:ZB prog 124 (λx:List Int×Unit=>decide (x.1.length<=2000000)) (λx:List Int×Unit=>x.1):=d3r (α:=Int) (by decide) (e7r i8e (by decide))
def b5i:ZB prog 159 (λ_:Str×Int×Unit=>true) (λx:Str×Int×Unit=>Vx x.1 x.2.1):=dq g7a Zd func159
def i8w:YP prog 158 Eo b2f:=Dp (T:=e8u) (ic:=c8j) (rs:=d2e) (tq func159 b5i Zd) KP func158 (by kernel_rfl) (by kernel_rfl) (by kernel_rfl) h2g
def i0n:YP prog 135 QT Ef:=Dp (T:=a4c) (ic:=Rt) (rs:=TW) (tq func158 i8w Zd) KP func135 (by kernel_rfl) (by kernel_rfl) (by kernel_rfl) g9k
def i4x:YP prog 109 QT b6o:=Dp (T:=e8r) (ic:=d4u) (rs:=c7k) (tq func135 i0n Zd) KP func109 (by kernel_rfl) (by kernel_rfl) (by kernel_rfl) h5s
def c3u:ZB prog 123 (λx:Str×List Int×Unit=>decide (x.2.1.length<=2000000)) (λx:Str×List Int×Unit=>x.2.1.all (Vx x.1)):=dq b2a (tq func109 i4x Zd) func123
def e2m:ZB prog 92 (λx:Str×List Int×List Int×Unit=>decide (x.2.1.length<=2000000)&&decide (x.2.2.1.length<=2000000)) (λx:Str×List Int×List Int×Unit=>BC x.1 x.2.1 x.2.2.1):=dq g4i (tq func122 f9g (tq func123 c3u (tq func124 e8d Zd))) func92
def NJ:ZB prog 60 (λx:Arr×Unit=>Dr x.1) (λx:Arr×Unit=>Jz x.1):=dq g9i (tq func92 e2m Zd) func60
def c3m:ZB prog 44 (λx:Tm×Unit=>nW x.1) (λx:Tm×Unit=>PL x.1):=dq e7w (tq func47 KA (tq func72 P9 (tq func73 a0k (tq func60 NJ (tq func74 c5a (tq func75 BB Zd)))))) func44
def g4x:YP prog 43 SX (b6e 70):=Dp (T:=d3g) (ic:=b1h) (rs:=b5d) Zd KP func43 (by kernel_rfl) (by kernel_rfl) (by kernel_rfl) f3i
def e6g{cd:Code}(h:Nu prog a5j f24 0=some cd):CB prog cd=some (.t 7,[8,9],a1y,a4d):=by
 have:(Nu prog a5j f24 0).bind (CB prog)=some (.t 7,[8,9],a1y,a4d):=by kernel_rfl
 rw[h]at this;exact this
def g9a(e:Xa prog TA): ∀ (B:Nat) (c:Ctx),c.w0.heap.size=B->(∀ i m,0<=i->c.μ0 i m=none)->h2k (FJ B 4 e KP) (λn cd=>Nu prog a5j f24 n=some cd) tvE c:=by rintro B c j g n cd b st a w q hr ⟨rfl,h⟩;exact a7u e KP b9u (λx=>by obtain⟨t,l⟩:=x;rfl) (e6g b) j g hr h
def d7n:Xa prog TA:=(tq func43 g4x (tq func44 c3m Zd))
def a5q:ZB prog 24 (λx:Tm×Unit=>gW x.1) (λx:Tm×Unit=>XB x.1):=ZB.ofM (T:=TA) (ic:=FB) (rs:=TP) (E:=tvE) (sel:=a5j) d7n KP func24 (by kernel_rfl) (by kernel_rfl) (by kernel_rfl) (g9a d7n) h0v
def e9l:W9 prog 83 Ev O6:=SS (T:=c5v) (ic:=b5j) (rs:=b6l) Zd KP func83 (by kernel_rfl) (by kernel_rfl) (by kernel_rfl) λps h=>h0b (f5m ps h)
def h5b:ZB prog 51 (λ_:Str×Bool×Unit=>true) (λx:Str×Bool×Unit=>Wi x.1 x.2.1):=dq f2t (tq func83 e9l Zd) func51
def b3s:ZB prog 192 (λ_:UInt8×Unit=>true) (λx:UInt8×Unit=>digB x.1):=dq e9f Zd func192
def a5g:ZB prog 193 (λ_:UInt8×Unit=>true) (λx:UInt8×Unit=>lowB x.1):=dq f4i Zd func193
def NY:ZB prog 169 (λ_:Int×Unit=>true) (λx:Int×Unit=>Yq x.1):=dq c7z Zd func169
def b8o:ZB prog 170 (λ_:Str×Unit=>true) (λx:Str×Unit=>nameB x.1):=dq e5j (tq func192 b3s (tq func193 a5g Zd)) func170
def Uw:ZB prog 132 (λx:Lin×Unit=>XD x.1) (λx:Lin×Unit=>Zf x.1):=dq d1x (tq func169 NY (tq func170 b8o Zd)) func132
def d2b:ZB prog 189 (λ_:Str×Unit=>true) (λx:Str×Unit=>(⟨0,[⟨x.1,1⟩]⟩:Lin)):=dq g7j Zd func189
def f1z:YP prog 201 DZ Db:=Dp (T:=YQ) (ic:=Yu) (rs:=Yo) Zd KP func201 (by kernel_rfl) (by kernel_rfl) (by kernel_rfl) e4l
def g1y:YP prog 201 DI S9:=e5s f1z
def e4i:YP prog 191 Cz Sw:=Dp (T:=KO) (ic:=Ql) (rs:=Qk) (tq func201 g1y Zd) KP func191 (by kernel_rfl) (by kernel_rfl) (by kernel_rfl) d0d
def CX:ZB prog 191 (λx:Lin×Lin×Int×Unit=>decide (x.1.t.length<=500000)&&decide (x.2.1.t.length<=500000)) (λx:Lin×Lin×Int×Unit=>Yf x.1 x.2.1 x.2.2.1):=c8q e4i
def J4:ZB prog 190 (λx:Lin×Unit=>XD x.1) (λx:Lin×Unit=>HY x.1):=dq b2r (tq func132 Uw Zd) func190
def d0e:ZB prog 164 (λx:Lin×Lin×Unit=>Ye x.1&&Ye x.2.1) (λx:Lin×Lin×Unit=>Zi x.1 x.2.1 (1)):=dq e2u (tq func132 Uw (tq func191 CX (tq func190 J4 Zd))) func164
def d1e:ZB prog 163 (λx:Lin×Lin×Unit=>Ye x.1&&Ye x.2.1) (λx:Lin×Lin×Unit=>Zi x.1 x.2.1 (-1)):=dq e6c (tq func132 Uw (tq func191 CX (tq func190 J4 Zd))) func163
def b1m:ZB prog 188 (λx:Lin×Int×Unit=>Ye x.1) (λx:Lin×Int×Unit=>X0 x.1 x.2.1):=dq b9t (tq func132 Uw (tq func169 NY (tq func191 CX (tq func190 J4 Zd)))) func188
def f0k:W9 prog 166 Dw X3:=SS (T:=XN) (ic:=Xl) (rs:=Xm) Zd KP func166 (by kernel_rfl) (by kernel_rfl) (by kernel_rfl) e6x
def e7h:ZB prog 166 (λ_:List Int×Unit=>true) (λx:List Int×Unit=>X4 x.1):=ZB.ofPure f0k λ⟨l,_⟩ h=>⟨by show(nums l).all PV.isNum;simp,by show Ze _ (.tup [.int .i64 (X4 ((nums l).map PV.asInt)).1,.int .i64 (X4 ((nums l).map PV.asInt)).2]);rw[Wu];exact Zt (x:=X4 l) rfl⟩
def e7s:ZB prog 168 (λx:List Int×Unit=>decide (x.1.length<=2000000)) (λx:List Int×Unit=>x.1):=dq e6j Zd func168
def a5z:ZB prog 167 (λ_:Str×Int×Unit=>true) (λx:Str×Int×Unit=>Vx x.1 x.2.1):=dq g1p Zd func167
def d2j:ZB prog 131 (λx:Str×List Int×List Int×Unit=>decide (x.2.1.length<=2000000)&&decide (x.2.2.1.length<=2000000)) (λx:Str×List Int×List Int×Unit=>BC x.1 x.2.1 x.2.2.1):=dq e7n (tq func166 e7h (tq func167 a5z (tq func168 e7s Zd))) func131
def a5o:ZB prog 104 (λx:Arr×Unit=>Dr x.1) (λx:Arr×Unit=>Jz x.1):=dq f4p (tq func131 d2j Zd) func104
def PY:ZB prog 94 (λ_:UInt8×Unit=>true) (λx:UInt8×Unit=>lowB x.1):=dq d4j Zd func94
def Bb:ZB prog 95 (λ_:UInt8×Unit=>true) (λx:UInt8×Unit=>digB x.1):=dq d1d Zd func95
def Bo:ZB prog 96 (λ_:Str×Unit=>true) (λx:Str×Unit=>Qa.contains x.1.s):=dq f4g Zd func96
def Kz:ZB prog 97 (λx:Str×Unit=>decide (x.1.s.length<=1048576)) (λx:Str×Unit=>nameI x.1.s):=dq e5n (tq func94 PY (tq func95 Bb (tq func96 Bo Zd))) func97
def a5r:ZB prog 133 (λx:Str×Unit=>decide (x.1.s.length<=1048576)) (λx:Str×Unit=>fullI x.1.s):=dq e3a (tq func97 Kz Zd) func133
def O3:ZB prog 106 (λx:Str×Unit=>decide (x.1.s.length<=1048576)) (λx:Str×Unit=>Mm x.1.s):=dq f9q (tq func97 Kz (tq func133 a5r Zd)) func106
def b2p:ZB prog 103 (λx:Tm×Bool×Bool×Bool×Bool×Bool×Unit=>nW x.1) (λx:Tm×Bool×Bool×Bool×Bool×Bool×Unit=>YZ x.1.nd x.2.1 x.2.2.1 x.2.2.2.1 x.2.2.2.2.1 x.2.2.2.2.2.1):=dq c8p Zd func103
def a5k:ZB prog 105 (λx:List Lin×Unit=>decide (x.1.length<=1048576)&&x.1.all XD) (λx:List Lin×Unit=>x.1.all Zf):=dq g4y (tq func132 Uw Zd) func105
def c0y:ZB prog 69 (λx:Tm×Unit=>nW x.1) (λx:Tm×Unit=>PL x.1):=dq e8b (tq func97 Kz (tq func103 b2p (tq func106 O3 (tq func105 a5k (tq func104 a5o Zd))))) func69
def d1n:ZB prog 42 (λx:Tm×Unit=>gW x.1) (λx:Tm×Unit=>XH x.1):=ZB.rec (λa=>Yt a.1) λN b=>dq (f1y N) (tq func42 b (tq func69 c0y Zd)) func42
def TC:ZB prog 15 (λx:Tm×Unit=>gW x.1) (λx:Tm×Unit=>(Yt x.1:Int)):=ZB.rec (λa=>Yt a.1) λN b=>dq (f6k N) (tq func15 b Zd) func15
def Nr:ZB prog 16 (λx:Tm×Unit=>gW x.1) (λx:Tm×Unit=>(Yh x.1:Int)):=ZB.rec (λa=>Yt a.1) λN b=>dq (e7j N) (tq func16 b Zd) func16
def a5m:ZB prog 21 (λx:Tm×Unit=>gW x.1) (λx:Tm×Unit=>XB x.1):=dq c7d (tq func16 Nr (tq func15 TC (tq func42 d1n Zd))) func21
def OX:ZB prog 102 (λ_:Str×Bool×Unit=>true) (λx:Str×Bool×Unit=>Wi x.1 x.2.1):=dq f5w Zd func102
def TM:ZB prog 98 (λx:Str×Unit=>decide (x.1.s.length<=1048576)) (λx:Str×Unit=>Vp x.1):=dq h2h (tq func95 Bb Zd) func98
def EW:ZB prog 99 (λx:Str×Unit=>decide (x.1.s.length<=1048576)) (λx:Str×Unit=>(WC WE x.1.s).2):=dq g6r Zd func99
def b3p:ZB prog 64 (λx:Str×Unit=>decide (x.1.s.length<=1048576)&& !x.1.s.isEmpty) (λx:Str×Unit=>(⟨(ZI x.1).1,(ZI x.1).2,0,0⟩:Tok)):=dq g6h (tq func94 PY (tq func95 Bb (tq func96 Bo (tq func97 Kz (tq func98 TM (tq func99 EW Zd)))))) func64
def b5u:ZB prog 63 (λx:Str×Int×Unit=>decide (x.1.s.length<=1048576)&&(decide (0<=x.2.1)&&decide (x.2.1<=x.1.s.length))) (λx:Str×Int×Unit=>((Z0 (x.1.s.length+1) x.1.s x.2.1.toNat:Nat):Int)):=dq g9x Zd func63
def b7m:ZB prog 36 (λx:Str×Unit=>decide (x.1.s.length<=1048576)) (λx:Str×Unit=>Us x.1):=dq h2m (tq func63 b5u (tq func64 b3p Zd)) func36
def a3e: Yy prog 65 ZG Xv [] [] (λ(s:RS) (_:Str×Unit)=>Zo s) e5z:=dqS (h6q) ZQ Zd func65
def Wp: Yy prog 38 ZG Xv [] [] (λ(s:RS) (_:Str×Unit)=>Zo s) Ap:=dqS (h0t) ZQ (tq func65 a3e Zd) func38
def Kq: Yy prog 41 ZG Xv [] [] (λ(s:RS) (_:Str×Unit)=>Zo s) Rw:=dqS (h3y) ZQ (tq func38 Wp Zd) func41
def U0: Yy prog 68 ZG Xv [] [] (λ(s:RS) (_:Int×Unit)=>Zo s) Fq:=dqS (h3a) ZQ Zd func68
def CJ: Yy prog 37 ZG Xv [] [] (λ(s:RS) (_:Unit)=>Zo s) LA:=dqS (g6y) ZQ Zd func37
def Pk: Yy prog 40 ZG Xv [] [] (λ(s:RS) (_:Unit)=>Zo s) Lc:=dqS (h3k) ZQ (tq func68 U0 Zd) func40
def QI: Yy prog 100 ZG Xv [] [] (λ(s:RS) (_:Int×Unit)=>Zo s) a7f:=dqS (h1n) ZQ (tq func68 U0 (tq func98 TM Zd)) func100
def TG: Yy prog 165 mkC unC [] [] (λ(s:RS) (a:Bool×Lin×Int×Unit)=>Zo s&&(Ye a.2.1&&(!a.1||a.2.1.t.isEmpty))) a0l:=dqS (h6i) d2y (tq func132 Uw Zd) func165
def c9w: Yy prog 162 ZG Xv [] [] (λ(s:RS) (_:Unit)=>Zo s) M3:=dqS (g8w) ZQ (tq func68 U0 (tq func100 QI (tq func165 TG (tq func40 Pk (tq func189 d2b (tq func188 b1m Zd)))))) func162
def a0w: Yy prog 129 ZG Xv [] [] (λ(s:RS) (_:Unit)=>Zo s) FC:=dqS (g7h) ZQ (tq func38 Wp (tq func162 c9w (tq func163 d1e (tq func164 d0e (tq func165 TG Zd))))) func129
def b7z: Yy prog 161 ZG Xv [] [] (λ(s:RS) (_:Unit)=>Zo s) Ti:=dqS (h4b) ZQ (tq func129 a0w (tq func38 Wp Zd)) func161
def Ac: Yy prog 160 ZG Xv [] [] (λ(s:RS) (_:Unit)=>Zo s) Lv:=dqS (g8c) ZQ (tq func40 Pk (tq func38 Wp Zd)) func160
def a4v: Yy prog 67 ZG Xv [] [] (λ(s:RS) (_:Int×Unit)=>Zo s) M4:=dqS (g8m) ZQ (tq func68 U0 (tq func102 OX Zd)) func67
def EQ: Yy prog 128 ZG Xv [] [] (λ(s:RS) (_:Int×Unit)=>Zo s) a9n:=dqS (h0n) ZQ (tq func68 U0 (tq func41 Kq (tq func100 QI (tq func65 a3e (tq func38 Wp Zd))))) func128
def e3s{N:Nat}(a:Yy prog 19 ZG Xv [] [] (λ(s:RS) (_:Unit)=>Zo s&&decide (s.l.length - s.i<N)) (Qp N)):Yy prog 127 ZG Xv [] [] (λ(s:RS) (_:Str×Unit)=>Zo s&&decide (s.l.length - s.i<N)) (Cj N):=dqS ((h4s N)) ZQ (tq func19 a (tq func38 Wp (tq func41 Kq Zd))) func127
def e3h{N:Nat}(a:Yy prog 127 ZG Xv [] [] (λ(s:RS) (_:Str×Unit)=>Zo s&&decide (s.l.length - s.i<N)) (Cj N)):Yy prog 126 ZG Xv [] [] (λ(s:RS) (_:Int×Unit)=>(Zo s&&decide (s.l.length - s.i<N+1))&&s.kind 1) (Rc N):=dqS ((g8f N)) ZQ (tq func160 Ac (tq func65 a3e (tq func38 Wp (tq func161 b7z (tq func41 Kq (tq func100 QI (tq func127 a Zd))))))) func126
def e2v{N:Nat}(a:Yy prog 19 ZG Xv [] [] (λ(s:RS) (_:Unit)=>Zo s&&decide (s.l.length - s.i<N)) (Qp N)):Yy prog 130 ZG Xv [] [] (λ(s:RS) (_:Int×Unit)=>Zo s&&decide (s.l.length - s.i<N+1)) (Pe N):=dqS ((g6w N)) ZQ (tq func38 Wp (tq func41 Kq (tq func160 Ac (tq func19 a Zd)))) func130
def e7x{N:Nat}(b:Yy prog 19 ZG Xv [] [] (λ(s:RS) (_:Unit)=>Zo s&&decide (s.l.length - s.i<N)) (Qp N))(a:Yy prog 127 ZG Xv [] [] (λ(s:RS) (_:Str×Unit)=>Zo s&&decide (s.l.length - s.i<N)) (Cj N))(hc:Yy prog 126 ZG Xv [] [] (λ(s:RS) (_:Int×Unit)=>(Zo s&&decide (s.l.length - s.i<N+1))&&s.kind 1) (Rc N))(ho:Yy prog 130 ZG Xv [] [] (λ(s:RS) (_:Int×Unit)=>Zo s&&decide (s.l.length - s.i<N+1)) (Pe N)):Yy prog 101 ZG Xv [] [] (λ(s:RS) (_:Unit)=>Zo s&&decide (s.l.length - s.i<N+1)) (Pi N):=dqS ((h1p N)) ZQ (tq func37 CJ (tq func68 U0 (tq func100 QI (tq func38 Wp (tq func126 hc (tq func19 b (tq func41 Kq (tq func127 a (tq func128 EQ (tq func129 a0w (tq func130 ho Zd))))))))))) func101
def e3r{N:Nat}(hu:Yy prog 66 ZG Xv [] [] (λ(s:RS) (_:Unit)=>Zo s&&decide (s.l.length - s.i<N)) (OW N))(a:Yy prog 101 ZG Xv [] [] (λ(s:RS) (_:Unit)=>Zo s&&decide (s.l.length - s.i<N+1)) (Pi N)):Yy prog 66 ZG Xv [] [] (λ(s:RS) (_:Unit)=>Zo s&&decide (s.l.length - s.i<N+1)) (OW (N+1)):=dqS ((g8t N)) ZQ (tq func37 CJ (tq func38 Wp (tq func68 U0 (tq func100 QI (tq func66 hu (tq func101 a Zd)))))) func66
def a2f{N:Nat}(b:Yy prog 66 ZG Xv [] [] (λ(s:RS) (_:Unit)=>Zo s&&decide (s.l.length - s.i<N+1)) (OW (N+1))): ∀ m:Nat,Yy prog 39 ZG Xv [] [] (λ(s:RS) (a:Int×Unit)=>(Zo s&&decide (s.l.length - s.i<N+1))&&(decide (1<=a.1)&&(decide ((6 - (m:Int))<a.1)&&decide (a.1<=6)))) (QB (N+1))
 | 0=>Yy.none (λs a=>by
   rw[Bool.eq_false_iff];intro h;simp only[Ib,fu]at h
   omega)
 | m+1=>by have e:=a2f b m;rw[show(6 - ((m+1:Nat):Int))=6 - (m:Int) - 1 by omega];exact dqS (g7u N (6 - (m:Int))) ZQ (tq func37 CJ (tq func39 e (tq func66 b (tq func67 a4v Zd)))) func39
def e6k{N:Nat}(b:Yy prog 66 ZG Xv [] [] (λ(s:RS) (_:Unit)=>Zo s&&decide (s.l.length - s.i<N+1)) (OW (N+1))):Yy prog 39 ZG Xv [] [] (λ(s:RS) (a:Int×Unit)=>(Zo s&&decide (s.l.length - s.i<N+1))&&(decide (1<=a.1)&&decide (a.1<=6))) (QB (N+1)):=Yy.weaken ZQ (a2f b 6) (λs a h=>by
  simp only[Ib,fu]at h ⊢
  exact⟨h.1,h.2.1,by have:=h.2.1;show(6:Int) - 6<_;omega,h.2.2⟩) (λ_ _ _=>rfl)
def e4d{N:Nat}(b:Yy prog 19 ZG Xv [] [] (λ(s:RS) (_:Unit)=>Zo s&&decide (s.l.length - s.i<N)) (Qp N))(hb:Yy prog 39 ZG Xv [] [] (λ(s:RS) (a:Int×Unit)=>(Zo s&&decide (s.l.length - s.i<N+1))&&(decide (1<=a.1)&&decide (a.1<=6))) (QB (N+1))):Yy prog 19 ZG Xv [] [] (λ(s:RS) (_:Unit)=>Zo s&&decide (s.l.length - s.i<N+1)) (Qp (N+1)):=dqS (g6p N) ZQ (tq func37 CJ (tq func38 Wp (tq func39 hb (tq func40 Pk (tq func41 Kq (tq func19 b Zd)))))) func19
def d5i: ∀ N:Nat,Yy prog 19 ZG Xv [] [] (λ(s:RS) (_:Unit)=>Zo s&&decide (s.l.length - s.i<N)) (Qp N)∧Yy prog 66 ZG Xv [] [] (λ(s:RS) (_:Unit)=>Zo s&&decide (s.l.length - s.i<N)) (OW N)
 | 0=>⟨Yy.none (λs a=>by simp),Yy.none (λs a=>by simp)⟩
 | N+1=>by obtain⟨e,hu⟩:=d5i N;have g:=e3s e;have b:=e3r hu (e7x e g (e3h g) (e2v e));exact⟨e4d e (e6k b),b⟩
def d1y:Yy prog 19 ZG Xv [] [] (λ(s:RS) (_:Unit)=>Zo s) Et:=Yy.weaken ZQ (d5i 4001).1 (λs a h=>by
  have h0:=(ZO h).1;rw[h]
  exact eY (by omega)) (λ_ _ _=>rfl)
def e4j: Yy prog 20 ZG Xv [] [] (λ(s:RS) (a:Str×Unit)=>Zo s&&decide (a.1.s.length<=1048576)) a9r:=dqS (h6v) ZQ Zd func20
def i8l:YP prog 18 L8 b5k:=Dp (T:=d9u) (ic:=b6t) (rs:=b0s) (tq func36 b7m Zd) KP func18 (by kernel_rfl) (by kernel_rfl) (by kernel_rfl) h4p
def b2j:ZB prog 8 (λx:Str×Unit=>decide (x.1.s.length<=1048576)) (λx:Str×Unit=>XT x.1):=dq h0j (tq func18 i8l (tq func19 d1y (tq func20 e4j (tq func21 a5m Zd)))) func8
def e4r:ZB prog 22 (λx:List Int×List Int×Unit=>decide (x.1.length<=1048576)) (λx:List Int×List Int×Unit=>decide (x.1=x.2.1)):=dq g6n Zd func22
def e4s:ZB prog 23 (λx:Lin×Lin×Unit=>decide (x.1.t.length<=1048576)) (λx:Lin×Lin×Unit=>decide (x.1=x.2.1)):=dq h3o Zd func23
def b5n:ZB prog 9 (λx:Tm×Tm×Unit=>tW x.1&&tW x.2.1) (λx:Tm×Tm×Unit=>eqM x.1 x.2.1):=ZB.rec (λa=>Yt a.1) λN b=>dq (g6u N) (tq func22 e4r (tq func23 e4s (tq func9 b Zd))) func9
def a5p:ZB prog 8 (λx:Str×Unit=>decide (x.1.s.length<=1048576)) (λx:Str×Unit=>r3S (XT x.1)):=b2j.encEq λa=>g7k _
def b3y:ZB prog 24 (λx:Tm×Unit=>tW x.1) (λx:Tm×Unit=>XB x.1):=ZB.weaken a5q (λ_ h=>e1f h) (λ_ _=>rfl)
def b6w:ZB prog 15 (λx:Tm×Unit=>tW x.1) (λx:Tm×Unit=>(Yt x.1:Int)):=ZB.weaken TC (λ_ h=>e1f h) (λ_ _=>rfl)
def c3i:ZB prog 16 (λx:Tm×Unit=>tW x.1) (λx:Tm×Unit=>(Yh x.1:Int)):=ZB.weaken Nr (λ_ h=>e1f h) (λ_ _=>rfl)
def g8j:YP prog 58 Uj N7:=Dp (T:=d3n) (ic:=b4a) (rs:=b3o) (tq func52 G9 (tq func59 a4f Zd)) KP func58 (by kernel_rfl) (by kernel_rfl) (by kernel_rfl) g1w
def F4:ZB prog 34 (λx:Lin×Unit=>Ye x.1) (λx:Lin×Unit=>(⟨YD x.1⟩:Str)):=dq c8o (tq func57 b2m (tq func58 g8j Zd)) func34
def i1c:YP prog 49 EE (b1s 82):=Dp (T:=g5e) (ic:=d3h) (rs:=d0w) Zd KP func49 (by kernel_rfl) (by kernel_rfl) (by kernel_rfl) g9u
def e3f{cd:Code}(h:Nu prog a5j f26 0=some cd):CB prog cd=some (.t 11,[12,13],a0j,U2):=by
 have:(Nu prog a5j f26 0).bind (CB prog)=some (.t 11,[12,13],a0j,U2):=by kernel_rfl
 rw[h]at this;exact this
def g9b(e:Xa prog Nv): ∀ (B:Nat) (c:Ctx),c.w0.heap.size=B->(∀ i m,0<=i->c.μ0 i m=none)->h2k (FJ B 4 e KP) (λn cd=>Nu prog a5j f26 n=some cd) tdE c:=by rintro B c j g n cd b st a w q hr ⟨rfl,h⟩;exact a7u e KP b9u (λx=>by obtain⟨t,l⟩:=x;rfl) (e3f b) j g hr h
def d9n:Xa prog Nv:=(tq func43 g4x (tq func49 i1c (tq func48 j4h Zd)))
def c4o:ZB prog 26 (λx:Tm×Unit=>tW x.1) (λx:Tm×Unit=>KE x.1):=ZB.ofM (T:=Nv) (ic:=a1l) (rs:=Ld) (E:=tdE) (sel:=a5j) d9n KP func26 (by kernel_rfl) (by kernel_rfl) (by kernel_rfl) (g9b d9n) g8g
def d4l:ZB prog 46 (λx:Str×Unit=>decide (x.1.s.length<=1048576)) (λx:Str×Unit=> !(nameI x.1.s)):=dq g0r (tq func47 KA Zd) func46
def h4t:ZB prog 76 (λx:List Str×FnV 46×Unit=>Jl x.1) (λx:List Str×FnV 46×Unit=>WZ (λs:Str=> !(nameI s.s)) x.1):=dq h1q (tq func46 d4l Zd) func76
def h6k:ZB prog 45 (λx:List Str×FnV 46×Unit=>Jl x.1) (λx:List Str×FnV 46×Unit=>x.1.any λs:Str=> !(nameI s.s)):=dq g6f (tq func76 h4t Zd) func45
def b1p:ZB prog 25 (λx:List Str×Unit=>Jl x.1) (λx:List Str×Unit=>x.1.all λs:Str=>nameI s.s):=dq d4v (tq func45 h6k Zd) func25
def Mt:ZB prog 12 (λx:Tm×Unit=>tW x.1) (λx:Tm×Unit=>VY x.1):=dq d2q (tq func24 b3y (tq func26 c4o (tq func25 b1p Zd))) func12
def a0i:ZB prog 13 (λ_:Str×Unit=>true) (λx:Str×Unit=>a5f x.1):=dq g3f Zd func13
def h4k:ZB prog 50 (λ_:Str×Unit=>true) (λx:Str×Unit=>c6o x.1):=dq g3u (tq func83 e9l Zd) func50
def a6g:ZB prog 27 (λx:Tm×Unit=>tW x.1) (λx:Tm×Unit=>BF x.1):=dq h3h (tq func50 h4k Zd) func27
def b3a:ZB prog 29 (λx:Tm×Unit=>tW x.1) (λx:Tm×Unit=>YX x.1):=dq g1t (tq func27 a6g (tq func51 h5b Zd)) func29
def Ky:ZB prog 33 (λx:List Str×Unit=>V9 x.1) (λx:List Str×Unit=>WI x.1):=dq e2q (tq func56 g1f Zd) func33
def h6x:ZB prog 54 (λx:List Lin×FnV 34×Unit=>decide (x.1.length<=1048576)&&x.1.all Zf) (λx:List Lin×FnV 34×Unit=>WI (x.1.map XU)):=dq g5g (tq func34 F4 (tq func33 Ky Zd)) func54
def g8o:ZB prog 55 (λx:List Int×FnV 52×Unit=>decide (x.1.length<=1048576)&&V4 x.1) (λx:List Int×FnV 52×Unit=>WI (x.1.map Yw)):=dq f0r (tq func52 G9 (tq func33 Ky Zd)) func55
def d0x:ZB prog 30 (λx:Tm×Unit=>Jn x.1.nd) (λx:Tm×Unit=>b8n x.1.nd):=dq g4o (tq func52 G9 (tq func53 i8j Zd)) func30
def a5u:YP prog 93 (K3 5) LM:=Dp (T:=f5y) (ic:=d4x) (rs:=c6q) (tq func125 a4y Zd) KP func93 (by kernel_rfl) (by kernel_rfl) (by kernel_rfl) h5l
def b2u:YP prog 62 (K3 5) LM:=Dp (T:=f5l) (ic:=d0f) (rs:=d4c) (tq func93 a5u Zd) KP func62 (by kernel_rfl) (by kernel_rfl) (by kernel_rfl) h0s
def i0y:YP prog 61 (Bg 5) b5w:=Dp (T:=g3g) (ic:=d4b) (rs:=d4f) (tq func62 b2u Zd) KP func61 (by kernel_rfl) (by kernel_rfl) (by kernel_rfl) h1i
def b2b:ZB prog 35 (λx:Arr×Unit=>Dr x.1&&Jz x.1) (λx:Arr×Unit=>b5r x.1):=dq c8k (tq func60 NJ (tq func61 i0y Zd)) func35
def e8j{N:Nat}(a:ZB prog 14 (λx:Tm×Unit=>(tW x.1&&XH x.1)&&decide (Yt x.1<N)) (λx:Tm×Unit=>ZV x.1)):YP prog 28 (Qs N) b4n:=Dp (T:=d2a N) (ic:=b1j) (rs:=b0i) (tq func14 a Zd) KP func28 (by kernel_rfl) (by kernel_rfl) (by kernel_rfl) (f5t N)
def a7p{N:Nat}(a:ZB prog 14 (λx:Tm×Unit=>(tW x.1&&XH x.1)&&decide (Yt x.1<N)) (λx:Tm×Unit=>ZV x.1)):ZB prog 32 (λx:List Tm×FnV 14×Unit=>(tsW x.1&&QA x.1)&&decide (YO x.1<N)) (λx:List Tm×FnV 14×Unit=>WI (x.1.map ZV)):=dq (f8y N) (tq func14 a (tq func33 Ky Zd)) func32
def d4a{N:Nat}(a:ZB prog 14 (λx:Tm×Unit=>(tW x.1&&XH x.1)&&decide (Yt x.1<N)) (λx:Tm×Unit=>ZV x.1)):ZB prog 31 (λx:Tm×Unit=>(tW x.1&&XH x.1&&decide (x.1.nd.kind=6))&&decide (YO x.1.ks<N)) (λx:Tm×Unit=>a0n x.1):=dq (e2l N) (tq func54 h6x (tq func52 G9 (tq func55 g8o (tq func32 (a7p a) Zd)))) func31
def c1y:ZB prog 14 (λx:Tm×Unit=>tW x.1&&XH x.1) (λx:Tm×Unit=>ZV x.1):=ZB.rec (λa=>Yt a.1) λN b=>dq (e8i N) (tq func27 a6g (tq func29 b3a (tq func28 (e8j b) (tq func14 b (tq func30 d0x (tq func31 (d4a b) (tq func32 (a7p b) (tq func33 Ky (tq func34 F4 (tq func35 b2b Zd)))))))))) func14
def Oc:ZB prog 5 (λx:Tm×Unit=>tW x.1) (λx:Tm×Unit=>Qj x.1):=dq e6a (tq func12 Mt (tq func13 a0i (tq func14 c1y Zd))) func5
def OT:ZB prog 17 (λx:Tm×Unit=>tW x.1) (λx:Tm×Unit=>Vl x.1):=ZB.rec (λa=>Yt a.1) λN b=>dq (f9o N) (tq func17 b Zd) func17
def d4o:ZB prog 6 (λx:Tm×Int×Unit=>tW x.1) (λx:Tm×Int×Unit=>Nw x.1 x.2.1):=dq g4u (tq func15 b6w (tq func16 c3i (tq func17 OT Zd))) func6
def f5i:ZB prog 11 (λ_:Str×Unit=>true) (λx:Str×Unit=>vT x.1):=dq i3l Zd func11
def c1n:ZB prog 10 (λ_:Str×List Tm×Unit=>true) (λx:Str×List Tm×Unit=>cT x.1 x.2.1):=dq e4u Zd func10
def b6f:ZB prog 4 (λ_:Unit=>true) (λ_:Unit=>true):=dq c9q (tq func11 f5i (tq func10 c1n (tq func5 Oc Zd))) func4
def a0c:ZB prog 7 (λx:Str×Int×Unit=>decide (0<=x.2.1)&&(decide (x.2.1<=x.1.s.length)&&decide (x.1.s.length<=1048576))) (λx:Str×Int×Unit=>a7e x.1.s x.2.1.toNat):=dq h3m Zd func7
def a5h:ZB prog 3 (λx:Tm×Unit=>tW x.1) (λ_:Tm×Unit=>true):=dq h6g (tq func4 b6f (tq func5 Oc (tq func6 d4o (tq func7 a0c (tq func8 a5p (tq func9 b5n Zd)))))) func3
end Go.Proofs.YtbpdlcdciffpjaaGreatDoor
