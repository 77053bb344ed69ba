/-
  Texts of mine that belong together (packed by pack.py), for every input: Post, LaidZ, PlGb, OpYa, ShV, Sh, ShB, ShN, ShW, Cl, OkYa.
-/
import Derived.Test.YtjndoclcicfbcaaGreatDoorChecked
import Derived.Test.YtjndoclcicfbcaaGreatDoorRows
import Derived.Test.YtjndoclcicfbcaaGreatDoorKX2
import Derived.Test.YtjndoclcicfbcaaGreatDoorKX3
import Derived.Test.YtjndoclcicfbcaaGreatDoorKX4
import Derived.Test.YtjndoclcicfbcaaGreatDoorKX5
import Derived.Test.YtjndoclcicfbcaaGreatDoorKX6
import Derived.Below
import Derived.ChangeSame
import Derived.Stop.LaidErr
import Derived.Lib.LaidTab
import Derived.Shelf.Vars
import Derived.KernelRfl
import Derived.Shelf.Strings.Cut
import Derived.Shelf.Strings.Count
import Derived.Shelf.Small.Strs
import Derived.Shelf.Strconv.AtoiAll
import Derived.Shelf.Strconv.Itoa3
import Derived.Shelf.Strings.Prefix
import Derived.Shelf.Sort.Plain
import Derived.Shelf.Slices.In.SortNone
import Derived.Shelf.Strings.SlTrimAscii
import Derived.WalkKit
import Derived.Deep.LoopGhost
import Derived.Lib.Walk
import Derived.Lib.SliceRun
open Bool renaming and_eq_true->Ia,eq_false_iff->IB
open Go.DataW renaming trod->Ie,TrodAll->IQ
open Go.Lib renaming run_eql_slice_nil->Ih,index->Ij,atoiAll->IV,atoiSat->IW,TabIs->I9
open Go.Pl.ZM renaming none->Iu,weaken->Iz
open Go.Proofs.Any renaming strconv_Atoi_syntax->Ip,strconv_Atoi_range->Ir,strconv_Atoi_ok->Iy
open Go.Proofs.Lays renaming n145->I5,n137->I6,n138->I7,n190->I8,n99->aB
open Go.Shelf renaming Ren->Ib
open Go.Value renaming okWide->Il,cells->IE
open List renaming getElem?_eq_getElem->Cm,getElem_of_mem->Ii,getElem?_eq_some_iff->Ik,length_cons->Im,map_cons->Iw,getElem_mem->II,all_eq_true->IJ,headD_cons->IM,range->IY
open Nat renaming le_refl->Ic,zero_le->IU
open Option renaming bind_eq_some_iff->Ig,map_eq_some_iff->Iq,bind_some->IG
open Go.Proofs.Tryz
set_option linter.unusedVariables false
set_option linter.unusedSimpArgs false
set_option linter.defProp false
namespace Go.Proofs.YtjndoclcicfbcaaGreatDoor
open Go.RowKit Go.WideShapes Go.ChangeShapes
section
section
variable {H:Type} {enc:TypeId×Value->H} {P:Program}
theorem a4v{f:Func}{s:ChangeSpec}{apart fresh e q:Bool}{W W':World}{args:Array Value}{v:Value}{ds y:List (DataW H)}{a pa pv:List MemPlace}
  (B:DataW.Whole enc P f.params.toList s.vars apart W args.toList ds y a)
  (k : ∀ (b:Nat) (u:Nat->Bool) (hd:Bool),IQ enc P W' b u hd f.resultTypes.toList (v.resultList f.resultTypes.size) (s.fn H (ds++y)).results [])
  (g : ∀ u:Nat->Bool,(∀ p∈a,u p.block=true)->IQ enc P W' 0 u true f.params.toList args.toList (s.fn H (ds++y)).args pa)
  (i : ∀ u:Nat->Bool,(∀ p∈a,u p.block=true)->DataW.TrodVars enc P W' u s.vars (s.fn H (ds++y)).vars pv)
  (hps:a=pa++pv) (hb:Below W.heap.size W W')
  (C : ∀ (j:Nat) (t:TypeId) (r:Value),f.resultTypes[j]? = some t->(v.resultList f.resultTypes.size)[j]? = some r->Il P W' .any 0 t r) :
  s.post enc P f apart fresh e q W args v W':=by
 have A : ∀ p∈a,p.block<W.heap.size:=λp h=>B.lt p h
 have l : ∀ p∈a,(λb=>decide (b<W.heap.size)) p.block=true:=λp h=>by simpa using A p h
 refine⟨ds,y,a,[],pa,pv,B,k _ _ _,g _ l,i _ l,World.keptBut_mono (λp h=>⟨h,?_⟩) (hb.frame (· ∈ a)),λ_=> ?_⟩
 ·rw[hps,List.mem_append]at h;exact Or.inr h
 ·obtain⟨_,_,_,_,_,D,hn⟩:=B;refine⟨C,_,_,([]++pa)++pv,⟨[]++pa,pv,trodAll_append (g _ (λ_ _=>rfl)) (k _ _ _),i _ (λ_ _=>rfl),rfl,?_,?_⟩,?_⟩
  ·intro b off h;have z:MemPlace.cell b off∈a:=by rw[hps];simpa using h
   rw[hb.frozen (A _ z)];exact D b off z
  ·intro ha
   have:=hn ha;rw[hps]at this;simpa using this
  ·intro p h _;rw[hps];simpa using h
end
end
end Go.Proofs.YtjndoclcicfbcaaGreatDoor
namespace Go.Proofs.YtjndoclcicfbcaaGreatDoor
open Go.Pl Go.RowKit Go.ChangeShapes
set_option maxRecDepth 100000
def e0k{P:Program}{W:World}{n:String}{g:Nat}{cs:Array Value}(a:P.globalNamed n=some g)(h:W.var? P n=some cs):OW W g=some cs:=by unfold World.var? at h;rw[a]at h;simp only[IG]at h;unfold OW;exact h
def h6v:Tryz.prog.globalNamed "internal/strconv.uint64pow10" = some 5:=by kernel_rfl
def j2e:Tryz.prog.globalNamed "strconv.ErrRange" = some 2:=by kernel_rfl
def j2i:Tryz.prog.globalNamed "strconv.ErrSyntax" = some 1:=by kernel_rfl
def e3g:Tryz.prog.underlying 142=some (.interface ((match Tryz.prog.underlying 142 with|some (.interface ms)=>ms|_=>#[]))):=by kernel_rfl
def i4w{W:World}{r:List (String×DataW Unit)}(h:laidMet prog (("internal/strconv.uint64pow10",Rows.laid_internal_strconv_uint64pow10)::r) W):OW W 5=some a3b:=by
 have h1:I9 prog W "internal/strconv.uint64pow10" .u64 ((IY 20).map λi=>((10 ^ i:Nat):Int)):=Lib.tabIs_of_head (e:=200) (t:=235) h6v (by kernel_rfl) (n:=20) (by kernel_rfl) (by kernel_rfl) (by kernel_rfl) (by kernel_rfl) h
 exact(e0k h6v h1).trans rfl
def g4y{W:World}{n:String}{g:Nat}{text:List UInt8}{r:List (String×DataW Unit)}(hg:Tryz.prog.globalNamed n=some g)(ht:(Tryz.prog.globals[g]?).map (·.type)=some 142)(h:laidMet prog ((n,.iface "*errors.errorString" (.ptr (.agg [.lit (.string text)])))::r) W): ∃ cs,OW W g=some cs∧a3d cs:=by obtain⟨ps,⟨g0,t0,cs0,f0,p0,q0,hg0,ht0,hv0,hd0,_,e0⟩,_,hrows⟩:=h;obtain rfl:=Option.some.inj (hg.symm.trans hg0);obtain rfl:=Option.some.inj (ht.symm.trans ht0);subst e0;refine⟨cs0,e0k hg hv0,?_⟩;obtain⟨f1,u,v,e,_⟩:=iface_of_trod e3g hd0;obtain⟨l0⟩:=cs0;have e:l0=[.iface u v]:=e;subst e;exact⟨_,rfl,.inr ⟨u,v,rfl⟩⟩
def j1r{W:World}(h:W.ShapedOpen prog): ∃ cs m,OW W 0=some cs∧cs[0]? = some (Value.int .i64 m):=by
 obtain⟨m,hm⟩:=cell_of_shapedOpen_int (g:=0) (t:=3) (zero:=#[.int .i64 0]) (k:=.i64) h (of_decide_eq_true (by kernel_rfl)) (by kernel_rfl) rfl (by kernel_rfl) (by kernel_rfl) (by kernel_rfl);unfold World.cell? at hm;unfold OW;split at hm
 ·rename_i cs T fz a;exact⟨cs,m,by simp only[a],by simpa using hm⟩
 ·cases hm
def h1r{W:World}{x y z:String×DataW Unit}{r:List (String×DataW Unit)}(h:laidMet prog (x::y::("internal/strconv.uint64pow10",Rows.laid_internal_strconv_uint64pow10)::z::("strconv.ErrRange",Rows.laid_strconv_ErrRange)::("strconv.ErrSyntax",Rows.laid_strconv_ErrSyntax)::r) W)(hs:W.ShapedOpen prog):GlobOK (OW W):=⟨g4y j2i (by kernel_rfl) h.tail.tail.tail.tail.tail,g4y j2e (by kernel_rfl) h.tail.tail.tail.tail,i4w h.tail.tail,j1r hs⟩
noncomputable def j4z:DataW Unit->Value
 | .lit (.int k n)=>.int k n
 | _=>.int .i64 0
noncomputable def Ew:DataW Unit->Array Value
 | .agg ds=>(ds.flatMap λ| .agg es=>es.map j4z|d=>[j4z d]).toArray
 | _=>#[]
noncomputable def f8y:DataW Unit->ByteArray
 | .iface _ (.ptr (.agg [.lit (.string bs)]))=>⟨bs.toArray⟩
 | _=>⟨#[]⟩
noncomputable def low:Nat:=(World.holding prog default ⟨#[],#[],[]⟩).heap.size
noncomputable def c5z(cs:Array Value):Obj->Obj
 | .cells _ t frozen=>.cells cs t frozen
 | o=>o
noncomputable def Fu(os:Os):World:=
 let w0:=World.holding prog os ⟨#[.cells #[.string (f8y Rows.laid_strconv_ErrRange)] 215,.cells #[.string (f8y Rows.laid_strconv_ErrSyntax)] 215],#[],[]⟩
 {w0 with heap:=((((((w0.heap.modify 2 (c5z #[.iface 213 (.pointer (some ⟨low,0,none⟩))])).modify 1 (c5z #[.iface 213 (.pointer (some ⟨low+1,0,none⟩))])).modify 5 (c5z (Ew Rows.laid_internal_strconv_uint64pow10))).modify 6 (c5z (Ew Rows.laid_math_bits_deBruijn32tab))).modify 7 (c5z (Ew Rows.laid_math_bits_deBruijn64tab))).modify 4 (c5z (Ew Rows.laid_unicode_utf8_acceptRanges))).modify 3 (c5z (Ew Rows.laid_unicode_utf8_first))}
end Go.Proofs.YtjndoclcicfbcaaGreatDoor
namespace Go.Pl
open Go.RowKit Go.WideShapes Go.ChangeShapes
section
abbrev uB{H:Type}(d:DataW H):Nat:=Go.Proofs.YtjndoclcicfbcaaGreatDoor.Rows.uptoBulk d
abbrev uBs{H:Type}(l:List (DataW H)):Nat:=Go.Proofs.YtjndoclcicfbcaaGreatDoor.Rows.uptoBulkAll l
def c1e{H:Type}(d:DataW H)(l:List (DataW H)):uBs (d::l)=uB d+uBs l:=by unfold uBs uB;rw[Go.Proofs.YtjndoclcicfbcaaGreatDoor.Rows.uptoBulkAll]
def d2e{H:Type}(d:DataW H):1<=uB d:=by
 cases d with
 | lit l=>cases l <;> simp[uB,Go.Proofs.YtjndoclcicfbcaaGreatDoor.Rows.uptoBulk]
 | _=>simp[uB,Go.Proofs.YtjndoclcicfbcaaGreatDoor.Rows.uptoBulk]
mutual
def pvW:PV->Nat
 | .str s=>s.length+1
 | .sl _ _ xs=>UM xs+1
 | .agg xs=>UM xs
 | _=>1
def UM:List PV->Nat
 | []=>0
 | p::ps=>pvW p+UM ps
end
def f9g(a b:List PV):UM (a++b)=UM a+UM b:=by
 induction a with
 | nil=>simp[UM]
 | cons x a ih=>rw[List.cons_append,UM,ih,UM];omega
def i9g{P:Program}{e:TypeId}{q:List PV}(a:Ve P e=true∨P.cellsOf e=1)(b:q.length=P.cellsOf e):pvW (Eb P e q)<=UM q:=by
 cases ha:Ve P e with
 | true=>simp only[Eb,ha];rw[pvW];exact Ic _
 | false=>
  have h1:P.cellsOf e=1:=by simpa [ha]using a
  rw[h1]at b
  match q,b with
  | [x],_=>simp only[Eb,ha,IM];rw[UM,UM];exact Ic _
def d6g{H:Type}{f:List PV->PV}: ∀ {qs:List (List PV)} {xs:List (DataW H×List MemPlace)},qs.length=xs.length->(∀ (i:Nat) (q:List PV) (x:DataW H×List MemPlace),qs[i]? = some q->xs[i]? = some x->pvW (f q)<=uB x.1)->UM (qs.map f)<=uBs (xs.map (·.1))
 | [],[],_,_=>by simp[UM]
 | q::qs,x::xs,hl,h=>by
  have h0:=h 0 q x rfl rfl;have h1:=d6g (qs:=qs) (xs:=xs) (by simpa using hl) λi q x b a=>h (i+1) q x (by simpa using b) (by simpa using a)
  rw[Iw,UM,Iw,c1e];omega
 | [],_::_,hl,_=>by cases hl
 | _::_,[],hl,_=>by cases hl
def f5o(P:Program)(S:List TypeId):Bool:=S.all λt=>match P.underlying t with|some (.array _ _)=>false|_=>true
section
variable {H:Type} {enc:TypeId×Value->H} {P:Program} {w:World} {base:Nat} {sp:Nat->Bool} {held:Bool} {S:List TypeId}
theorem b2f{n:Nat}{cs:List Value}(u : ∀ (t:TypeId) (cs:List Value) (x:DataW H×List MemPlace),t∈S->Ie enc P w base sp held n t cs=some x-> ∃ ps,Cl w cs ps∧BJ P n t ps∧UM ps<=uB x.1):
  ∀ (b:List Field) (o N:Nat) (xs:List (DataW H×List MemPlace)),Cw P o b N=true->(∀ f∈b,f.type∈S)->cs.length=N->o<=N ->
   b.mapM (λf=>Ie enc P w base sp held n f.type ((cs.drop f.offset).take (P.cellsOf f.type)))=some xs ->
   ∃ ps,Cl w (cs.drop o) ps∧UM ps<=uBs (xs.map (·.1))∧ ∀ qs:List PV,qs.length=o->(∀ f∈b,BJ P n f.type (((qs++ps).drop f.offset).take (P.cellsOf f.type))):=by
 intro b
 induction b with
 | nil=>intro o N xs hc _ z ho _;simp[Cw]at hc;refine⟨[],?_,by simp[UM],λqs _ f C=>by simp at C⟩;rw[List.drop_of_length_le (by omega)];exact Cl.nil
 | cons f b ihf=>
  intro o N xs hc hm z ho h;simp only[Cw,Ia,beq_iff_eq]at hc;obtain⟨i,hc⟩:=hc;simp only[List.mapM_cons,Option.bind_eq_bind,Ig]at h;obtain⟨x,D,r,l,e⟩:=h;cases e;obtain⟨q,k1,B,w1⟩:=u _ _ x (hm f List.mem_cons_self) D;have s:o+P.cellsOf f.type<=N:=by
   have : ∀ (b:List Field) (a:Nat),Cw P a b N=true->a<=N:=by
    intro b
    induction b with
    | nil=>intro a h;simp[Cw]at h;omega
    | cons g b u=>intro a h;simp only[Cw,Ia]at h;have:=u _ h.2;omega
   exact this _ _ hc
  obtain⟨E,k3,w2,A⟩:=ihf (o+P.cellsOf f.type) N r hc (λg k=>hm g (List.mem_cons_of_mem _ k)) z s l;have j:q.length=P.cellsOf f.type:=by rw[<- k1.1.1,List.length_take,List.length_drop,i];omega
  refine⟨q++E,?_,by rw[f9g,Iw,c1e];omega,λqs y g k=> ?_⟩
  ·have:=k1.append k3;rw[i]at this;have e:cs.drop o=(cs.drop o).take (P.cellsOf f.type)++cs.drop (o+P.cellsOf f.type):=by rw[<- List.drop_drop,List.take_append_drop]
   rw[e];exact this
  ·rcases List.mem_cons.1 k with rfl|k
   ·rw[i,<- y,List.drop_left,<- j,List.take_left];exact B
   ·have:=A (qs++q) (by simp[y,j]) g k
    rwa [List.append_assoc]at this
theorem b7p{n:Nat}{e:TypeId}{a:Addr}{len cap:Nat}{xs:List (DataW H×List MemPlace)}(J:0<P.cellsOf e)(F:Ve P e=true∨P.cellsOf e=1)(E:len<=cap)(hmax:cap<=maxLen)
  (Y : ∀ (cs:List Value) (x:DataW H×List MemPlace),Ie enc P w base sp held n e cs=some x-> ∃ ps,Cl w cs ps∧BJ P n e ps∧UM ps<=uB x.1)
  (h:(IY len).mapM (λi=>(w.cells? base (a.add (i*P.cellsOf e)) (P.cellsOf e)).bind (Ie enc P w base sp held n e))=some xs) :
  ∃ qs:List (List PV),RP (OW w) (.slice (some a) len cap) (.sl (P.cellsOf e) false (qs.map (Eb P e)))∧qs.length<=maxLen∧(∀ q∈qs,q.length=P.cellsOf e∧BJ P n e q)∧UM (qs.map (Eb P e))<=uBs (xs.map (·.1)):=by
 obtain⟨U,hg⟩:=c3j h;rw[List.length_range]at U;have M : ∀ i,i<len-> ∃ q:List PV,(q.length=P.cellsOf e∧BJ P n e q∧ ∃ x,xs[i]? = some x∧UM q<=uB x.1)∧ ∀ (r:Nat) p,q[r]? = some p-> ∃ v,w.cell? (a.add (i*P.cellsOf e+r))=some v∧v.oneCell'=true∧RP (OW w) v p:=by
  intro i hi;have B:=Cm (show i<xs.length by omega)
  have:=hg i i _ (by simp[hi]) B;rw[Ig]at this;obtain⟨cs,h1,h2⟩:=this;obtain⟨q,k1,V,k3⟩:=Y cs _ h2;obtain⟨c1,W⟩:=e2n h1;refine⟨q,⟨by rw[<- k1.1.1,c1],V,_,B,k3⟩,λr p l=> ?_⟩;have hr:r<cs.length:=by rw[k1.1.1];exact(Ik.1 l).1
  have A:=Cm hr;refine⟨_,?_,k1.2 _ (II hr),k1.1.2 r _ p A l⟩;rw[<- e5d];exact W r _ A
 obtain⟨qs,s,k⟩:=b9q len M;have g : ∀ q∈qs,(Eb P e q).cells=q:=by
  intro q u;obtain⟨i,hi,rfl⟩:=Ii u
  have:=(k i _ (Cm hi)).1;exact e2t F this.1 λha=>g2w this.2.1 ha
 refine⟨qs,?_,by omega,λq u=> ?_,?_⟩
 ·by_cases h0:len=0
  ·subst h0;have:qs=[]:=List.length_eq_zero_iff.1 s;subst this;exact .sl0 _ _ _ _ λe=>by cases e
  ·obtain⟨b,off,cs,rfl,hb,-⟩ : ∃ b off cs,a=⟨b,off,none⟩∧OW w b=some cs∧True:=by have O:=Cm (show 0<qs.length by omega);obtain⟨⟨f1,f2,-⟩,f3⟩:=k 0 _ O;have l:=Cm (show 0<(qs[0]'(by omega)).length by omega);obtain⟨v,A,_⟩:=f3 0 _ l;simp[Addr.add]at A;obtain⟨b,off,cs,L,K,_⟩:=a5l A;exact⟨b,off,cs,L,K,trivial⟩
   have hs : ∀ x∈qs.map (Eb P e),x.cells.length=P.cellsOf e:=by intro x B;obtain⟨q,u,rfl⟩:=List.mem_map.1 B;rw[g q u];obtain⟨i,hi,rfl⟩:=Ii u;exact(k i _ (Cm hi)).1.1
   have I : ∀ (j:Nat) p,(flat (qs.map (Eb P e)))[j]? = some p-> ∃ v,cs[off+j]? = some v∧v.oneCell'=true∧RP (OW w) v p:=by
    intro j p l;have X:j<len*P.cellsOf e:=by have:=(Ik.1 l).1;rw[Ul hs]at this;simpa [s]using this
    have hi:j / P.cellsOf e<qs.length:=by rw[s];exact(Nat.div_lt_iff_lt_mul J).2 X
    have hr:j % P.cellsOf e<P.cellsOf e:=Nat.mod_lt _ J;have C:=Cm hi;have T:j=j / P.cellsOf e*P.cellsOf e+j % P.cellsOf e:=by rw[Nat.mul_comm];exact(Nat.div_add_mod _ _).symm
    have N:(qs.map (Eb P e))[j / P.cellsOf e]? = some (Eb P e qs[j / P.cellsOf e]):=by rw[List.getElem?_map,C];rfl
    have D:=b7k hs N hr;rw[<- T,g _ (II hi)]at D;rw[D]at l;obtain⟨v,A,h1,h2⟩:=(k _ _ C).2 _ p l;rw[<- T,VZ]at A;obtain⟨b',off',cs',L,K,Z⟩:=a5l A;cases L;rw[hb]at K;cases K;exact⟨v,Z,h1,h2⟩
   have z:len=(qs.map (Eb P e)).length:=by simp[s]
   rw[z];refine .sl b off cs cap _ false _ (λj=>(cs[off+j]?).getD default) hb (by rw[<- z];exact E) (λe=>by cases e) hs (λj p l=> ?_) (λj p l=> ?_)
   ·obtain⟨v,h1,h2,h3⟩:=I j p l;rw[h1];exact⟨rfl,h2⟩
   ·obtain⟨v,h1,h2,h3⟩:=I j p l;rw[h1];exact h3
 ·obtain⟨i,hi,rfl⟩:=Ii u
  have:=(k i _ (Cm hi)).1;exact⟨this.1,this.2.1⟩
 ·refine d6g (by rw[s,U]) λi q x u B=> ?_
  have:=(k i q u).1;obtain⟨y,Q,hw⟩:=this.2.2;rw[B]at Q;cases Q;have hm:=i9g (P:=P) (e:=e) (q:=q) F this.1;omega
theorem c5s(k:b3n P S=true)(r:f5o P S=true): ∀ (n:Nat) (t:TypeId) (cs:List Value) (x:DataW H×List MemPlace),t∈S->Ie enc P w base sp held n t cs=some x-> ∃ ps,Cl w cs ps∧BJ P n t ps∧UM ps<=uB x.1:=by
  intro n
  induction n with
  | zero=>intro t cs x _ h;simp[Ie]at h
  | succ n ih=>
    intro t cs x ht h;have b:=a7j k ht;have g:=IJ.1 r t ht;unfold Ie at h;unfold BJ;split at h <;> (try rename_i hu) <;> (try simp only[hu]at b g ⊢) <;> try (cases b;done)
    all_goals first
      | (exact⟨_,Cl.one (.bool _) rfl,⟨_,rfl⟩,d2e _⟩)
      | (split at h
         · rename_i hc
           obtain⟨rfl,y⟩:=hc;exact⟨_,Cl.one (.int _ _) rfl,⟨_,rfl,y⟩,d2e _⟩
         · cases h)
      | (split at h
         · rename_i hc
           cases h;refine⟨_,Cl.one (.str _) rfl,⟨_,rfl,hc⟩,?_⟩;show UM [PV.str _]<=Go.Proofs.YtjndoclcicfbcaaGreatDoor.Rows.uptoBulk (DataW.lit (.string _));rw[Go.Proofs.YtjndoclcicfbcaaGreatDoor.Rows.uptoBulk,UM,UM,pvW];omega
         · cases h)
      | (cases h;done)
      | (cases g;done)
      | skip
    · exact⟨_,Cl.one (.sl0 _ _ _ false (λe=>by cases e)) rfl,⟨[],rfl,by simp,λq u=>by simp at u⟩,d2e _⟩
    · rename_i e a len cap
      simp only[Ia,Bool.or_eq_true,beq_iff_eq,decide_eq_true_eq]at b;simp only at h;split at h
      · rename_i hc
        obtain⟨xs,h1,h3⟩:=Ig.1 h;obtain⟨ys,h4,rfl⟩:=Iq.1 h3;obtain⟨qs,k1,j,k3,z⟩:=b7p b.1.2 b.2 hc.2.1 hc.2.2 (λcs x l=>ih e cs x (by simpa using b.1.1.2) l) h1;refine⟨_,Cl.one k1 rfl,⟨qs,rfl,j,k3⟩,?_⟩;show UM [PV.sl _ false (qs.map (Eb P e))]<=Go.Proofs.YtjndoclcicfbcaaGreatDoor.Rows.uptoBulk (DataW.slice (xs.map (·.1)) (ys.map (·.1)));rw[Go.Proofs.YtjndoclcicfbcaaGreatDoor.Rows.uptoBulk,UM,UM,pvW];have:UM (qs.map (Eb P e))<=Go.Proofs.YtjndoclcicfbcaaGreatDoor.Rows.uptoBulkAll (xs.map (·.1)):=z;omega
      · cases h
    · rename_i cs2 s
      simp only[Ia]at b;split at h
      · rename_i hc
        rw[Iq]at h;obtain⟨xs,h1,rfl⟩:=h;obtain⟨ps,k1,k3,j⟩:=b2f ih s.toList 0 (P.cellsOf t) xs b.1 (λf i=>by simpa using IJ.1 b.2 f i) hc (IU _) h1;rw[List.drop_zero]at k1;refine⟨ps,k1,⟨by rw[<- k1.1.1,hc],λf i=>by simpa using j [] rfl f i⟩,?_⟩;show UM ps<=Go.Proofs.YtjndoclcicfbcaaGreatDoor.Rows.uptoBulk (DataW.agg (xs.map (·.1)));rw[Go.Proofs.YtjndoclcicfbcaaGreatDoor.Rows.uptoBulk];have:UM ps<=Go.Proofs.YtjndoclcicfbcaaGreatDoor.Rows.uptoBulkAll (xs.map (·.1)):=k3;omega
      · cases h
theorem e6w(k:b3n P S=true)(u:f5o P S=true){t:TypeId}(ht:t∈S){r:Reach}{b0:Nat}{v:Value}{d:DataW H}{p:List MemPlace}(e:Il P w r b0 t v)(h:DataW.Trod enc P w base sp held t v d p):
  ∃ n q,RP (OW w) v (Eb P t q)∧BJ P n t q∧UM q<=uB d:=by
 obtain⟨n,h⟩:=h;obtain⟨q,k1,B,k3⟩:=c5s k u n t _ _ ht h;refine⟨n,q,?_,B,k3⟩;have s:=a7j k ht;have g:v.cells = #[v]->Ve P t=false->RP (OW w) v (Eb P t q):=by
  intro hc ha;rw[hc]at k1;have A:=k1.1.1
  match q,A with
  | [x],_=>simp only[Eb,ha,IM];exact k1.1.2 0 v x rfl rfl
 have agg : ∀ cs,v = .agg cs->Ve P t=true->RP (OW w) v (Eb P t q):=by rintro cs rfl ha;simp only[Eb,ha];exact .agg cs q (by have:=k1.1.1;simpa [IE]using this) (λx i=>k1.2 x (by simpa [IE]using i)) λj x y i z=>k1.1.2 j x y (by simpa [IE]using i) z
 split at s
 ·rename_i hu;obtain⟨b,rfl⟩:=okWide_bool hu e;exact g rfl (by simp[Ve,hu])
 ·rename_i hu;obtain⟨b,rfl⟩:=okWide_int hu e;exact g rfl (by simp[Ve,hu])
 ·rename_i hu;obtain⟨b,rfl⟩:=okWide_string hu e;exact g rfl (by simp[Ve,hu])
 ·rename_i hu;obtain⟨a,l,c,rfl⟩:=okWide_slice hu e;exact g rfl (by simp[Ve,hu])
 ·rename_i hu;simp only[Il,hu]at e;obtain⟨cs,rfl,_⟩:=e;exact agg cs rfl (by simp[Ve,hu])
 ·rename_i hu;simp only[Il,hu]at e;obtain⟨cs,rfl,_⟩:=e;exact agg cs rfl (by simp[Ve,hu])
 ·cases s
end
end
end Go.Pl
namespace Go.Proofs.YtjndoclcicfbcaaGreatDoor
open Go.Pl
section
set_option maxRecDepth 100000
open Enc (enc dec is)
open EncL (encL decL isL)
def h1m:Tryz.prog.underlying 9=some .string:=by kernel_rfl
def i0a:Ve prog 9=false:=by kernel_rfl
def f7n{n:Nat}{q:List PV}(h:BJ prog n 9 q): ∃ s:Str,Eb prog 9 q=enc s:=by obtain⟨s,a,_⟩:=f6j h1m h;exact⟨⟨s⟩,by rw[a,Eb,i0a];rfl⟩
def h1n{n0:Nat}{a:List PV}(b:BJ prog n0 9 a):
  preT (λ_:Str×Unit=>true) [Eb prog 9 a]=true:=by
 obtain⟨s,e⟩:=f7n b;rw[e];exact Zh (s,()) rfl rfl
end
end Go.Proofs.YtjndoclcicfbcaaGreatDoor
namespace Go.Proofs.YtjndoclcicfbcaaGreatDoor
open Go.Shelf
def lays145_ren:Ib:=⟨λ|145=>127|220=>153|219=>113|217=>112|225=>142|224=>143|267=>144|266=>141|314=>174|n=>n,λ|9=>9|4=>4|59=>156|3=>3|5=>5|46=>163|146=>184|51=>183|n=>n,λ|1=>0|n=>n⟩
def lays145:I5 prog lays145_ren:={
 mixed:=by kernel_rfl
 f145:=Go.Pl.ck_ func127
 f217:=Go.Pl.ck_ func112
 f219:=Go.Pl.ck_ func113
 f220:=Go.Pl.ck_ func153
 f224:=Go.Pl.ck_ func143
 f225:=Go.Pl.ck_ func142
 f266:=Go.Pl.ck_ func141
 f267:=Go.Pl.ck_ func144
 f314:=Go.Pl.ck_ func174
 t3:=underlying3
 a3:=isAgg3
 z3:=sizeOf3
 v3:=zeroValue3
 t4:=underlying4
 a4:=isAgg4
 z4:=sizeOf4
 v4:=zeroValue4
 t5:=underlying5
 a5:=isAgg5
 z5:=sizeOf5
 v5:=zeroValue5
 t9:=underlying9
 a9:=isAgg9
 z9:=sizeOf9
 v9:=zeroValue9
 t46:=underlying163
 a46:=isAgg163
 z46:=sizeOf163
 v46:=zeroValue163
 t51:=underlying183
 a51:=isAgg183
 z51:=sizeOf183
 v51:=zeroValue183
 t59:=underlying156
 a59:=isAgg156
 z59:=sizeOf156
 v59:=zeroValue156
 t146:=underlying184
 a146:=isAgg184
 z146:=sizeOf184
 v146:=zeroValue184
 g1:=by kernel_rfl}
def lays137_ren:Ib:=⟨λ|137=>71|217=>112|266=>141|n=>n,λ|9=>9|5=>5|3=>3|n=>n,λ|n=>n⟩
def lays137:I6 prog lays137_ren:={
 mixed:=by kernel_rfl
 f137:=Go.Pl.ck_ func71
 f217:=Go.Pl.ck_ func112
 f266:=Go.Pl.ck_ func141
 t3:=underlying3
 a3:=isAgg3
 z3:=sizeOf3
 v3:=zeroValue3
 t5:=underlying5
 a5:=isAgg5
 z5:=sizeOf5
 v5:=zeroValue5
 t9:=underlying9
 a9:=isAgg9
 z9:=sizeOf9
 v9:=zeroValue9}
def lays138_ren:Ib:=⟨λ|138=>47|195=>72|218=>73|143=>74|219=>113|217=>112|225=>142|224=>143|267=>144|266=>141|314=>174|n=>n,λ|9=>9|3=>3|4=>4|5=>5|0=>0|46=>163|146=>184|51=>183|n=>n,λ|1=>0|n=>n⟩
def lays138:I7 prog lays138_ren:={
 mixed:=by kernel_rfl
 f138:=Go.Pl.ck_ func47
 f143:=Go.Pl.ck_ func74
 f195:=Go.Pl.ck_ func72
 f217:=Go.Pl.ck_ func112
 f218:=Go.Pl.ck_ func73
 f219:=Go.Pl.ck_ func113
 f224:=Go.Pl.ck_ func143
 f225:=Go.Pl.ck_ func142
 f266:=Go.Pl.ck_ func141
 f267:=Go.Pl.ck_ func144
 f314:=Go.Pl.ck_ func174
 t0:=underlying0
 a0:=isAgg0
 z0:=sizeOf0
 v0:=zeroValue0
 t3:=underlying3
 a3:=isAgg3
 z3:=sizeOf3
 v3:=zeroValue3
 t4:=underlying4
 a4:=isAgg4
 z4:=sizeOf4
 v4:=zeroValue4
 t5:=underlying5
 a5:=isAgg5
 z5:=sizeOf5
 v5:=zeroValue5
 t9:=underlying9
 a9:=isAgg9
 z9:=sizeOf9
 v9:=zeroValue9
 t46:=underlying163
 a46:=isAgg163
 z46:=sizeOf163
 v46:=zeroValue163
 t51:=underlying183
 a51:=isAgg183
 z51:=sizeOf183
 v51:=zeroValue183
 t146:=underlying184
 a146:=isAgg184
 z146:=sizeOf184
 v146:=zeroValue184
 g1:=by kernel_rfl}
def lays172_ren:Ib:=⟨λ|172=>114|244=>145|245=>146|247=>175|279=>176|280=>177|281=>178|282=>179|287=>193|316=>194|171=>149|205=>195|321=>203|322=>204|243=>180|246=>196|283=>205|284=>206|285=>207|286=>208|129=>219|317=>221|318=>222|319=>223|320=>224|337=>231|338=>232|n=>n,λ|9=>9|3=>3|75=>142|76=>143|4=>4|5=>5|167=>186|37=>167|0=>0|85=>187|2=>2|168=>189|53=>200|175=>201|46=>163|210=>204|127=>212|145=>215|143=>213|21=>21|171=>216|173=>219|212=>235|51=>183|20=>20|213=>236|232=>246|233=>247|80=>67|n=>n,λ|15=>1|16=>2|17=>5|18=>6|19=>7|n=>n⟩
def lays172:Go.Proofs.LaysC.n172 prog lays172_ren:={
 mixed:=by kernel_rfl
 f129:=Go.Pl.ck_ func219
 f171:=Go.Pl.ck_ func149
 f172:=Go.Pl.ck_ func114
 f205:=Go.Pl.ck_ func195
 f243:=Go.Pl.ck_ func180
 f244:=Go.Pl.ck_ func145
 f245:=Go.Pl.ck_ func146
 f246:=Go.Pl.ck_ func196
 f247:=Go.Pl.ck_ func175
 f279:=Go.Pl.ck_ func176
 f280:=Go.Pl.ck_ func177
 f281:=Go.Pl.ck_ func178
 f282:=Go.Pl.ck_ func179
 f283:=Go.Pl.ck_ func205
 f284:=Go.Pl.ck_ func206
 f285:=Go.Pl.ck_ func207
 f286:=Go.Pl.ck_ func208
 f287:=Go.Pl.ck_ func193
 f316:=Go.Pl.ck_ func194
 f317:=Go.Pl.ck_ func221
 f318:=Go.Pl.ck_ func222
 f319:=Go.Pl.ck_ func223
 f320:=Go.Pl.ck_ func224
 f321:=Go.Pl.ck_ func203
 f322:=Go.Pl.ck_ func204
 f337:=Go.Pl.ck_ func231
 f338:=Go.Pl.ck_ func232
 t0:=underlying0
 a0:=isAgg0
 z0:=sizeOf0
 v0:=zeroValue0
 t2:=underlying2
 a2:=isAgg2
 z2:=sizeOf2
 v2:=zeroValue2
 t3:=underlying3
 a3:=isAgg3
 z3:=sizeOf3
 v3:=zeroValue3
 t4:=underlying4
 a4:=isAgg4
 z4:=sizeOf4
 v4:=zeroValue4
 t5:=underlying5
 a5:=isAgg5
 z5:=sizeOf5
 v5:=zeroValue5
 t9:=underlying9
 a9:=isAgg9
 z9:=sizeOf9
 v9:=zeroValue9
 t20:=underlying20
 a20:=isAgg20
 z20:=sizeOf20
 v20:=zeroValue20
 t21:=underlying21
 a21:=isAgg21
 z21:=sizeOf21
 v21:=zeroValue21
 t37:=underlying167
 a37:=isAgg167
 z37:=sizeOf167
 v37:=zeroValue167
 t46:=underlying163
 a46:=isAgg163
 z46:=sizeOf163
 v46:=zeroValue163
 t51:=underlying183
 a51:=isAgg183
 z51:=sizeOf183
 v51:=zeroValue183
 t53:=underlying200
 a53:=isAgg200
 z53:=sizeOf200
 v53:=zeroValue200
 t75:=underlying142
 a75:=isAgg142
 z75:=sizeOf142
 v75:=zeroValue142
 t76:=underlying143
 a76:=isAgg143
 z76:=sizeOf143
 v76:=zeroValue143
 t85:=underlying187
 a85:=isAgg187
 z85:=sizeOf187
 v85:=zeroValue187
 t127:=underlying212
 a127:=isAgg212
 z127:=sizeOf212
 v127:=zeroValue212
 t143:=underlying213
 a143:=isAgg213
 z143:=sizeOf213
 v143:=zeroValue213
 t145:=underlying215
 a145:=isAgg215
 z145:=sizeOf215
 v145:=zeroValue215
 t167:=underlying186
 a167:=isAgg186
 z167:=sizeOf186
 v167:=zeroValue186
 t168:=underlying189
 a168:=isAgg189
 z168:=sizeOf189
 v168:=zeroValue189
 t171:=underlying216
 a171:=isAgg216
 z171:=sizeOf216
 v171:=zeroValue216
 t173:=underlying219
 a173:=isAgg219
 z173:=sizeOf219
 v173:=zeroValue219
 t175:=underlying201
 a175:=isAgg201
 z175:=sizeOf201
 v175:=zeroValue201
 t210:=underlying204
 a210:=isAgg204
 z210:=sizeOf204
 v210:=zeroValue204
 t212:=underlying235
 a212:=isAgg235
 z212:=sizeOf235
 v212:=zeroValue235
 t213:=underlying236
 a213:=isAgg236
 z213:=sizeOf236
 t232:=underlying246
 a232:=isAgg246
 z232:=sizeOf246
 v232:=zeroValue246
 t233:=underlying247
 a233:=isAgg247
 z233:=sizeOf247
 v233:=zeroValue247
 g15:=by kernel_rfl
 g16:=by kernel_rfl
 g17:=by kernel_rfl
 g18:=by kernel_rfl
 g19:=by kernel_rfl
 t80:=underlying67
 a80:=isAgg67
 z80:=sizeOf67
 v80:=zeroValue67
 i0:=by kernel_rfl
 i2:=by kernel_rfl
 i3:=by kernel_rfl
 i4:=by kernel_rfl
 i5:=by kernel_rfl
 i9:=by kernel_rfl
 i20:=by kernel_rfl
 i21:=by kernel_rfl
 i37:=by kernel_rfl
 i46:=by kernel_rfl
 i51:=by kernel_rfl
 i53:=by kernel_rfl
 i75:=by kernel_rfl
 i76:=by kernel_rfl
 i80:=by kernel_rfl
 i85:=by kernel_rfl
 i127:=by kernel_rfl
 i143:=by kernel_rfl
 i145:=by kernel_rfl
 i167:=by kernel_rfl
 i168:=by kernel_rfl
 i171:=by kernel_rfl
 i173:=by kernel_rfl
 i175:=by kernel_rfl
 i210:=by kernel_rfl
 i212:=by kernel_rfl
 i232:=by kernel_rfl
 i233:=by kernel_rfl
 m15:=by kernel_rfl
 m16:=by kernel_rfl
 m17:=by kernel_rfl
 m18:=by kernel_rfl
 m19:=by kernel_rfl
 c0:=by kernel_rfl
 c2:=by kernel_rfl
 c3:=by kernel_rfl
 c4:=by kernel_rfl
 c5:=by kernel_rfl
 c9:=by kernel_rfl
 c20:=by kernel_rfl
 c21:=by kernel_rfl
 c37:=by kernel_rfl
 c46:=by kernel_rfl
 c51:=by kernel_rfl
 c53:=by kernel_rfl
 c75:=by kernel_rfl
 c76:=by kernel_rfl
 c80:=by kernel_rfl
 c85:=by kernel_rfl
 c127:=by kernel_rfl
 c143:=by kernel_rfl
 c145:=by kernel_rfl
 c167:=by kernel_rfl
 c168:=by kernel_rfl
 c171:=by kernel_rfl
 c173:=by kernel_rfl
 c175:=by kernel_rfl
 c210:=by kernel_rfl
 c212:=by kernel_rfl
 c213:=by kernel_rfl
 c232:=by kernel_rfl
 c233:=by kernel_rfl}
def lays171_ren:Ib:=⟨λ|171=>149|243=>180|246=>196|283=>205|284=>206|285=>207|286=>208|129=>219|317=>221|318=>222|319=>223|320=>224|337=>231|338=>232|n=>n,λ|3=>3|9=>9|2=>2|4=>4|171=>216|0=>0|53=>200|37=>167|5=>5|173=>219|212=>235|51=>183|20=>20|213=>236|46=>163|232=>246|233=>247|n=>n,λ|17=>5|18=>6|19=>7|n=>n⟩
def lays171:Go.Proofs.LaysM.n171 prog lays171_ren:={
 mixed:=by kernel_rfl
 f129:=Go.Pl.ck_ func219
 f171:=Go.Pl.ck_ func149
 f243:=Go.Pl.ck_ func180
 f246:=Go.Pl.ck_ func196
 f283:=Go.Pl.ck_ func205
 f284:=Go.Pl.ck_ func206
 f285:=Go.Pl.ck_ func207
 f286:=Go.Pl.ck_ func208
 f317:=Go.Pl.ck_ func221
 f318:=Go.Pl.ck_ func222
 f319:=Go.Pl.ck_ func223
 f320:=Go.Pl.ck_ func224
 f337:=Go.Pl.ck_ func231
 f338:=Go.Pl.ck_ func232
 t0:=underlying0
 a0:=isAgg0
 z0:=sizeOf0
 v0:=zeroValue0
 t2:=underlying2
 a2:=isAgg2
 z2:=sizeOf2
 v2:=zeroValue2
 t3:=underlying3
 a3:=isAgg3
 z3:=sizeOf3
 v3:=zeroValue3
 t4:=underlying4
 a4:=isAgg4
 z4:=sizeOf4
 v4:=zeroValue4
 t5:=underlying5
 a5:=isAgg5
 z5:=sizeOf5
 v5:=zeroValue5
 t9:=underlying9
 a9:=isAgg9
 z9:=sizeOf9
 v9:=zeroValue9
 t20:=underlying20
 a20:=isAgg20
 z20:=sizeOf20
 v20:=zeroValue20
 t37:=underlying167
 a37:=isAgg167
 z37:=sizeOf167
 v37:=zeroValue167
 t46:=underlying163
 a46:=isAgg163
 z46:=sizeOf163
 v46:=zeroValue163
 t51:=underlying183
 a51:=isAgg183
 z51:=sizeOf183
 v51:=zeroValue183
 t53:=underlying200
 a53:=isAgg200
 z53:=sizeOf200
 v53:=zeroValue200
 t171:=underlying216
 a171:=isAgg216
 z171:=sizeOf216
 v171:=zeroValue216
 t173:=underlying219
 a173:=isAgg219
 z173:=sizeOf219
 v173:=zeroValue219
 t212:=underlying235
 a212:=isAgg235
 z212:=sizeOf235
 v212:=zeroValue235
 t213:=underlying236
 a213:=isAgg236
 z213:=sizeOf236
 t232:=underlying246
 a232:=isAgg246
 z232:=sizeOf246
 v232:=zeroValue246
 t233:=underlying247
 a233:=isAgg247
 z233:=sizeOf247
 v233:=zeroValue247
 g17:=by kernel_rfl
 g18:=by kernel_rfl
 g19:=by kernel_rfl
 i0:=by kernel_rfl
 i2:=by kernel_rfl
 i3:=by kernel_rfl
 i4:=by kernel_rfl
 i5:=by kernel_rfl
 i9:=by kernel_rfl
 i20:=by kernel_rfl
 i37:=by kernel_rfl
 i46:=by kernel_rfl
 i51:=by kernel_rfl
 i53:=by kernel_rfl
 i171:=by kernel_rfl
 i173:=by kernel_rfl
 i212:=by kernel_rfl
 i232:=by kernel_rfl
 i233:=by kernel_rfl
 m17:=by kernel_rfl
 m18:=by kernel_rfl
 m19:=by kernel_rfl}
def lays99_ren:Ib:=⟨λ|99=>70|206=>111|n=>n,λ|9=>9|4=>4|3=>3|n=>n,λ|n=>n⟩
def lays99:aB prog lays99_ren:={
 mixed:=by kernel_rfl
 f99:=Go.Pl.ck_ func70
 f206:=Go.Pl.ck_ func111
 t3:=underlying3
 a3:=isAgg3
 z3:=sizeOf3
 v3:=zeroValue3
 t4:=underlying4
 a4:=isAgg4
 z4:=sizeOf4
 v4:=zeroValue4
 t9:=underlying9
 a9:=isAgg9
 z9:=sizeOf9
 v9:=zeroValue9}
def lays190_ren:Ib:=⟨λ|190=>188|125=>199|258=>198|128=>218|129=>219|302=>209|303=>210|304=>211|305=>212|306=>213|307=>214|308=>215|309=>216|310=>217|333=>225|329=>226|330=>227|334=>228|335=>229|336=>230|344=>233|n=>n,λ|31=>35|9=>9|3=>3|46=>163|0=>0|51=>183|53=>200|4=>4|183=>223|182=>222|131=>121|5=>5|218=>237|222=>241|228=>243|229=>244|n=>n,λ|n=>n⟩
def lays190:I8 prog lays190_ren:={
 mixed:=by kernel_rfl
 f125:=Go.Pl.ck_ func199
 f128:=Go.Pl.ck_ func218
 f129:=Go.Pl.ck_ func219
 f190:=Go.Pl.ck_ func188
 f258:=Go.Pl.ck_ func198
 f302:=Go.Pl.ck_ func209
 f303:=Go.Pl.ck_ func210
 f304:=Go.Pl.ck_ func211
 f305:=Go.Pl.ck_ func212
 f306:=Go.Pl.ck_ func213
 f307:=Go.Pl.ck_ func214
 f308:=Go.Pl.ck_ func215
 f309:=Go.Pl.ck_ func216
 f310:=Go.Pl.ck_ func217
 f329:=Go.Pl.ck_ func226
 f330:=Go.Pl.ck_ func227
 f333:=Go.Pl.ck_ func225
 f334:=Go.Pl.ck_ func228
 f335:=Go.Pl.ck_ func229
 f336:=Go.Pl.ck_ func230
 f344:=Go.Pl.ck_ func233
 t0:=underlying0
 a0:=isAgg0
 z0:=sizeOf0
 v0:=zeroValue0
 t3:=underlying3
 a3:=isAgg3
 z3:=sizeOf3
 v3:=zeroValue3
 t4:=underlying4
 a4:=isAgg4
 z4:=sizeOf4
 v4:=zeroValue4
 t5:=underlying5
 a5:=isAgg5
 z5:=sizeOf5
 v5:=zeroValue5
 t9:=underlying9
 a9:=isAgg9
 z9:=sizeOf9
 v9:=zeroValue9
 t31:=underlying35
 a31:=isAgg35
 z31:=sizeOf35
 v31:=zeroValue35
 t46:=underlying163
 a46:=isAgg163
 z46:=sizeOf163
 v46:=zeroValue163
 t51:=underlying183
 a51:=isAgg183
 z51:=sizeOf183
 v51:=zeroValue183
 t53:=underlying200
 a53:=isAgg200
 z53:=sizeOf200
 v53:=zeroValue200
 t131:=underlying121
 a131:=isAgg121
 z131:=sizeOf121
 v131:=zeroValue121
 t182:=underlying222
 a182:=isAgg222
 z182:=sizeOf222
 v182:=zeroValue222
 t183:=underlying223
 a183:=isAgg223
 z183:=sizeOf223
 v183:=zeroValue223
 t218:=underlying237
 a218:=isAgg237
 z218:=sizeOf237
 v218:=zeroValue237
 t222:=underlying241
 a222:=isAgg241
 z222:=sizeOf241
 v222:=zeroValue241
 t228:=underlying243
 a228:=isAgg243
 z228:=sizeOf243
 v228:=zeroValue243
 t229:=underlying244
 a229:=isAgg244
 z229:=sizeOf244
 v229:=zeroValue244}
end Go.Proofs.YtjndoclcicfbcaaGreatDoor
namespace Go.Proofs.YtjndoclcicfbcaaGreatDoor
open Go.Pl Go.RowKit
open Enc (enc dec is)
open EncL (encL decL isL)
set_option maxRecDepth 100000
def Kt:ZQ prog 70 (λ_:Str×Str×Unit=>true) (λx:Str×Str×Unit=>x.2.1.s.isPrefixOf x.1.s):=WS (by
  rintro⟨⟨s⟩,⟨p⟩,⟨⟩⟩ hps Φ w vs hL hΦ hv;obtain⟨u,v,rfl,h1,h2⟩:=h6l hv;rw[D9 h1,D9 h2];refine(Any.strings_HasPrefix lays99 ⟨s.toArray⟩ ⟨p.toArray⟩ w).mono ?_;rintro e w' ⟨rfl,rfl⟩
  exact⟨_,rfl,.bool _,.refl _ _⟩)
def e9e:ZQ prog 114 (λx:Str×Unit=>decide (x.1.s.length<=1000000)) (λx:Str×Unit=>YY x.1):=WS (by
  rintro⟨⟨s⟩,⟨⟩⟩ hps Φ w vs hL hΦ a;have hs:s.length<=1000000:=by simpa using hps
  obtain⟨v,rfl,h1⟩:=i5b a;rw[D9 h1];have g:(⟨s.toArray⟩:ByteArray).size=s.length:=rfl;cases h:IV s
  ·rename_i n;have k:YY ⟨s⟩=(n,⟨false⟩):=by simp only[YY,h]
   rw[k];refine(Iy lays172 ⟨s.toArray⟩ (by rw[g];omega) n h w).mono ?_;rintro e w' ⟨rfl,q⟩;refine⟨_,rfl,.tup _ _ rfl ?_,?_⟩
   ·intro j v x a b
    match j with
    | 0=>cases a;cases b;exact .int _ _
    | 1=>cases a;cases b;exact .nili
    | j+2=>simp at a
   ·rcases q with rfl|⟨t,rfl⟩
    ·exact .refl _ _
    ·exact F4 _ _ 0 _
  ·skip
   have k:YY ⟨s⟩=(0,⟨true⟩):=by simp only[YY,h]
   rw[k];obtain⟨cs,hc,ev,l,i⟩:=hL.syn;refine(Ip lays172 ⟨s.toArray⟩ (by rw[g];omega) h ev w (DV hΦ hc l) i).mono ?_;rintro e w' ⟨N,rfl,_,_,hb⟩;refine⟨_,rfl,.tup _ _ rfl ?_,hb⟩;intro j v x a b
   match j with
   | 0=>cases a;cases b;exact .int _ _
   | 1=>cases a;cases b;exact .ifc _ _
   | j+2=>simp at a
  ·skip
   have k:YY ⟨s⟩=(IW s,⟨true⟩):=by simp only[YY,h]
   rw[k];obtain⟨cs,hc,ev,l,i⟩:=hL.rng;refine(Ir lays172 ⟨s.toArray⟩ (by rw[g];omega) h ev w (DV hΦ hc l) i).mono ?_;rintro e w' ⟨N,rfl,_,_,hb⟩;refine⟨_,rfl,.tup _ _ rfl ?_,hb⟩;intro j v x a b
   match j with
   | 0=>cases a;cases b;exact .int _ _
   | 1=>cases a;cases b;exact .ifc _ _
   | j+2=>simp at a)
def b9b:ZQ prog 149 (λx:Int×Unit=>decide (-9223372036854775808<=x.1)&&decide (x.1<=9223372036854775807)) (λx:Int×Unit=>EN x.1):=WS (by
  rintro⟨n,⟨⟩⟩ hps Φ w vs hL hΦ hv;obtain⟨v,rfl,h1⟩:=i5b hv;have h1:RP Φ v (.int .i64 n):=h1;rw[g3c h1];have hn : -9223372036854775808<=n∧n<=9223372036854775807:=by simpa using hps
  have hg:=hL.pow;obtain⟨T,fz,hh⟩:=hΦ _ _ hg;refine(Any.strconv_Itoa lays171 n hn.1 hn.2 w ?_).mono ?_
  ·unfold I9 World.var?
   rw[show Program.globalNamed prog "internal/strconv.uint64pow10" = some 5 by kernel_rfl]
   simp only[IG,hh];rfl
  ·rintro e w' ⟨rfl,k,os,rfl⟩;refine⟨_,rfl,.str _,?_⟩
   exact⟨rfl,rfl,rfl,by show w.heap.size<=(w.heap++os).size;simp,λj hj=>by show(w.heap++os)[j]? = _;rw[Array.getElem?_append_left hj]⟩)
def h7n: ∀ s:List UInt8,((s.dropWhile λc=>c != 46)=[]->Ij s [46] = -1) ∧
  ∀ (c:UInt8) (r:List UInt8),(s.dropWhile λc=>c != 46)=c::r->Ij s [46]=((s.takeWhile λc=>c != 46).length:Nat)∧s.drop ((s.takeWhile λc=>c != 46).length+1)=r∧s.take (s.takeWhile λc=>c != 46).length=s.takeWhile λc=>c != 46
 | []=>⟨λ_=>rfl,λ_ _ h=>by cases h⟩
 | b::l=>by
  obtain⟨h1,h2⟩:=h7n l;by_cases hb:b=46
  ·subst hb;refine⟨λh=>by simp at h,λc r h=> ?_⟩;have h:(46:UInt8)::l=c::r:=by simpa using h
   cases h;exact⟨rfl,rfl,rfl⟩
  ·have a:(b != 46)=true:=by simpa using hb
   have i:([46]:List UInt8).isPrefixOf (b::l)=false:=by simp[List.isPrefixOf];exact λe=>hb e.symm
   have g:Ij (b::l) [46]=if Ij l [46] == -1 then -1 else Ij l [46]+1:=by rw[Ij,i];rfl
   rw[List.dropWhile_cons,if_pos a,List.takeWhile_cons,if_pos a];refine⟨λh=>by rw[g,h1 h];rfl,λc r h=> ?_⟩;obtain⟨k1,j,k3⟩:=h2 c r h;rw[g,k1];refine⟨?_,?_,?_⟩
   ·rw[if_neg (by simp),Im];rfl
   ·rw[Im,List.drop_succ_cons];exact j
   ·rw[Im,List.take_succ_cons,k3]
def h5n(s:List UInt8):Lib.cut s [46]=((JC ⟨s⟩).a.s,(JC ⟨s⟩).b.s,(JC ⟨s⟩).c):=by
 obtain⟨h1,h2⟩:=h7n s;unfold Lib.cut JC;cases hd:s.dropWhile λc=>c != 46 with
 | nil=>rw[h1 hd];rfl
 | cons c r=>obtain⟨k1,e,k3⟩:=h2 c r hd;rw[k1,if_pos (by omega),Int.toNat_natCast,k3];show(_,s.drop ((s.takeWhile λc=>c != 46).length+1),true)=_;rw[e]
def f4i:ZQ prog 127 (λx:Str×Str×Unit=>decide (x.1.s.length<=1048576)&&decide (x.2.1.s=[46])) (λx:Str×Str×Unit=>JC x.1):=WS (by
  rintro⟨⟨s⟩,⟨p⟩,⟨⟩⟩ hps Φ w vs hL hΦ a;simp only[Ia,decide_eq_true_eq]at hps;obtain⟨hs,g⟩:=hps;have g:p=[46]:=g;subst g;obtain⟨u,v,rfl,h1,h2⟩:=h6l a;rw[D9 h1,D9 h2];obtain⟨cs,m,hc,hm⟩:=hL.mx;have h:(⟨s.toArray⟩:ByteArray).size=s.length:=rfl;refine(Any.strings_Cut lays145 ⟨s.toArray⟩ ⟨#[46]⟩ m w (by rw[h];have hs:s.length<=1048576:=hs;omega) (DV hΦ hc hm)).mono ?_;rintro e w' ⟨rfl,k,rfl⟩;refine⟨_,rfl,.tup _ _ rfl ?_,?_⟩
  ·rw[show(⟨s.toArray⟩:ByteArray).data.toList=s from rfl,show(⟨#[46]⟩:ByteArray).data.toList=[46]from rfl,h5n];intro j v x a b
   match j with
   | 0=>cases a;cases b;exact .str _
   | 1=>cases a;cases b;exact .str _
   | 2=>cases a;cases b;exact .bool _
   | j+3=>simp at a
  ·exact⟨rfl,rfl,rfl,Ic _,λ_ _=>rfl⟩)
def g7g:ZQ prog 71 (λx:Str×UInt8×Unit=>decide (x.1.s.length<=1048576)) (λx:Str×UInt8×Unit=>Lib.indexByte x.1.s x.2.1):=WS (by
  rintro⟨⟨s⟩,c,⟨⟩⟩ hps Φ w vs hL hΦ hv;obtain⟨u,v,rfl,h1,h2⟩:=h6l hv;rw[D9 h1,g3c h2];refine(Any.strings_IndexByte lays137 ⟨s.toArray⟩ (c.toNat:Int) w).mono ?_;rintro e w' ⟨rfl,rfl⟩;have hc:((c.toNat:Int)).toNat.toUInt8=c:=by rw[Int.toNat_natCast];exact UInt8.ofNat_toNat
  rw[hc]
  exact⟨_,rfl,.int _ _,.refl _ _⟩)
def f0f:ZQ prog 47 (λx:Str×Str×Unit=>decide (x.1.s.length<=1048576)&&decide (x.2.1.s=[10])) (λx:Str×Str×Unit=>(Lib.countByte x.1.s 10:Int)):=WS (by
  rintro⟨⟨s⟩,⟨p⟩,⟨⟩⟩ hps Φ w vs hL hΦ hv;obtain⟨-,rfl⟩:s.length<=1048576∧p=[10]:=by simpa using hps
  obtain⟨u,v,rfl,h1,h2⟩:=h6l hv;rw[D9 h1,D9 h2];refine(Any.strings_Count_one lays138 ⟨s.toArray⟩ 10 w).mono ?_;rintro e w' ⟨rfl,rfl⟩
  exact⟨_,rfl,.int _ _,.refl _ _⟩)
end Go.Proofs.YtjndoclcicfbcaaGreatDoor
namespace Go.Proofs.YtjndoclcicfbcaaGreatDoor
open Go.RowKit Go.Lib Go.Pl
def g1w:(Tryz.prog.info? 3).map (λi=>(i.zero,i.size,i.bytes))=some (some (.int .i64 0),1,8):=by kernel_rfl
def Np:Tryz.prog.underlying 23=some (.slice 3):=by kernel_rfl
def d3q(n c:Nat)(w:World):Calls prog 125 #[.slice none n c] w λe w'=>e = .returned (.slice none 0 0)∧w'=w:=by
 have q22 : ∀ (w:World) (a:Option Addr) (n c b g:Nat),(binOp .eql 23 (.slice a n c) (.slice none b g)).run prog w = .ok (.bool a.isNone) w:=λw a n c b g=>Ih w _ _ a n c b g Np
 go_enter func125,ntmps125
 go_wp2
 go_ret
 exact⟨rfl,rfl⟩
def b8r(a:Addr)(c:Nat)(w:World):Calls prog 125 #[.slice (some a) 0 c] w λe w'=>(∃ g,e = .returned (.slice (some g) 0 0))∧Below w.heap.size w w':=by
 have q22 : ∀ (w:World) (a:Option Addr) (n c b h:Nat),(binOp .eql 23 (.slice a n c) (.slice none b h)).run prog w = .ok (.bool a.isNone) w:=λw a n c b h=>Ih w _ _ a n c b h Np
 obtain⟨i0,hi,hz0,hz1,hz2⟩:=info_parts g1w
 go_enter func125,ntmps125
 go_wp2_with (at_builtin;refine Lib.wpList_append_run _ rfl _ _ _ _ rfl _ _ rfl rfl _ _ (UY Np hi (Ic _)) ?_)
 go_ret
 exact⟨⟨_,rfl⟩,(Below.refl _ w).alloc (Ic _) _⟩
def b9s(a:Addr)(n c:Nat)(news:List Value)(w:World)(h0:0<n)(hn:n<=2000000)(z:news.length=n*1)(hc : ∀ j u,news[j]? = some u->w.cell? (a.add j)=some u)(h1 : ∀ u∈news,u.oneCell'=true):
  Calls prog 125 #[.slice (some a) n c] w λe w'=> ∃ v',e = .returned v'∧w'.ownsRow w.heap.size 3 1 v' n news∧Below w.heap.size w w':=by
 have q22 : ∀ (w:World) (a:Option Addr) (n c q r:Nat),(binOp .eql 23 (.slice a n c) (.slice none q r)).run prog w = .ok (.bool a.isNone) w:=λw a n c q r=>Ih w _ _ a n c q r Np
 obtain⟨B,hi,i,l,h⟩:=info_parts g1w;have A:Aside (∀ j u,news[j]? = some u->w.cell? (a.add j)=some u):=hc;clear hc
 go_enter func125,ntmps125
 go_wp2_with (at_builtin;refine wpList_append_own _ rfl _ _ 23 rfl w.heap.size 3 B (.int .i64 0) 1 8 Np hi i l h rfl (by decide) _ _ _ rfl (World.ownsRow_made w #[] 0 (Ic _) (IU _) rfl) a n c news rfl ?qc1 ?qc2 ?qc3 ?qc4 ?qc5 ?qc6 ?_)
 case qc1=>exact z
 case qc2=>intro j u s;exact Lib.cell?_alloc_some _ (A.out j u s)
 case qc3=>exact h1
 case qc4=>unfold maxLen;omega
 case qc5=>omega
 case qc6=>simp
 intro v' w1 g b hnil
 go_wp2
 go_ret
 refine⟨v',rfl,by simpa using g,?_⟩;exact((Below.refl _ w).alloc (Ic _) _).grown b (by simp) (by intro k y;simp[Value.ownBlock]at y;omega)
def i6m:CloneC prog 125 3 1:=⟨d3q,b8r,b9s⟩
end Go.Proofs.YtjndoclcicfbcaaGreatDoor
namespace Go.Proofs.YtjndoclcicfbcaaGreatDoor
open Go.Pl
open Enc (enc dec is)
open EncL (encL decL isL)
set_option maxRecDepth 100000
def Ju:Tryz.prog.follows .mixedOrders=true:=by kernel_rfl
def tq{f:Nat}{D:Den}{l:List (Nat×Den)}{fn:Func}(hf:Tryz.prog.funcs[f]? = some fn)(h:d8n prog f D)(k:YC prog (YG l))(hb:(fn.body.isSome&& !(fn.name == "runtime.NumGoroutine"))=true:=by kernel_rfl):YC prog (YG ((f,D)::l)):=b7o (ent hf hb h) k
def dq{f nt:Nat}{α β:Type}[EncL α][Enc β]{fn:Func}{T:ZO}{ic:IC}{rs:List IRes}{pre:α->Bool}{F:α->β}(h : ∀ a,pre a=true->Zk T 0 (Za rs (Zg (F a))) ic [] (Ym nt (encL a)))(i:YC prog T)(j:Tryz.prog.funcs[f]? = some fn)(b:Ox prog fn=some ic:=by kernel_rfl)(e:Wz (XM prog) fn.results.toList=some rs:=by kernel_rfl)(g:fn.ntmps=nt:=by kernel_rfl):ZQ prog f pre F:=ZQ.of i Ju j b e g h
def H8{α β S:Type}[EncL α][Enc β][EncL S]{T:ZO}{f:Nat}{fn:Func}{ic:IC}{rs:List IRes}{mk:α->List AV}{b e:List AObj}{pre:S->α->Bool}{un:List AV->α}{F:S->α->β×S}{nt k:Nat}(h : ∀ s a,pre s a=true->Zk T k (Zl k rs (ZB b e (F s a).1 (F s a).2)) ic [] (ZT nt (mk a) (b++Zf s::e)))(hm:Om mk un)(l:YC prog T)(q:Tryz.prog.funcs[f]? = some fn)(r:b.length+1+e.length=k:=by exact rfl)(i:Ox prog fn=some ic:=by kernel_rfl)(j:Wz (XM prog) fn.results.toList=some rs:=by kernel_rfl)(g:fn.ntmps=nt:=by kernel_rfl):ZM prog f mk un b e pre F:=ZM.of hm l Ju q i j g r h
def a6m:ZQ prog 114 (λx:Str×Unit=>decide (x.1.s.length<=281474976710656)) (λx:Str×Unit=>YY x.1):=WS (by
  rintro⟨⟨s⟩,⟨⟩⟩ hps Φ w vs hL hΦ a;have hs:s.length<=281474976710656:=by simpa using hps
  obtain⟨v,rfl,h1⟩:=i5b a;rw[D9 h1];have g:(⟨s.toArray⟩:ByteArray).size=s.length:=rfl;cases h:IV s
  ·rename_i n;have k:YY ⟨s⟩=(n,⟨false⟩):=by simp only[YY,h]
   rw[k];refine(Iy lays172 ⟨s.toArray⟩ (by rw[g];omega) n h w).mono ?_;rintro e w' ⟨rfl,q⟩;refine⟨_,rfl,.tup _ _ rfl ?_,?_⟩
   ·intro j v x a b
    match j with
    | 0=>cases a;cases b;exact .int _ _
    | 1=>cases a;cases b;exact .nili
    | j+2=>simp at a
   ·rcases q with rfl|⟨t,rfl⟩
    ·exact .refl _ _
    ·exact F4 _ _ 0 _
  ·skip
   have k:YY ⟨s⟩=(0,⟨true⟩):=by simp only[YY,h]
   rw[k];obtain⟨cs,hc,ev,l,i⟩:=hL.syn;refine(Ip lays172 ⟨s.toArray⟩ (by rw[g];omega) h ev w (DV hΦ hc l) i).mono ?_;rintro e w' ⟨N,rfl,_,_,hb⟩;refine⟨_,rfl,.tup _ _ rfl ?_,hb⟩;intro j v x a b
   match j with
   | 0=>cases a;cases b;exact .int _ _
   | 1=>cases a;cases b;exact .ifc _ _
   | j+2=>simp at a
  ·skip
   have k:YY ⟨s⟩=(IW s,⟨true⟩):=by simp only[YY,h]
   rw[k];obtain⟨cs,hc,ev,l,i⟩:=hL.rng;refine(Ir lays172 ⟨s.toArray⟩ (by rw[g];omega) h ev w (DV hΦ hc l) i).mono ?_;rintro e w' ⟨N,rfl,_,_,hb⟩;refine⟨_,rfl,.tup _ _ rfl ?_,hb⟩;intro j v x a b
   match j with
   | 0=>cases a;cases b;exact .int _ _
   | 1=>cases a;cases b;exact .ifc _ _
   | j+2=>simp at a)
def f3f:Y4 prog 188 Q9 JN:=e5c (Any.slices_Sort_string lays190) (Any.slices_Sort_string_none lays190)
def a8g:ZQ prog 122 (λ_:Int×Unit=>true) (λx:Int×Unit=>Yt x.1):=dq g8c Zb func122
def c0k:ZQ prog 121 (λx:Str×Unit=>decide (x.1.s.length<=1000000)) (λx:Str×Unit=>Y3 x.1):=dq e7x (tq func70 Kt (tq func114 e9e (tq func149 b9b Zb))) func121
def c4k:ZQ prog 121 (λx:Str×Unit=>decide (x.1.s.length<=281474976710656)) (λx:Str×Unit=>Y3 x.1):=dq d3h (tq func70 Kt (tq func114 a6m (tq func149 b9b Zb))) func121
def CY:ZQ prog 86 (λx:Lin×Unit=>ZK x.1) (λx:Lin×Unit=>Zj x.1):=dq d2v (tq func122 a8g (tq func121 c0k Zb)) func86
def Ni:ZQ prog 86 (λx:Lin×Unit=>GV x.1) (λx:Lin×Unit=>Zj x.1):=dq e6g (tq func122 a8g (tq func121 c4k Zb)) func86
def Cr:ZQ prog 75 (λ_:UInt8×Unit=>true) (λx:UInt8×Unit=>lowB x.1):=dq c6g Zb func75
def Nk:ZQ prog 78 (λ_:UInt8×Unit=>true) (λx:UInt8×Unit=>digB x.1):=dq c7w Zb func78
def TI:ZQ prog 76 (λx:Str×Bool×Unit=>decide (x.1.s.length<=1048576)) (λx:Str×Bool×Unit=>Xx x.1 x.2.1):=dq f8o (tq func78 Nk (tq func75 Cr Zb)) func76
def Bu:ZQ prog 77 (λ_:Str×Unit=>true) (λx:Str×Unit=>U5.contains x.1.s):=dq g3j Zb func77
def Kr:ZQ prog 54 (λx:Str×Unit=>decide (x.1.s.length<=1048576)) (λx:Str×Unit=>nameI x.1.s):=dq e3k (tq func75 Cr (tq func76 TI (tq func77 Bu Zb))) func54
def GU:ZQ prog 90 (λx:Str×Unit=>decide (x.1.s.length<=1048576)) (λx:Str×Unit=>fullI x.1.s):=dq e2p (tq func127 f4i (tq func54 Kr Zb)) func90
def Bj:ZQ prog 59 (λx:Str×Unit=>decide (x.1.s.length<=1048576)) (λx:Str×Unit=>fnI x.1.s):=dq g3q (tq func54 Kr (tq func90 GU Zb)) func59
def a0n:ZQ prog 56 (λx:Tm×Unit=>nW x.1) (λx:Tm×Unit=>RD x.1.nd):=dq f5x Zb func56
def a5g:ZQ prog 85 (λx:Lin×Unit=>GV x.1) (λx:Lin×Unit=> !(Zj x.1)):=dq e8g (tq func86 Ni Zb) func85
def h1q:ZQ prog 120 (λx:List Lin×FnV 85×Unit=>decide (x.1.length<=1048576)&&x.1.all GV) (λx:List Lin×FnV 85×Unit=>UA (λl:Lin=> !(Zj l)) x.1):=dq g9f (tq func85 a5g Zb) func120
def h6c:ZQ prog 84 (λx:List Lin×FnV 85×Unit=>decide (x.1.length<=1048576)&&x.1.all GV) (λx:List Lin×FnV 85×Unit=>x.1.any λl:Lin=> !(Zj l)):=dq h5c (tq func120 h1q Zb) func84
def ND:ZQ prog 55 (λx:Tm×Int×Int×Unit=>nW x.1) (λx:Tm×Int×Int×Unit=>Wm x.1.nd x.2.1 x.2.2.1):=dq d3w (tq func84 h6c Zb) func55
def b1c:ZQ prog 89 (λ_:Int×Unit=>true) (λx:Int×Unit=>Y0 x.1):=dq f5s Zb func89
def g6u:ZQ prog 126 (λx:List Int×FnV 89×Unit=>decide (x.1.length<=1048576)) (λx:List Int×FnV 89×Unit=>UA Y0 x.1):=dq h6h (tq func89 b1c Zb) func126
def g7c:ZQ prog 88 (λx:List Int×FnV 89×Unit=>decide (x.1.length<=1048576)) (λx:List Int×FnV 89×Unit=>x.1.any Y0):=dq g6g (tq func126 g6u Zb) func88
def b8a:ZQ prog 58 (λx:Tm×Unit=>nW x.1) (λx:Tm×Unit=>callB x.1.nd x.1.ks.length):=dq e7y (tq func59 Bj (tq func55 ND (tq func88 g7c Zb))) func58
def f5y:VB prog 181 Y1 SL:=Cu (T:=Jz) (ic:=QN) (rs:=QQ) Zb Ju func181 (by kernel_rfl) (by kernel_rfl) (by kernel_rfl) e7j
def c0j:VB prog 150 Y1 JF:=Cu (T:=RY) (ic:=Ai) (rs:=AL) (tq func181 f5y Zb) Ju func150 (by kernel_rfl) (by kernel_rfl) (by kernel_rfl) b6g
def h3f:VB prog 123 DX X0:=Cu (T:=VX) (ic:=Ww) (rs:=Wv) (tq func150 c0j Zb) Ju func123 (by kernel_rfl) (by kernel_rfl) (by kernel_rfl) g2r
def g0v:ZQ prog 123 (λ_:List Int×Unit=>true) (λx:List Int×Unit=>Wn x.1):=ZQ.ofPure h3f λ⟨l,_⟩ h=>⟨by show(nums l).all PV.isNum=true;simp,by show Zg _ (.tup [.int .i64 (Wn ((nums l).map PV.asInt)).1,.int .i64 (Wn ((nums l).map PV.asInt)).2]);rw[Wi];exact ZF (x:=Wn l) rfl⟩
def e2c:ZQ prog 125 (λx:List Int×Unit=>decide (x.1.length<=2000000)) (λx:List Int×Unit=>x.1):=d2t (α:=Int) (by decide) (e2z i6m (by decide))
def b3a:ZQ prog 152 (λ_:Str×Int×Unit=>true) (λx:Str×Int×Unit=>VG x.1 x.2.1):=dq h0p Zb func152
def i4f:Y4 prog 151 Ed b5t:=PT (T:=f1q) (ic:=c9t) (rs:=c5p) (tq func152 b3a Zb) Ju func151 (by kernel_rfl) (by kernel_rfl) (by kernel_rfl) g8l
def i3i:Y4 prog 126 Qz OQ:=PT (T:=a3j) (ic:=Rv) (rs:=TR) (tq func151 i4f Zb) Ju func126 (by kernel_rfl) (by kernel_rfl) (by kernel_rfl) g5n
def i7z:Y4 prog 88 Qz b1r:=PT (T:=f2u) (ic:=c8u) (rs:=d1y) (tq func126 i3i Zb) Ju func88 (by kernel_rfl) (by kernel_rfl) (by kernel_rfl) g9e
def c2q:ZQ prog 124 (λx:Str×List Int×Unit=>decide (x.2.1.length<=2000000)) (λx:Str×List Int×Unit=>x.2.1.all (VG x.1)):=dq b6i (tq func88 i7z Zb) func124
def e4l:ZQ prog 87 (λx:Str×List Int×List Int×Unit=>decide (x.2.1.length<=2000000)&&decide (x.2.2.1.length<=2000000)) (λx:Str×List Int×List Int×Unit=>BL x.1 x.2.1 x.2.2.1):=dq f6g (tq func123 g0v (tq func124 c2q (tq func125 e2c Zb))) func87
def b4a:ZQ prog 57 (λx:Arr×Unit=>a1w x.1) (λx:Arr×Unit=>a0e x.1):=dq h3s (tq func87 e4l Zb) func57
def b9o:ZQ prog 33 (λx:Tm×Unit=>nW x.1) (λx:Tm×Unit=>Pk x.1):=dq e5r (tq func54 Kr (tq func55 ND (tq func56 a0n (tq func57 b4a (tq func58 b8a (tq func59 Bj Zb)))))) func33
def i7n:Y4 prog 32 Pn (b1v 52):=PT (T:=c4t) (ic:=b2b) (rs:=b0b) Zb Ju func32 (by kernel_rfl) (by kernel_rfl) (by kernel_rfl) f6r
def e7z{cd:Code}(h:Tk prog f2h f15 0=some cd):Pq prog cd=some (.t 7,[8,9],a1c,a1x):=by
 have:(Tk prog f2h f15 0).bind (Pq prog)=some (.t 7,[8,9],a1c,a1x):=by kernel_rfl
 rw[h]at this;exact this
def h4l(e:YC prog Tq): ∀ (B:Nat) (c:Ctx),c.w0.heap.size=B->(∀ i m,0<=i->c.μ0 i m=none)->g4d (EQ B 4 e Ju) (λn cd=>Tk prog f2h f15 n=some cd) tvE c:=by rintro B c g h n cd b st a w q hr ⟨rfl,j⟩;exact e3d e Ju f0s (λx=>by obtain⟨t,l⟩:=x;rfl) (e7z b) g h hr j
def d8s:YC prog Tq:=(tq func32 i7n (tq func33 b9o Zb))
def Tu:ZQ prog 15 (λx:Tm×Unit=>gW x.1) (λx:Tm×Unit=>WO x.1):=ZQ.ofM (T:=Tq) (ic:=L9) (rs:=TV) (E:=tvE) (sel:=f2h) d8s Ju func15 (by kernel_rfl) (by kernel_rfl) (by kernel_rfl) (h4l d8s) h3c
def a2b:YC prog Vj:=(tq func188 f3f (tq func86 CY Zb))
def e6z{cd:Code}(h:Tk prog f9f f166 0=some cd):Ph prog cd=some g4i:=by
 have:(Tk prog f9f f166 0).bind (Ph prog)=some g4i:=by kernel_rfl
 rw[h]at this;exact this
def h6j(args:List AV)(os:List AObj)(h:V6 args os=true)(c:Ctx)(e : ∀ i m,os.length<=i->c.μ0 i m=none):g4d (Eh a2b Ju) (λn cd=>Tk prog f9f f166 n=some cd) b2w c:=by
 rintro n cd b st a w q hr ⟨rfl,g⟩;have h2:os.length=2:=by
  unfold V6 at h;split at h
  ·rfl
  ·cases h
 rw[h2]at e;exact g6z a2b Ju (e6z b) e hr g
def g6w:Y4 prog 166 V6 Dq:=j2w (T:=Vj) (ic:=WZ) (rs:=WY) (E:=b2w) (sel:=f9f) a2b Ju func166 (by kernel_rfl) (by kernel_rfl) (by kernel_rfl) h6j f7s f9v
def i7x:Y4 prog 166 V6 OM:=h5b g6w
def i1p:Y4 prog 165 Gl O6:=PT (T:=Ab) (ic:=Gh) (rs:=Gf) Zb Ju func165 (by kernel_rfl) (by kernel_rfl) (by kernel_rfl) g7n
def BX:ZQ prog 138 (λx:Lin×Lin×Int×Unit=>ZK x.1&&ZK x.2.1) (λx:Lin×Lin×Int×Unit=>Zp x.1 x.2.1 x.2.2.1):=dq c4l (tq func86 CY (tq func165 i1p (tq func166 i7x Zb))) func138
def a8t:ZQ prog 107 (λx:Lin×Lin×Unit=>ZK x.1&&ZK x.2.1) (λx:Lin×Lin×Unit=>Zp x.1 x.2.1 1):=dq e7l (tq func138 BX Zb) func107
def Ob:ZQ prog 106 (λx:Lin×Int×Unit=>ZK x.1) (λx:Lin×Int×Unit=>XO x.1 x.2.1):=dq d4i (tq func138 BX Zb) func106
def e6y:ZQ prog 137 (λ_:Int×Unit=>true) (λx:Int×Unit=>(⟨x.1,[]⟩:Lin)):=dq h6i Zb func137
def a7x:ZQ prog 108 (λx:Lin×Lin×Unit=>ZK x.1&&ZK x.2.1) (λx:Lin×Lin×Unit=>Zp x.1 x.2.1 (-1)):=dq e1v (tq func138 BX Zb) func108
def d2n:ZQ prog 136 (λ_:Str×Unit=>true) (λx:Str×Unit=>JE x.1):=dq h3h Zb func136
def Cz:ZQ prog 79 (λx:Str×Unit=>decide (x.1.s.length<=1048576)) (λx:Str×Unit=>XD x.1):=dq h3p (tq func76 TI (tq func114 a6m Zb)) func79
def i3v:VB prog 80 OH b1o:=Cu (T:=g2v) (ic:=c6m) (rs:=c8q) Zb Ju func80 (by kernel_rfl) (by kernel_rfl) (by kernel_rfl) λps h=>d6l (h0t ps h)
def b0k:ZQ prog 46 (λx:Str×Unit=>decide (x.1.s.length<=1048576)) (λx:Str×Unit=>JR x.1):=dq h1k (tq func70 Kt (tq func71 g7g Zb)) func46
def b0n:ZQ prog 48 (λx:Str×Unit=>decide (x.1.s.length<=1048576)) (λx:Str×Unit=>ZZ x.1):=dq h5d (tq func75 Cr (tq func76 TI (tq func77 Bu (tq func54 Kr (tq func78 Nk (tq func79 Cz (tq func70 Kt (tq func80 i3v Zb)))))))) func48
def EX:ZQ prog 29 (λ_:Str×Unit=>true) (λx:Str×Unit=>UK x.1):=dq h5u (tq func46 b0k (tq func47 f0f (tq func48 b0n Zb))) func29
def i2r:VB prog 115 b1u b6v:=Cu (T:=d0z) (ic:=b4x) (rs:=b6j) Zb Ju func115 (by kernel_rfl) (by kernel_rfl) (by kernel_rfl) λps h=>d6l (f3j ps h)
def b4r:ZQ prog 82 (λ_:Str×Bool×Unit=>true) (λx:Str×Bool×Unit=>Vg x.1 x.2.1):=dq f3i (tq func115 i2r Zb) func82
def Wo: ZM prog 25 Zn Z8 [] [] (λ(s:PS) (a:Int×Unit)=>Zu s&&(decide (0<=a.1)&&decide (a.1<=1000))) a2z:=H8 (h6o) Zx Zb func25
def J7: ZM prog 31 Zn Z8 [] [] (λ(s:PS) (_:Unit)=>Zu s) a7y:=H8 (h0n) Zx (tq func25 Wo Zb) func31
def Q4: ZM prog 24 Zn Z8 [] [] (λ(s:PS) (_:Str×Unit)=>Zu s) Lh:=H8 (g8b) Zx (tq func25 Wo Zb) func24
def Vv: ZM prog 22 Zn Z8 [] [] (λ(s:PS) (_:Str×Unit)=>Zu s) a5i:=H8 (g6j) Zx (tq func24 Q4 Zb) func22
def Cb: ZM prog 20 Zn Z8 [] [] (λ(s:PS) (_:Str×Unit)=>Zu s) a0o:=H8 (g6o) Zx (tq func22 Vv (tq func31 J7 Zb)) func20
def Re: ZM prog 21 Zn Z8 [] [] (λ(s:PS) (_:Unit)=>Zu s) a0j:=H8 (h1t) Zx (tq func25 Wo (tq func31 J7 Zb)) func21
def Uu: ZM prog 81 Zn Z8 [] [] (λ(s:PS) (_:Int×Unit)=>Zu s) c4z:=H8 (h0c) Zx (tq func25 Wo (tq func79 Cz (tq func31 J7 Zb))) func81
def a3m: ZM prog 105 Zn Z8 [] [] (λ(s:PS) (_:Lin×Int×Unit)=>Zu s) a8w:=H8 (g9r) Zx Zb func105
def c9k: ZM prog 104 Zn Z8 [] [] (λ(s:PS) (_:Unit)=>Zu s) a7c:=H8 (h0s) Zx (tq func25 Wo (tq func21 Re (tq func136 d2n (tq func81 Uu (tq func105 a3m (tq func106 Ob (tq func137 e6y Zb))))))) func104
def PR: ZM prog 68 Zn Z8 [] [] (λ(s:PS) (_:Unit)=>Zu s) e5k:=H8 (g6p) Zx (tq func22 Vv (tq func104 c9k (tq func105 a3m (tq func106 Ob (tq func107 a8t (tq func108 a7x (tq func86 CY Zb))))))) func68
def c0g: ZM prog 67 (mkL 68) unU [] [] (λ(s:PS) (_:Unit)=>Zu s) (UI PS.linear):=H8 (g7y) (b1t _) (tq func68 PR (tq func22 Vv Zb)) func67
def AZ: ZM prog 118 Zn Z8 [] [] (λ(s:PS) (_:Unit)=>Zu s) a7r:=H8 (h3j) Zx (tq func21 Re (tq func22 Vv Zb)) func118
def a2q: ZM prog 51 Zn Z8 [] [] (λ(s:PS) (_:Unit)=>Zu s) a0m:=H8 (h0v) Zx (tq func25 Wo (tq func82 b4r Zb)) func51
def a9v: ZM prog 148 e3y unU [.box [.ptr 1 0]] [] (λ(s:PS) (_:Unit)=>Zu s) a7q:=H8 (g8h) d8u (tq func81 Uu Zb) func148
def c2r: ZM prog 147 (e4d 148) unU [] [.box [.ptr 0 0]] (λ(s:PS) (_:Unit)=>Zu s) (UI PS.numM):=H8 (g9l) (d6z _) (tq func148 a9v (tq func22 Vv Zb)) func147
def a1m: ZM prog 119 Zn Z8 [] [] (λ(s:PS) (_:Unit)=>Zu s) e4z:=H8 (h1l) Zx (tq func25 Wo (tq func20 Cb (tq func81 Uu (tq func24 Q4 (tq func22 Vv Zb))))) func119
def e3i{N:Nat}(a:ZM prog 13 Zn Z8 [] [] (λ(s:PS) (_:Unit)=>Zu s&&decide (s.l.length - s.i<N)) (Bg N)):ZM prog 117 (mkL 13) unU [] [] (λ(s:PS) (_:Unit)=>Zu s&&decide (s.l.length - s.i<N)) (UI (Yd N)):=H8 (h2v N) (b1t _) (tq func13 a (tq func22 Vv Zb)) func117
def e6k{N:Nat}(a:ZM prog 117 (mkL 13) unU [] [] (λ(s:PS) (_:Unit)=>Zu s&&decide (s.l.length - s.i<N)) (UI (Yd N))):ZM prog 116 Zn Z8 [] [] (λ(s:PS) (_:Unit)=>Zu s&&decide (s.l.length - s.i<N+1)) (J2 N):=H8 ((f7k N)) Zx (tq func25 Wo (tq func118 AZ (tq func90 GU (tq func24 Q4 (tq func22 Vv (tq func67 c0g (tq func20 Cb (tq func81 Uu (tq func147 c2r (tq func117 a Zb)))))))))) func116
def e2a{N:Nat}(a:ZM prog 13 Zn Z8 [] [] (λ(s:PS) (_:Unit)=>Zu s&&decide (s.l.length - s.i<N)) (Bg N))(b:ZM prog 117 (mkL 13) unU [] [] (λ(s:PS) (_:Unit)=>Zu s&&decide (s.l.length - s.i<N)) (UI (Yd N)))(hn:ZM prog 116 Zn Z8 [] [] (λ(s:PS) (_:Unit)=>Zu s&&decide (s.l.length - s.i<N+1)) (J2 N)):ZM prog 83 Zn Z8 [] [] (λ(s:PS) (_:Unit)=>Zu s&&decide (s.l.length - s.i<N+1)) (a3e N):=H8 ((g6m N)) Zx (tq func25 Wo (tq func81 Uu (tq func116 hn (tq func24 Q4 (tq func22 Vv (tq func13 a (tq func20 Cb (tq func117 b (tq func118 AZ (tq func68 PR (tq func119 a1m (tq func31 J7 Zb)))))))))))) func83
def e8a{N:Nat}(hu:ZM prog 50 Zn Z8 [] [] (λ(s:PS) (_:Unit)=>Zu s&&decide (s.l.length - s.i<N)) (unF N))(a:ZM prog 83 Zn Z8 [] [] (λ(s:PS) (_:Unit)=>Zu s&&decide (s.l.length - s.i<N+1)) (a3e N)):ZM prog 50 Zn Z8 [] [] (λ(s:PS) (_:Unit)=>Zu s&&decide (s.l.length - s.i<N+1)) (unF (N+1)):=H8 ((h1u N)) Zx (tq func25 Wo (tq func24 Q4 (tq func81 Uu (tq func82 b4r (tq func50 hu (tq func83 a Zb)))))) func50
def a1t{N:Nat}(b:ZM prog 50 Zn Z8 [] [] (λ(s:PS) (_:Unit)=>Zu s&&decide (s.l.length - s.i<N+1)) (unF (N+1))): ∀ m:Nat,ZM prog 49 mkB unI [.box [.ptr 2 0],.box [.fn 49 [] [.ptr 0 0,.ptr 1 0]]] [] (λ(s:PS) (a:Int×Unit)=>(Zu s&&decide (s.l.length - s.i<N+1))&&(decide (1<=a.1)&&(decide ((6 - (m:Int))<a.1)&&decide (a.1<=6)))) (Qv (N+1))
 | 0=>Iu (λs a=>by
   rw[IB];intro h;simp only[Ia,decide_eq_true_eq]at h
   omega)
 | m+1=>by have e:=a1t b m;rw[show(6 - ((m+1:Nat):Int))=6 - (m:Int) - 1 by omega];exact H8 (g7a N (6 - (m:Int))) b6h (tq func50 b (tq func49 e (tq func51 a2q Zb))) func49
def e4w{N:Nat}(b:ZM prog 50 Zn Z8 [] [] (λ(s:PS) (_:Unit)=>Zu s&&decide (s.l.length - s.i<N+1)) (unF (N+1))):ZM prog 49 mkB unI [.box [.ptr 2 0],.box [.fn 49 [] [.ptr 0 0,.ptr 1 0]]] [] (λ(s:PS) (a:Int×Unit)=>(Zu s&&decide (s.l.length - s.i<N+1))&&(decide (1<=a.1)&&decide (a.1<=6))) (Qv (N+1)):=Iz b6h (a1t b 6) (λs a h=>by
  simp only[Ia,decide_eq_true_eq]at h ⊢
  exact⟨h.1,h.2.1,by have:=h.2.1;show(6:Int) - 6<_;omega,h.2.2⟩) (λ_ _ _=>rfl)
def e5w{N:Nat}(hb:ZM prog 49 mkB unI [.box [.ptr 2 0],.box [.fn 49 [] [.ptr 0 0,.ptr 1 0]]] [] (λ(s:PS) (a:Int×Unit)=>(Zu s&&decide (s.l.length - s.i<N+1))&&(decide (1<=a.1)&&decide (a.1<=6))) (Qv (N+1))):ZM prog 30 Zn Z8 [] [] (λ(s:PS) (_:Unit)=>Zu s&&decide (s.l.length - s.i<N+1)) (d4a (N+1)):=H8 ((h3y N)) Zx (tq func49 hb Zb) func30
def e4q{N:Nat}(a:ZM prog 13 Zn Z8 [] [] (λ(s:PS) (_:Unit)=>Zu s&&decide (s.l.length - s.i<N)) (Bg N))(hb:ZM prog 30 Zn Z8 [] [] (λ(s:PS) (_:Unit)=>Zu s&&decide (s.l.length - s.i<N+1)) (d4a (N+1))):ZM prog 13 Zn Z8 [] [] (λ(s:PS) (_:Unit)=>Zu s&&decide (s.l.length - s.i<N+1)) (Bg (N+1)):=H8 (h0a N) Zx (tq func24 Q4 (tq func30 hb (tq func25 Wo (tq func21 Re (tq func20 Cb (tq func13 a Zb)))))) func13
def d6u: ∀ N:Nat,ZM prog 13 Zn Z8 [] [] (λ(s:PS) (_:Unit)=>Zu s&&decide (s.l.length - s.i<N)) (Bg N)∧ZM prog 50 Zn Z8 [] [] (λ(s:PS) (_:Unit)=>Zu s&&decide (s.l.length - s.i<N)) (unF N)
 | 0=>⟨Iu (λs a=>by simp),Iu (λs a=>by simp)⟩
 | N+1=>by obtain⟨e,hu⟩:=d6u N;have g:=e3i e;have b:=e8a hu (e2a e g (e6k g));exact⟨e4q e (e5w (e4w b)),b⟩
def c7m:ZM prog 13 Zn Z8 [] [] (λ(s:PS) (_:Unit)=>Zu s) b3h:=Iz Zx (d6u 4001).1 (λs a h=>by
  have h0:=(ZX h).1;rw[h]
  exact decide_eq_true (by omega)) (λ_ _ _=>rfl)
def e6n: ZM prog 14 Zn Z8 [] [] (λ(s:PS) (_:Unit)=>Zu s) a5u:=H8 (h6e) Zx (tq func31 J7 Zb) func14
def j2a:Y4 prog 12 MG b0h:=PT (T:=d8q) (ic:=b5d) (rs:=b2g) (tq func29 EX Zb) Ju func12 (by kernel_rfl) (by kernel_rfl) (by kernel_rfl) g8i
def c6s:ZQ prog 5 (λx:Str×Unit=>decide (x.1.s.length<=1048576)) (λx:Str×Unit=>Wq x.1):=dq h0y (tq func12 j2a (tq func13 c7m (tq func14 e6n (tq func15 Tu Zb)))) func5
def b3x:ZQ prog 186 (λ_:UInt8×Unit=>true) (λx:UInt8×Unit=>digB x.1):=dq f8d Zb func186
def a4x:ZQ prog 187 (λ_:UInt8×Unit=>true) (λx:UInt8×Unit=>lowB x.1):=dq f0n Zb func187
def Nt:ZQ prog 163 (λ_:Int×Unit=>true) (λx:Int×Unit=>Yt x.1):=dq c6q Zb func163
def c0o:ZQ prog 164 (λ_:Str×Unit=>true) (λx:Str×Unit=>Y3 x.1):=dq e6p (tq func186 b3x (tq func187 a4x Zb)) func164
def Uq:ZQ prog 134 (λx:Lin×Unit=>XJ x.1) (λx:Lin×Unit=>Zj x.1):=dq c9s (tq func163 Nt (tq func164 c0o Zb)) func134
def c7o:ZQ prog 183 (λ_:Str×Unit=>true) (λx:Str×Unit=>(⟨0,[⟨x.1,1⟩]⟩:Lin)):=dq h1s Zb func183
def g4k:Y4 prog 197 De Dl:=PT (T:=YT) (ic:=Yw) (rs:=Yq) Zb Ju func197 (by kernel_rfl) (by kernel_rfl) (by kernel_rfl) e1w
def f8j:Y4 prog 197 DD Tg:=e2w g4k
def e3q:Y4 prog 185 CB Tf:=PT (T:=KI) (ic:=Qb) (rs:=Qf) (tq func197 f8j Zb) Ju func185 (by kernel_rfl) (by kernel_rfl) (by kernel_rfl) c8o
def D7:ZQ prog 185 (λx:Lin×Lin×Int×Unit=>decide (x.1.t.length<=500000)&&decide (x.2.1.t.length<=500000)) (λx:Lin×Lin×Int×Unit=>Yr x.1 x.2.1 x.2.2.1):=d2o e3q
def Hq:ZQ prog 184 (λx:Lin×Unit=>XJ x.1) (λx:Lin×Unit=>Cv x.1):=dq b3q (tq func134 Uq Zb) func184
def c7x:ZQ prog 158 (λx:Lin×Lin×Unit=>ZK x.1&&ZK x.2.1) (λx:Lin×Lin×Unit=>Zp x.1 x.2.1 (1)):=dq e7a (tq func134 Uq (tq func185 D7 (tq func184 Hq Zb))) func158
def d2c:ZQ prog 157 (λx:Lin×Lin×Unit=>ZK x.1&&ZK x.2.1) (λx:Lin×Lin×Unit=>Zp x.1 x.2.1 (-1)):=dq e4c (tq func134 Uq (tq func185 D7 (tq func184 Hq Zb))) func157
def b6r:ZQ prog 182 (λx:Lin×Int×Unit=>ZK x.1) (λx:Lin×Int×Unit=>XO x.1 x.2.1):=dq c1g (tq func134 Uq (tq func163 Nt (tq func185 D7 (tq func184 Hq Zb)))) func182
def g0u:VB prog 160 DX X0:=Cu (T:=XT) (ic:=Xf) (rs:=Xi) Zb Ju func160 (by kernel_rfl) (by kernel_rfl) (by kernel_rfl) e5y
def e4p:ZQ prog 160 (λ_:List Int×Unit=>true) (λx:List Int×Unit=>Wn x.1):=ZQ.ofPure g0u λ⟨l,_⟩ h=>⟨by show(nums l).all PV.isNum=true;simp,by show Zg _ (.tup [.int .i64 (Wn ((nums l).map PV.asInt)).1,.int .i64 (Wn ((nums l).map PV.asInt)).2]);rw[Wi];exact ZF (x:=Wn l) rfl⟩
def e3t:ZQ prog 162 (λx:List Int×Unit=>decide (x.1.length<=2000000)) (λx:List Int×Unit=>x.1):=dq e7c Zb func162
def a5c:ZQ prog 161 (λ_:Str×Int×Unit=>true) (λx:Str×Int×Unit=>VG x.1 x.2.1):=dq f5d Zb func161
def d0m:ZQ prog 133 (λx:Str×List Int×List Int×Unit=>decide (x.2.1.length<=2000000)&&decide (x.2.2.1.length<=2000000)) (λx:Str×List Int×List Int×Unit=>BL x.1 x.2.1 x.2.2.1):=dq e6l (tq func160 e4p (tq func161 a5c (tq func162 e3t Zb))) func133
def a5b:ZQ prog 101 (λx:Arr×Unit=>a1w x.1) (λx:Arr×Unit=>a0e x.1):=dq f3k (tq func133 d0m Zb) func101
def Nr:ZQ prog 91 (λ_:UInt8×Unit=>true) (λx:UInt8×Unit=>lowB x.1):=dq d2f Zb func91
def CU:ZQ prog 92 (λ_:UInt8×Unit=>true) (λx:UInt8×Unit=>digB x.1):=dq d5i Zb func92
def Bf:ZQ prog 93 (λ_:Str×Unit=>true) (λx:Str×Unit=>U5.contains x.1.s):=dq g2n Zb func93
def Ky:ZQ prog 94 (λx:Str×Unit=>decide (x.1.s.length<=1048576)) (λx:Str×Unit=>nameI x.1.s):=dq e7e (tq func91 Nr (tq func92 CU (tq func93 Bf Zb))) func94
def a5e:ZQ prog 135 (λx:Str×Unit=>decide (x.1.s.length<=1048576)) (λx:Str×Unit=>fullI x.1.s):=dq e4n (tq func94 Ky Zb) func135
def Ou:ZQ prog 103 (λx:Str×Unit=>decide (x.1.s.length<=1048576)) (λx:Str×Unit=>fnI x.1.s):=dq f3v (tq func94 Ky (tq func135 a5e Zb)) func103
def b1q:ZQ prog 100 (λx:Tm×Bool×Bool×Bool×Bool×Bool×Unit=>nW x.1) (λx:Tm×Bool×Bool×Bool×Bool×Bool×Unit=>YW x.1.nd x.2.1 x.2.2.1 x.2.2.2.1 x.2.2.2.2.1 x.2.2.2.2.2.1):=dq c9o Zb func100
def a4y:ZQ prog 102 (λx:List Lin×Unit=>decide (x.1.length<=1048576)&&x.1.all XJ) (λx:List Lin×Unit=>x.1.all Zj):=dq g3u (tq func134 Uq Zb) func102
def b9f:ZQ prog 66 (λx:Tm×Unit=>nW x.1) (λx:Tm×Unit=>Pk x.1):=dq e4a (tq func94 Ky (tq func100 b1q (tq func103 Ou (tq func102 a4y (tq func101 a5b Zb))))) func66
def d0v:ZQ prog 42 (λx:Tm×Unit=>gW x.1) (λx:Tm×Unit=>AC x.1):=ZQ.rec (λa=>Xe a.1) λN b=>dq (g5b N) (tq func42 b (tq func66 b9f Zb)) func42
def a4w:ZQ prog 41 (λx:Tm×Unit=>gW x.1) (λx:Tm×Unit=>(Xe x.1:Int)):=ZQ.rec (λa=>Xe a.1) λN b=>dq (e9j N) (tq func41 b Zb) func41
def b0f:ZQ prog 40 (λx:Tm×Unit=>gW x.1) (λx:Tm×Unit=>(YQ x.1:Int)):=ZQ.rec (λa=>Xe a.1) λN b=>dq (e7i N) (tq func40 b Zb) func40
def a4t:ZQ prog 19 (λx:Tm×Unit=>gW x.1) (λx:Tm×Unit=>WO x.1):=dq d1p (tq func40 b0f (tq func41 a4w (tq func42 d0v Zb))) func19
def Ot:ZQ prog 99 (λ_:Str×Bool×Unit=>true) (λx:Str×Bool×Unit=>Vg x.1 x.2.1):=dq f4v Zb func99
def TA:ZQ prog 95 (λx:Str×Unit=>decide (x.1.s.length<=1048576)) (λx:Str×Unit=>XD x.1):=dq h4w (tq func92 CU Zb) func95
def Ez:ZQ prog 96 (λx:Str×Unit=>decide (x.1.s.length<=1048576)) (λx:Str×Unit=>(Zv Zz x.1.s).2):=dq g9y Zb func96
def b1m:ZQ prog 61 (λx:Str×Unit=>decide (x.1.s.length<=1048576)&& !x.1.s.isEmpty) (λx:Str×Unit=>(⟨(ZZ x.1).1,(ZZ x.1).2,0,0⟩:Tok)):=dq g7w (tq func91 Nr (tq func92 CU (tq func93 Bf (tq func94 Ky (tq func95 TA (tq func96 Ez Zb)))))) func61
def b3b:ZQ prog 60 (λx:Str×Int×Unit=>decide (x.1.s.length<=1048576)&&(decide (0<=x.2.1)&&decide (x.2.1<=x.1.s.length))) (λx:Str×Int×Unit=>((Z6 (x.1.s.length+1) x.1.s x.2.1.toNat:Nat):Int)):=dq h3u Zb func60
def b8j:ZQ prog 34 (λx:Str×Unit=>decide (x.1.s.length<=1048576)) (λx:Str×Unit=>UK x.1):=dq h5s (tq func60 b3b (tq func61 b1m Zb)) func34
def a0r: ZM prog 62 Zn Z8 [] [] (λ(s:RS) (_:Str×Unit)=>ZA s) e2v:=H8 (g9d) Zx Zb func62
def Wt: ZM prog 36 Zn Z8 [] [] (λ(s:RS) (_:Str×Unit)=>ZA s) BB:=H8 (h2d) Zx (tq func62 a0r Zb) func36
def Q5: ZM prog 39 Zn Z8 [] [] (λ(s:RS) (_:Str×Unit)=>ZA s) R5:=H8 (h5l) Zx (tq func36 Wt Zb) func39
def U3: ZM prog 65 Zn Z8 [] [] (λ(s:RS) (_:Int×Unit)=>ZA s) NU:=H8 (h1w) Zx Zb func65
def C8: ZM prog 35 Zn Z8 [] [] (λ(s:RS) (_:Unit)=>ZA s) MJ:=H8 (g7p) Zx Zb func35
def RB: ZM prog 38 Zn Z8 [] [] (λ(s:RS) (_:Unit)=>ZA s) Fy:=H8 (g7o) Zx (tq func65 U3 Zb) func38
def Qr: ZM prog 97 Zn Z8 [] [] (λ(s:RS) (_:Int×Unit)=>ZA s) a8v:=H8 (h1f) Zx (tq func65 U3 (tq func95 TA Zb)) func97
def Ty: ZM prog 159 mkC unC [] [] (λ(s:RS) (a:Bool×Lin×Int×Unit)=>ZA s&&(ZK a.2.1&&(!a.1||a.2.1.t.isEmpty))) a3u:=H8 (g7k) c9p (tq func134 Uq Zb) func159
def c9l: ZM prog 156 Zn Z8 [] [] (λ(s:RS) (_:Unit)=>ZA s) Mo:=H8 (h3q) Zx (tq func65 U3 (tq func97 Qr (tq func159 Ty (tq func38 RB (tq func183 c7o (tq func182 b6r Zb)))))) func156
def a0g: ZM prog 131 Zn Z8 [] [] (λ(s:RS) (_:Unit)=>ZA s) Lx:=H8 (g5v) Zx (tq func36 Wt (tq func156 c9l (tq func157 d2c (tq func158 c7x (tq func159 Ty Zb))))) func131
def c3f: ZM prog 155 Zn Z8 [] [] (λ(s:RS) (_:Unit)=>ZA s) SY:=H8 (g7f) Zx (tq func131 a0g (tq func36 Wt Zb)) func155
def BS: ZM prog 154 Zn Z8 [] [] (λ(s:RS) (_:Unit)=>ZA s) FD:=H8 (g8y) Zx (tq func38 RB (tq func36 Wt Zb)) func154
def a3n: ZM prog 64 Zn Z8 [] [] (λ(s:RS) (_:Int×Unit)=>ZA s) Mm:=H8 (h4e) Zx (tq func65 U3 (tq func99 Ot Zb)) func64
def EF: ZM prog 130 Zn Z8 [] [] (λ(s:RS) (_:Int×Unit)=>ZA s) a8n:=H8 (h4p) Zx (tq func65 U3 (tq func39 Q5 (tq func97 Qr (tq func62 a0r (tq func36 Wt Zb))))) func130
def e6j{N:Nat}(a:ZM prog 17 Zn Z8 [] [] (λ(s:RS) (_:Unit)=>ZA s&&decide (s.l.length - s.i<N)) (Qs N)):ZM prog 129 Zn Z8 [] [] (λ(s:RS) (_:Str×Unit)=>ZA s&&decide (s.l.length - s.i<N)) (Ct N):=H8 ((h6a N)) Zx (tq func17 a (tq func36 Wt (tq func39 Q5 Zb))) func129
def e3r{N:Nat}(a:ZM prog 129 Zn Z8 [] [] (λ(s:RS) (_:Str×Unit)=>ZA s&&decide (s.l.length - s.i<N)) (Ct N)):ZM prog 128 Zn Z8 [] [] (λ(s:RS) (_:Int×Unit)=>(ZA s&&decide (s.l.length - s.i<N+1))&&s.kind 1) (RN N):=H8 ((h2a N)) Zx (tq func154 BS (tq func62 a0r (tq func36 Wt (tq func155 c3f (tq func39 Q5 (tq func97 Qr (tq func129 a Zb))))))) func128
def e4g{N:Nat}(a:ZM prog 17 Zn Z8 [] [] (λ(s:RS) (_:Unit)=>ZA s&&decide (s.l.length - s.i<N)) (Qs N)):ZM prog 132 Zn Z8 [] [] (λ(s:RS) (_:Int×Unit)=>ZA s&&decide (s.l.length - s.i<N+1)) (R6 N):=H8 ((g8v N)) Zx (tq func36 Wt (tq func39 Q5 (tq func154 BS (tq func17 a Zb)))) func132
def e3f{N:Nat}(a:ZM prog 17 Zn Z8 [] [] (λ(s:RS) (_:Unit)=>ZA s&&decide (s.l.length - s.i<N)) (Qs N))(b:ZM prog 129 Zn Z8 [] [] (λ(s:RS) (_:Str×Unit)=>ZA s&&decide (s.l.length - s.i<N)) (Ct N))(hc:ZM prog 128 Zn Z8 [] [] (λ(s:RS) (_:Int×Unit)=>(ZA s&&decide (s.l.length - s.i<N+1))&&s.kind 1) (RN N))(ho:ZM prog 132 Zn Z8 [] [] (λ(s:RS) (_:Int×Unit)=>ZA s&&decide (s.l.length - s.i<N+1)) (R6 N)):ZM prog 98 Zn Z8 [] [] (λ(s:RS) (_:Unit)=>ZA s&&decide (s.l.length - s.i<N+1)) (TH N):=H8 ((h4s N)) Zx (tq func35 C8 (tq func65 U3 (tq func97 Qr (tq func36 Wt (tq func128 hc (tq func17 a (tq func39 Q5 (tq func129 b (tq func130 EF (tq func131 a0g (tq func132 ho Zb))))))))))) func98
def e6u{N:Nat}(hu:ZM prog 63 Zn Z8 [] [] (λ(s:RS) (_:Unit)=>ZA s&&decide (s.l.length - s.i<N)) (OC N))(a:ZM prog 98 Zn Z8 [] [] (λ(s:RS) (_:Unit)=>ZA s&&decide (s.l.length - s.i<N+1)) (TH N)):ZM prog 63 Zn Z8 [] [] (λ(s:RS) (_:Unit)=>ZA s&&decide (s.l.length - s.i<N+1)) (OC (N+1)):=H8 ((h1j N)) Zx (tq func35 C8 (tq func36 Wt (tq func65 U3 (tq func97 Qr (tq func63 hu (tq func98 a Zb)))))) func63
def EW{N:Nat}(b:ZM prog 63 Zn Z8 [] [] (λ(s:RS) (_:Unit)=>ZA s&&decide (s.l.length - s.i<N+1)) (OC (N+1))): ∀ m:Nat,ZM prog 37 Zn Z8 [] [] (λ(s:RS) (a:Int×Unit)=>(ZA s&&decide (s.l.length - s.i<N+1))&&(decide (1<=a.1)&&(decide ((6 - (m:Int))<a.1)&&decide (a.1<=6)))) (Ql (N+1))
 | 0=>Iu (λs a=>by
   rw[IB];intro h;simp only[Ia,decide_eq_true_eq]at h
   omega)
 | m+1=>by have e:=EW b m;rw[show(6 - ((m+1:Nat):Int))=6 - (m:Int) - 1 by omega];exact H8 (h4v N (6 - (m:Int))) Zx (tq func35 C8 (tq func37 e (tq func63 b (tq func64 a3n Zb)))) func37
def e5z{N:Nat}(b:ZM prog 63 Zn Z8 [] [] (λ(s:RS) (_:Unit)=>ZA s&&decide (s.l.length - s.i<N+1)) (OC (N+1))):ZM prog 37 Zn Z8 [] [] (λ(s:RS) (a:Int×Unit)=>(ZA s&&decide (s.l.length - s.i<N+1))&&(decide (1<=a.1)&&decide (a.1<=6))) (Ql (N+1)):=Iz Zx (EW b 6) (λs a h=>by
  simp only[Ia,decide_eq_true_eq]at h ⊢
  exact⟨h.1,h.2.1,by have:=h.2.1;show(6:Int) - 6<_;omega,h.2.2⟩) (λ_ _ _=>rfl)
def e2i{N:Nat}(b:ZM prog 17 Zn Z8 [] [] (λ(s:RS) (_:Unit)=>ZA s&&decide (s.l.length - s.i<N)) (Qs N))(hb:ZM prog 37 Zn Z8 [] [] (λ(s:RS) (a:Int×Unit)=>(ZA s&&decide (s.l.length - s.i<N+1))&&(decide (1<=a.1)&&decide (a.1<=6))) (Ql (N+1))):ZM prog 17 Zn Z8 [] [] (λ(s:RS) (_:Unit)=>ZA s&&decide (s.l.length - s.i<N+1)) (Qs (N+1)):=H8 (g8f N) Zx (tq func35 C8 (tq func36 Wt (tq func37 hb (tq func38 RB (tq func39 Q5 (tq func17 b Zb)))))) func17
def d5m: ∀ N:Nat,ZM prog 17 Zn Z8 [] [] (λ(s:RS) (_:Unit)=>ZA s&&decide (s.l.length - s.i<N)) (Qs N)∧ZM prog 63 Zn Z8 [] [] (λ(s:RS) (_:Unit)=>ZA s&&decide (s.l.length - s.i<N)) (OC N)
 | 0=>⟨Iu (λs a=>by simp),Iu (λs a=>by simp)⟩
 | N+1=>by obtain⟨e,hu⟩:=d5m N;have g:=e6j e;have b:=e6u hu (e3f e g (e3r g) (e4g e));exact⟨e2i e (e5z b),b⟩
def c4v:ZM prog 17 Zn Z8 [] [] (λ(s:RS) (_:Unit)=>ZA s) OU:=Iz Zx (d5m 4001).1 (λs a h=>by
  have h0:=(ZY h).1;rw[h]
  exact decide_eq_true (by omega)) (λ_ _ _=>rfl)
def e4t: ZM prog 18 Zn Z8 [] [] (λ(s:RS) (a:Str×Unit)=>ZA s&&decide (a.1.s.length<=1048576)) a6o:=H8 (h4a) Zx Zb func18
def i3o:Y4 prog 16 Li b5q:=PT (T:=d6x) (ic:=b6l) (rs:=b3c) (tq func34 b8j Zb) Ju func16 (by kernel_rfl) (by kernel_rfl) (by kernel_rfl) h3r
def b1n:ZQ prog 6 (λx:Str×Unit=>decide (x.1.s.length<=1048576)) (λx:Str×Unit=>Gy x.1):=dq h0b (tq func16 i3o (tq func17 c4v (tq func18 e4t (tq func19 a4t Zb)))) func6
def e5h:ZQ prog 27 (λx:List Int×List Int×Unit=>decide (x.1.length<=1048576)) (λx:List Int×List Int×Unit=>decide (x.1=x.2.1)):=dq h5a Zb func27
def e4i:ZQ prog 28 (λx:Lin×Lin×Unit=>decide (x.1.t.length<=1048576)) (λx:Lin×Lin×Unit=>decide (x.1=x.2.1)):=dq h1e Zb func28
def b6x:ZQ prog 9 (λx:Tm×Tm×Unit=>tW x.1&&tW x.2.1) (λx:Tm×Tm×Unit=>eqM x.1 x.2.1):=ZQ.rec (λa=>Xe a.1) λN b=>dq (h2f N) (tq func27 e5h (tq func28 e4i (tq func9 b Zb))) func9
def b5h:ZQ prog 7 (λx:Tm×Tm×Unit=>tW x.1&&tW x.2.1) (λx:Tm×Tm×Unit=>exM x.1 x.2.1):=ZQ.rec (λa=>Xe a.1) λN b=>dq (h4f N) (tq func9 b6x (tq func7 b Zb)) func7
def c4c:ZQ prog 5 (λx:Str×Unit=>decide (x.1.s.length<=1048576)) (λx:Str×Unit=>r3S (Wq x.1)):=c6s.encEq λa=>d5w _
def a4u:ZQ prog 6 (λx:Str×Unit=>decide (x.1.s.length<=1048576)) (λx:Str×Unit=>r3S (Gy x.1)):=b1n.encEq λa=>d5w _
noncomputable def ivC(f:Nat):Option (IC×Nat×List IRes):=e1s prog f
def b4p:ZQ prog 4 (λ_:Unit=>true) (λ_:Unit=>true):=ZQ.iv (C:=ivC) (λ_ _ h=>h) (Oc EX func29 (by kernel_rfl) (Oc Cz func79 (by kernel_rfl) (Oc GU func90 (by kernel_rfl) (Oc b4r func82 (by kernel_rfl) (Oc a8t func107 (by kernel_rfl) (Oc a7x func108 (by kernel_rfl) (Oc Ni func86 (by kernel_rfl) (Oc Tu func15 (by kernel_rfl) Zb)))))))) Ju 50 60 (λ_ _=>⟨.bool true,by kernel_rfl,rfl,rfl⟩)
def Pi:ZQ prog 3 (λ_:Str×Unit=>true) (λ_:Str×Unit=>true):=dq e7q (tq func4 b4p (tq func5 c4c (tq func6 a4u (tq func7 b5h Zb)))) func3
end Go.Proofs.YtjndoclcicfbcaaGreatDoor
