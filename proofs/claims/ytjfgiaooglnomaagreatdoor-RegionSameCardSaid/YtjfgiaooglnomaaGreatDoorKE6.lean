/-
  Texts of mine that belong together (packed by pack.py), for every input: Post, PlGl, LaidY, Sh, ShB, OkCe, ShE, OkGa, OkN, OkR, Int10, Irp, VwS, VwT, OkGb, OkGl, OpY, PlGs, OpG.
-/
import Derived.Test.YtjfgiaooglnomaaGreatDoorChecked
import Derived.Test.YtjfgiaooglnomaaGreatDoorRows
import Derived.Test.YtjfgiaooglnomaaGreatDoorKE2
import Derived.Test.YtjfgiaooglnomaaGreatDoorKE3
import Derived.Test.YtjfgiaooglnomaaGreatDoorKE4
import Derived.Test.YtjfgiaooglnomaaGreatDoorKE5
import Derived.Below
import Derived.ChangeSame
import Derived.ChangeShapes
import Derived.ChangeSlices
import Derived.WideShapes
import Derived.RowKit
import Derived.Stop.LaidErr
import Derived.Lib.LaidTab
import Derived.Shelf.Strconv.AtoiAll
import Derived.Shelf.Strconv.Itoa3
import Derived.Shelf.Strings.Prefix
import Derived.Shelf.Sort.Plain
import Derived.Shelf.Small.Strs
import Derived.Shelf.Slices.In.SortNone
import Derived.KernelRfl
import Derived.Shelf.Slices.Clone
import Derived.Shelf.Slices.CompactS
import Derived.BigQuiet
import Derived.Calls
import Derived.Deep.AppendLies
import Derived.Deep.DeepCutAuto
import Derived.Deep.Draws
import Derived.Deep.QuietTactic
import Derived.Deep.RegionHeld3
import Derived.Deep.RegionWith
import Derived.IntWalk
import Derived.Laws.Bits64b
import Derived.Laws.Externs
import Derived.Laws.OwnMore
import Derived.Laws.Rows
import Derived.Lib.Hide
import Derived.Lib.Mul64
import Derived.Outline
import Derived.WalkKit
import Derived.WalkLawsBesides
import Derived.WalkSpells
import Derived.RangeFuncBox
import Derived.RangeFuncLeaves
import Derived.RangeFuncNested
import Derived.RangeFuncCalls
import Derived.Shelf.Abstract
import Derived.OwnWalkIn
import Derived.TacticsInMore
import Derived.LoopNIn
import Derived.LoopIn
import Derived.Maps.AppendAt
import Derived.Sort.LoopGhostIn
set_option linter.unusedVariables false
set_option linter.unusedSimpArgs false
namespace Go.Proofs.YtjfgiaooglnomaaGreatDoor
open Go.RowKit Go.WideShapes Go.ChangeShapes
section
variable {H:Type} {enc:TypeId×Value->H} {P:Program}
theorem TD{f:Func}{s:ChangeSpec}{apart fresh handsOn again:Bool}{W W':World}{args:Array Value}{v:Value}{ds gs:List (DataW H)}{before pa pv:List MemPlace}
  (hW:DataW.Whole enc P f.params.toList s.vars apart W args.toList ds gs before)
  (hres : ∀ (b:Nat) (sp:Nat->Bool) (hd:Bool),DataW.TrodAll enc P W' b sp hd f.resultTypes.toList (v.resultList f.resultTypes.size) (s.fn H (ds++gs)).results [])
  (hargs : ∀ sp:Nat->Bool,(∀ p∈before,sp p.block=true)->DataW.TrodAll enc P W' 0 sp true f.params.toList args.toList (s.fn H (ds++gs)).args pa)
  (hvars : ∀ sp:Nat->Bool,(∀ p∈before,sp p.block=true)->DataW.TrodVars enc P W' sp s.vars (s.fn H (ds++gs)).vars pv)
  (hps:before=pa++pv) (hb:Below W.heap.size W W')
  (hok : ∀ (j:Nat) (t:TypeId) (r:Value),f.resultTypes[j]? = some t->(v.resultList f.resultTypes.size)[j]? = some r->Value.okWide P W' .any 0 t r) :
  s.post enc P f apart fresh handsOn again W args v W':=by
 have hlt : ∀ p∈before,p.block<W.heap.size:=fun p hp=>hW.lt p hp
 have hold : ∀ p∈before,(fun b=>decide (b<W.heap.size)) p.block=true:=fun p hp=>by simpa using hlt p hp
 refine⟨ds,gs,before,[],pa,pv,hW,hres _ _ _,hargs _ hold,hvars _ hold,World.keptBut_mono (fun p hp=>⟨hp,?_⟩) (hb.frame (· ∈ before)),fun _=> ?_⟩
 ·rw[hps,List.mem_append]at hp
  exact Or.inr hp
 ·obtain⟨_,_,_,_,_,hz,hn⟩:=hW
  refine⟨hok,_,_,([]++pa)++pv,⟨[]++pa,pv,trodAll_append (hargs _ (fun _ _=>rfl)) (hres _ _ _),hvars _ (fun _ _=>rfl),rfl,?_,?_⟩,?_⟩
  ·intro b off hp
   have hin:MemPlace.cell b off∈before:=by rw[hps];simpa using hp
   rw[hb.frozen (hlt _ hin)]
   exact hz b off hin
  ·intro ha
   have:=hn ha
   rw[hps]at this
   simpa using this
  ·intro p hp _
   rw[hps]
   simpa using hp
end
end Go.Proofs.YtjfgiaooglnomaaGreatDoor
namespace Go.Pl
open Go.RowKit Go.WideShapes Go.ChangeShapes
def Tn(w:World):Z5:=fun b=>match w.heap[b]? with|some (.cells cs _ _)=>some cs|_=>none
theorem c7p(w:World):Y6 (Tn w) w:=fun b cs h=>by
 unfold Tn at h
 split at h
 ·rename_i c T fz hb
  cases h
  exact⟨T,fz,hb⟩
 ·cases h
def KP(P:Program)(e:TypeId)(ps:List PV):PV:=match XG P e with|true=>.agg ps|false=>ps.headD .nilp
def UF(P:Program):Nat->TypeId->List PV->Prop
 | 0,_,_=>False
 | n+1,t,ps=>match P.underlying t with
  | some .bool=> ∃ b,ps=[.bool b]
  | some (.int k)=> ∃ m,ps=[.int k m]∧(Lit.int k m).wf=true
  | some .string=> ∃ s:List UInt8,ps=[.str s]∧s.length<=maxLen
  | some (.slice e)=> ∃ qs:List (List PV),ps=[.sl (P.cellsOf e) false (qs.map (KP P e))]∧qs.length<=maxLen∧ ∀ q∈qs,q.length=P.cellsOf e∧UF P n e q
  | some (.struct fs)=>ps.length=P.cellsOf t∧ ∀ f∈fs.toList,UF P n f.type ((ps.drop f.offset).take (P.cellsOf f.type))
  | some (.array m e)=>ps.length=P.cellsOf t∧ ∀ i<m,UF P n e ((ps.drop (i*P.cellsOf e)).take (P.cellsOf e))
  | _=>False
def Kt(P:Program):Nat->List Field->Nat->Bool
 | o,[],n=>o==n
 | o,f::fs,n=>f.offset==o&&Kt P (o+P.cellsOf f.type) fs n
def NK(P:Program)(S:List TypeId):Bool:=S.all fun t=>match P.underlying t with
 | some .bool|some (.int _)|some .string=>P.cellsOf t==1
 | some (.slice e)=>P.cellsOf t==1&&S.contains e&&decide (0<P.cellsOf e)&&(XG P e||P.cellsOf e==1)
 | some (.struct fs)=>Kt P 0 fs.toList (P.cellsOf t)&&fs.toList.all fun f=>S.contains f.type
 | some (.array m e)=>S.contains e&&m*P.cellsOf e==P.cellsOf t
 | _=>false
section
variable {H:Type} {enc:TypeId×Value->H} {P:Program} {w:World} {base:Nat} {sp:Nat->Bool} {held:Bool} {S:List TypeId}
theorem BQ{α β:Type}{f:α->Option β}: ∀ {l:List α} {r:List β},l.mapM f=some r->r.length=l.length∧ ∀ (j:Nat) x y,l[j]? = some x->r[j]? = some y->f x=some y:=by
 intro l
 induction l with
 | nil=>intro r h;simp at h;subst h;exact⟨rfl,fun j x y h=>by simp at h⟩
 | cons a l ih=>
  intro r h
  simp only[List.mapM_cons,Option.bind_eq_bind,Option.bind_eq_some_iff]at h
  obtain⟨b,hb,bs,hbs,h⟩:=h
  simp at h
  subst h
  obtain⟨h1,h2⟩:=ih hbs
  refine⟨by simp[h1],fun j x y hx hy=> ?_⟩
  cases j with
  | zero=>cases hx;cases hy;exact hb
  | succ j=>exact h2 j x y hx hy
def Cl(w:World)(cs:List Value)(ps:List PV):Prop:=Wq (Tn w) cs ps∧Y9 cs
theorem Cl.one{v:Value}{p:PV}(h:RP (Tn w) v p)(h1:v.oneCell'=true):Cl w [v] [p]:=⟨⟨rfl,fun j x q hx hq=>match j with
 | 0=>by cases hx;cases hq;exact h
 | j+1=>by simp at hx⟩,fun v hv=>by simp at hv;subst hv;exact h1⟩
theorem Cl.append{cs ds:List Value}{ps qs:List PV}(h:Cl w cs ps)(k:Cl w ds qs):Cl w (cs++ds) (ps++qs):=by
 refine⟨⟨by simp[h.1.1,k.1.1],fun j v p hv hp=> ?_⟩,fun v hv=> ?_⟩
 ·by_cases hj:j<cs.length
  ·rw[List.getElem?_append_left hj]at hv
   rw[List.getElem?_append_left (by rw[<- h.1.1];exact hj)]at hp
   exact h.1.2 j v p hv hp
  ·rw[List.getElem?_append_right (by omega)]at hv
   rw[List.getElem?_append_right (by rw[<- h.1.1];omega),<- h.1.1]at hp
   exact k.1.2 _ v p hv hp
 ·rcases List.mem_append.1 hv with h'|h'
  ·exact h.2 v h'
  ·exact k.2 v h'
theorem Cl.nil:Cl w [] []:=⟨⟨rfl,fun j v p h=>by simp at h⟩,fun v h=>by simp at h⟩
theorem Pn(hS:NK P S=true){t:TypeId}(ht:t∈S):(match P.underlying t with
 | some .bool|some (.int _)|some .string=>P.cellsOf t==1
 | some (.slice e)=>P.cellsOf t==1&&S.contains e&&decide (0<P.cellsOf e)&&(XG P e||P.cellsOf e==1)
 | some (.struct fs)=>Kt P 0 fs.toList (P.cellsOf t)&&fs.toList.all fun f=>S.contains f.type
 | some (.array m e)=>S.contains e&&m*P.cellsOf e==P.cellsOf t
 | _=>false)=true:=List.all_eq_true.1 hS t ht
theorem a6q{e:TypeId}{q:List PV}(h:XG P e=true∨P.cellsOf e=1)(hl:q.length=P.cellsOf e)(h1:XG P e=false-> ∀ p∈q,p.cells=[p]):(KP P e q).cells=q:=by
 unfold KP
 cases ha:XG P e with
 | true=>rfl
 | false=>
  rcases h with h|h
  ·rw[h]at ha;cases ha
  ·rw[h]at hl
   match q,hl with
   | [p],_=>exact h1 ha p (by simp)
theorem b1f{n:Nat}{e:TypeId}{q:List PV}(h:UF P n e q)(ha:XG P e=false): ∀ p∈q,p.cells=[p]:=by
 cases n with
 | zero=>exact h.elim
 | succ n=>
  unfold UF at h
  unfold XG at ha
  split at h
  ·obtain⟨b,rfl⟩:=h;intro p hp;simp at hp;subst hp;rfl
  ·obtain⟨m,rfl,_⟩:=h;intro p hp;simp at hp;subst hp;rfl
  ·obtain⟨s,rfl,_⟩:=h;intro p hp;simp at hp;subst hp;rfl
  ·obtain⟨s,rfl,_⟩:=h;intro p hp;simp at hp;subst hp;rfl
  ·rename_i hu;rw[hu]at ha;cases ha
  ·rename_i hu;rw[hu]at ha;cases ha
  ·exact h.elim
theorem MJ{α:Type}{R:Nat->α->Prop}: ∀ (n:Nat),(∀ i,i<n-> ∃ q,R i q)-> ∃ qs:List α,qs.length=n∧ ∀ (i:Nat) q,qs[i]? = some q->R i q:=by
 intro n
 induction n with
 | zero=>intro _;exact⟨[],rfl,fun i q h=>by simp at h⟩
 | succ n ih=>
  intro h
  obtain⟨qs,h1,h2⟩:=ih fun i hi=>h i (by omega)
  obtain⟨q,hq⟩:=h n (by omega)
  refine⟨qs++[q],by simp[h1],fun i q' hi=> ?_⟩
  by_cases hlt:i<qs.length
  ·rw[List.getElem?_append_left hlt]at hi;exact h2 i q' hi
  ·rw[List.getElem?_append_right (by omega)]at hi
   have:i=n:=by
    have:=(List.getElem?_eq_some_iff.1 hi).1
    simp at this
    omega
   subst this
   rw[h1,Nat.sub_self]at hi
   cases hi
   exact hq
theorem a8h(a:Addr)(i j:Nat):(a.add i).add j=a.add (i+j):=by
 unfold Addr.add
 by_cases hi:i=0 <;> by_cases hj:j=0 <;> simp[hi,hj,Nat.add_assoc]
theorem a7k{base n:Nat}{a:Addr}{cs:List Value}(h:w.cells? base a n=some cs):cs.length=n∧ ∀ (r:Nat) v,cs[r]? = some v->w.cell? (a.add r)=some v:=by
 unfold World.cells? at h
 split at h
 ·obtain⟨h1,h2⟩:=BQ h
  refine⟨by simpa using h1,fun r v hv=> ?_⟩
  have hr:=(List.getElem?_eq_some_iff.1 hv).1
  have hr2:r<n:=by rw[h1]at hr;simpa using hr
  exact h2 r r v (by simp[hr2]) hv
 ·cases h
theorem Rb{a:Addr}{v:Value}(h:w.cell? a=some v): ∃ b off cs,a=⟨b,off,none⟩∧Tn w b=some cs∧cs[off]? = some v:=by
 obtain⟨b,off,spot⟩:=a
 unfold World.cell? at h
 split at h
 ·rename_i c T fz hb
  split at h
  ·cases h
  ·rename_i hs
   have:spot=none:=by cases spot with|none=>rfl|some=>simp at hs
   subst this
   exact⟨b,off,c,rfl,by simp only[Tn];rw[hb],h⟩
 ·cases h
def QB(P:Program)(t:TypeId):Option (List (Nat×TypeId)):=match P.underlying t with
 | some (.struct fs)=>some (fs.toList.map fun f=>(f.offset,f.type))
 | _=>none
def c8v(P:Program)(n:Nat)(q:List PV):List (Nat×TypeId)->Prop
 | []=>True
 | (o,t)::r=>UF P n t ((q.drop o).take (P.cellsOf t))∧c8v P n q r
theorem K4{n c:Nat}{t:TypeId}{q:List PV}{l:List (Nat×TypeId)}(hs:QB P t=some l)(hc:P.cellsOf t=c)(h:UF P n t q): ∃ m,n=m+1∧q.length=c∧c8v P m q l:=by
 cases n with
 | zero=>exact h.elim
 | succ m=>
  unfold QB at hs
  split at hs
  ·rename_i fs hu
   cases hs
   simp only[UF,hu]at h
   refine⟨m,rfl,by rw[h.1,hc],?_⟩
   have key : ∀ l:List Field,(∀ f∈l,UF P m f.type ((q.drop f.offset).take (P.cellsOf f.type)))->c8v P m q (l.map fun f=>(f.offset,f.type)):=by
    intro l
    induction l with
    | nil=>intro _;trivial
    | cons f l ih=>intro h;exact⟨h f List.mem_cons_self,ih fun g hg=>h g (List.mem_cons_of_mem _ hg)⟩
   exact key _ h.2
  ·cases hs
theorem Fy{n:Nat}{t:TypeId}{k:IntKind}{q:List PV}(hu:P.underlying t=some (.int k))(h:UF P n t q): ∃ m,q=[.int k m]∧(Lit.int k m).wf=true:=by
 cases n with
 | zero=>exact h.elim
 | succ m=>simpa only[UF,hu]using h
theorem a5i{n:Nat}{t:TypeId}{q:List PV}(hu:P.underlying t=some .bool)(h:UF P n t q): ∃ b,q=[.bool b]:=by
 cases n with
 | zero=>exact h.elim
 | succ m=>simpa only[UF,hu]using h
theorem b1b{n:Nat}{t:TypeId}{q:List PV}(hu:P.underlying t=some .string)(h:UF P n t q): ∃ s:List UInt8,q=[.str s]∧s.length<=maxLen:=by
 cases n with
 | zero=>exact h.elim
 | succ m=>simpa only[UF,hu]using h
theorem Al{n c:Nat}{t e:TypeId}{q:List PV}(hu:P.underlying t=some (.slice e))(hc:P.cellsOf e=c)(h:UF P n t q): ∃ m,n=m+1∧ ∃ qs:List (List PV),q=[.sl c false (qs.map (KP P e))]∧qs.length<=maxLen∧ ∀ x∈qs,x.length=c∧UF P m e x:=by
 cases n with
 | zero=>exact h.elim
 | succ m=>
  subst hc
  simp only[UF,hu]at h
  exact⟨m,rfl,h⟩
theorem c3c{Φ:Z5}:Wq Φ (#[]:Array Value).toList []:=⟨rfl,fun j v p h=>by simp at h⟩
theorem c9e{Φ:Z5}{v:Value}{vs:List Value}{p:PV}{ps:List PV}(h:RP Φ v p)(k:Wq Φ vs ps):Wq Φ (v::vs) (p::ps):=
 ⟨by simp[k.1],fun j u q hu hq=>match j with
  | 0=>by cases hu;cases hq;exact h
  | j+1=>k.2 j u q (by simpa using hu) (by simpa using hq)⟩
theorem a9k{f:Nat}{pre:List PV->Bool}{val:List PV->PV}(h:VN P f pre val){ps:List PV}(hp:pre ps=true)(hv:val ps = .bool true){vs:Array Value}(hL:GlobOK (Tn w))(hr:Wq (Tn w) vs.toList ps):
  Calls P f vs w fun e w'=>e = .returned (.bool true)∧Below w.heap.size w w':=by
 refine(h ps hp (Tn w) w vs hL (c7p w) hr).mono ?_
 rintro e w' ⟨v,Φ',rfl,_,_,h1,h2,_⟩
 rw[hv]at h1
 cases h1
 exact⟨rfl,h2⟩
end
end Go.Pl
namespace Go.Proofs.YtjfgiaooglnomaaGreatDoor
open Go.Pl Go.RowKit Go.ChangeShapes
set_option maxRecDepth 100000
theorem a2e{P:Program}{W:World}{n:String}{g:Nat}{cs:Array Value}(hg:P.globalNamed n=some g)(h:W.var? P n=some cs):Tn W g=some cs:=by
 unfold World.var? at h
 rw[hg]at h
 simp only[Option.bind_some]at h
 unfold Tn
 exact h
theorem c5h:Tryz.prog.globalNamed "internal/strconv.uint64pow10" = some 1:=by kernel_rfl
theorem d0d:Tryz.prog.globalNamed "strconv.ErrRange" = some 3:=by kernel_rfl
theorem d1i:Tryz.prog.globalNamed "strconv.ErrSyntax" = some 2:=by kernel_rfl
theorem a9x:Tryz.prog.underlying 213=some (.interface ((match Tryz.prog.underlying 213 with|some (.interface ms)=>ms|_=>#[]))):=by kernel_rfl
theorem c9u{W:World}{r:List (String×DataW Unit)}(h:laidMet Tryz.prog (("internal/strconv.uint64pow10",Rows.laid_internal_strconv_uint64pow10)::r) W):Tn W 1=some SA:=by
 have h1:Lib.TabIs Tryz.prog W "internal/strconv.uint64pow10" .u64 ((List.range 20).map fun i=>((10 ^ i:Nat):Int)):=Lib.tabIs_of_head (e:=200) (t:=301) c5h (by kernel_rfl) (n:=20) (by kernel_rfl) (by kernel_rfl) (by kernel_rfl) (by kernel_rfl) h
 exact(a2e c5h h1).trans rfl
theorem b4o{W:World}{n:String}{g:Nat}{text:List UInt8}{r:List (String×DataW Unit)}(hg:Tryz.prog.globalNamed n=some g)(ht:(Tryz.prog.globals[g]?).map (·.type)=some 213)(h:laidMet Tryz.prog ((n,.iface "*errors.errorString" (.ptr (.agg [.lit (.string text)])))::r) W): ∃ cs,Tn W g=some cs∧Si cs:=by
 obtain⟨ps,⟨g0,t0,cs0,f0,p0,q0,hg0,ht0,hv0,hd0,_,e0⟩,_,hrows⟩:=h
 obtain rfl:=Option.some.inj (hg.symm.trans hg0)
 obtain rfl:=Option.some.inj (ht.symm.trans ht0)
 subst e0
 refine⟨cs0,a2e hg hv0,?_⟩
 obtain⟨f1,u,v,e,_⟩:=iface_of_trod a9x hd0
 obtain⟨l0⟩:=cs0
 have e:l0=[.iface u v]:=e
 subst e
 exact⟨_,rfl,.inr ⟨u,v,rfl⟩⟩
theorem c3k{W:World}{x y:String×DataW Unit}{r:List (String×DataW Unit)}(h:laidMet Tryz.prog (x::y::("internal/strconv.uint64pow10",Rows.laid_internal_strconv_uint64pow10)::("strconv.ErrRange",Rows.laid_strconv_ErrRange)::("strconv.ErrSyntax",Rows.laid_strconv_ErrSyntax)::r) W):GlobOK (Tn W):=
 ⟨b4o d1i (by kernel_rfl) h.tail.tail.tail.tail,b4o d0d (by kernel_rfl) h.tail.tail.tail,c9u h.tail.tail⟩
noncomputable def d3f:DataW Unit->Value
 | .lit (.int k n)=>.int k n
 | _=>.int .i64 0
noncomputable def E8:DataW Unit->Array Value
 | .agg ds=>(ds.map d3f).toArray
 | _=>#[]
noncomputable def b5v:DataW Unit->ByteArray
 | .iface _ (.ptr (.agg [.lit (.string bs)]))=>⟨bs.toArray⟩
 | _=>⟨#[]⟩
noncomputable def low:Nat:=(World.holding Tryz.prog default ⟨#[],#[],[]⟩).heap.size
noncomputable def b6q(cs:Array Value):Obj->Obj
 | .cells _ t frozen=>.cells cs t frozen
 | o=>o
noncomputable def TW(os:Os):World:=
 let w0:=World.holding Tryz.prog os ⟨#[.cells #[.string (b5v Rows.laid_strconv_ErrRange)] 326,.cells #[.string (b5v Rows.laid_strconv_ErrSyntax)] 326],#[],[]⟩
 {w0 with heap:=((((w0.heap.modify 3 (b6q #[.iface 324 (.pointer (some ⟨low,0,none⟩))])).modify 2 (b6q #[.iface 324 (.pointer (some ⟨low+1,0,none⟩))])).modify 1 (b6q (E8 Rows.laid_internal_strconv_uint64pow10))).modify 6 (b6q (E8 Rows.laid_math_bits_deBruijn32tab))).modify 7 (b6q (E8 Rows.laid_math_bits_deBruijn64tab))}
end Go.Proofs.YtjfgiaooglnomaaGreatDoor
namespace Go.Proofs.YtjfgiaooglnomaaGreatDoor
open Go.Shelf
def Tryz.lays172_ren:Go.Shelf.Ren:=⟨fun|172=>182|244=>242|245=>243|247=>278|279=>279|280=>280|281=>281|282=>282|287=>298|316=>299|171=>76|205=>300|321=>308|322=>309|243=>146|246=>214|283=>260|284=>261|285=>262|286=>263|129=>276|317=>287|318=>288|319=>289|320=>290|337=>301|338=>302|n=>n,fun|9=>9|3=>3|75=>213|76=>214|4=>4|5=>5|167=>290|37=>38|0=>0|85=>291|2=>2|168=>293|53=>200|175=>309|46=>171|210=>313|127=>323|145=>326|143=>324|21=>21|171=>273|173=>275|212=>301|51=>288|20=>20|213=>302|232=>327|233=>328|80=>329|n=>n,fun|15=>2|16=>3|17=>1|18=>6|19=>7|n=>n⟩
theorem Tryz.lays172:Go.Proofs.LaysC.n172 Tryz.prog Tryz.lays172_ren:={
 mixed:=by kernel_rfl
 f129:=Tryz.func276.trans (congrArg some (by kernel_rfl))
 f171:=Tryz.func76.trans (congrArg some (by kernel_rfl))
 f172:=Tryz.func182.trans (congrArg some (by kernel_rfl))
 f205:=Tryz.func300.trans (congrArg some (by kernel_rfl))
 f243:=Tryz.func146.trans (congrArg some (by kernel_rfl))
 f244:=Tryz.func242.trans (congrArg some (by kernel_rfl))
 f245:=Tryz.func243.trans (congrArg some (by kernel_rfl))
 f246:=Tryz.func214.trans (congrArg some (by kernel_rfl))
 f247:=Tryz.func278.trans (congrArg some (by kernel_rfl))
 f279:=Tryz.func279.trans (congrArg some (by kernel_rfl))
 f280:=Tryz.func280.trans (congrArg some (by kernel_rfl))
 f281:=Tryz.func281.trans (congrArg some (by kernel_rfl))
 f282:=Tryz.func282.trans (congrArg some (by kernel_rfl))
 f283:=Tryz.func260.trans (congrArg some (by kernel_rfl))
 f284:=Tryz.func261.trans (congrArg some (by kernel_rfl))
 f285:=Tryz.func262.trans (congrArg some (by kernel_rfl))
 f286:=Tryz.func263.trans (congrArg some (by kernel_rfl))
 f287:=Tryz.func298.trans (congrArg some (by kernel_rfl))
 f316:=Tryz.func299.trans (congrArg some (by kernel_rfl))
 f317:=Tryz.func287.trans (congrArg some (by kernel_rfl))
 f318:=Tryz.func288.trans (congrArg some (by kernel_rfl))
 f319:=Tryz.func289.trans (congrArg some (by kernel_rfl))
 f320:=Tryz.func290.trans (congrArg some (by kernel_rfl))
 f321:=Tryz.func308.trans (congrArg some (by kernel_rfl))
 f322:=Tryz.func309.trans (congrArg some (by kernel_rfl))
 f337:=Tryz.func301.trans (congrArg some (by kernel_rfl))
 f338:=Tryz.func302.trans (congrArg some (by kernel_rfl))
 t0:=Tryz.underlying0
 a0:=Tryz.isAgg0
 z0:=Tryz.sizeOf0
 v0:=Tryz.zeroValue0
 t2:=Tryz.underlying2
 a2:=Tryz.isAgg2
 z2:=Tryz.sizeOf2
 v2:=Tryz.zeroValue2
 t3:=Tryz.underlying3
 a3:=Tryz.isAgg3
 z3:=Tryz.sizeOf3
 v3:=Tryz.zeroValue3
 t4:=Tryz.underlying4
 a4:=Tryz.isAgg4
 z4:=Tryz.sizeOf4
 v4:=Tryz.zeroValue4
 t5:=Tryz.underlying5
 a5:=Tryz.isAgg5
 z5:=Tryz.sizeOf5
 v5:=Tryz.zeroValue5
 t9:=Tryz.underlying9
 a9:=Tryz.isAgg9
 z9:=Tryz.sizeOf9
 v9:=Tryz.zeroValue9
 t20:=Tryz.underlying20
 a20:=Tryz.isAgg20
 z20:=Tryz.sizeOf20
 v20:=Tryz.zeroValue20
 t21:=Tryz.underlying21
 a21:=Tryz.isAgg21
 z21:=Tryz.sizeOf21
 v21:=Tryz.zeroValue21
 t37:=Tryz.underlying38
 a37:=Tryz.isAgg38
 z37:=Tryz.sizeOf38
 v37:=Tryz.zeroValue38
 t46:=Tryz.underlying171
 a46:=Tryz.isAgg171
 z46:=Tryz.sizeOf171
 v46:=Tryz.zeroValue171
 t51:=Tryz.underlying288
 a51:=Tryz.isAgg288
 z51:=Tryz.sizeOf288
 v51:=Tryz.zeroValue288
 t53:=Tryz.underlying200
 a53:=Tryz.isAgg200
 z53:=Tryz.sizeOf200
 v53:=Tryz.zeroValue200
 t75:=Tryz.underlying213
 a75:=Tryz.isAgg213
 z75:=Tryz.sizeOf213
 v75:=Tryz.zeroValue213
 t76:=Tryz.underlying214
 a76:=Tryz.isAgg214
 z76:=Tryz.sizeOf214
 v76:=Tryz.zeroValue214
 t85:=Tryz.underlying291
 a85:=Tryz.isAgg291
 z85:=Tryz.sizeOf291
 v85:=Tryz.zeroValue291
 t127:=Tryz.underlying323
 a127:=Tryz.isAgg323
 z127:=Tryz.sizeOf323
 v127:=Tryz.zeroValue323
 t143:=Tryz.underlying324
 a143:=Tryz.isAgg324
 z143:=Tryz.sizeOf324
 v143:=Tryz.zeroValue324
 t145:=Tryz.underlying326
 a145:=Tryz.isAgg326
 z145:=Tryz.sizeOf326
 v145:=Tryz.zeroValue326
 t167:=Tryz.underlying290
 a167:=Tryz.isAgg290
 z167:=Tryz.sizeOf290
 v167:=Tryz.zeroValue290
 t168:=Tryz.underlying293
 a168:=Tryz.isAgg293
 z168:=Tryz.sizeOf293
 v168:=Tryz.zeroValue293
 t171:=Tryz.underlying273
 a171:=Tryz.isAgg273
 z171:=Tryz.sizeOf273
 v171:=Tryz.zeroValue273
 t173:=Tryz.underlying275
 a173:=Tryz.isAgg275
 z173:=Tryz.sizeOf275
 v173:=Tryz.zeroValue275
 t175:=Tryz.underlying309
 a175:=Tryz.isAgg309
 z175:=Tryz.sizeOf309
 v175:=Tryz.zeroValue309
 t210:=Tryz.underlying313
 a210:=Tryz.isAgg313
 z210:=Tryz.sizeOf313
 v210:=Tryz.zeroValue313
 t212:=Tryz.underlying301
 a212:=Tryz.isAgg301
 z212:=Tryz.sizeOf301
 v212:=Tryz.zeroValue301
 t213:=Tryz.underlying302
 a213:=Tryz.isAgg302
 z213:=Tryz.sizeOf302
 t232:=Tryz.underlying327
 a232:=Tryz.isAgg327
 z232:=Tryz.sizeOf327
 v232:=Tryz.zeroValue327
 t233:=Tryz.underlying328
 a233:=Tryz.isAgg328
 z233:=Tryz.sizeOf328
 v233:=Tryz.zeroValue328
 g15:=by kernel_rfl
 g16:=by kernel_rfl
 g17:=by kernel_rfl
 g18:=by kernel_rfl
 g19:=by kernel_rfl
 t80:=Tryz.underlying329
 a80:=Tryz.isAgg329
 z80:=Tryz.sizeOf329
 v80:=Tryz.zeroValue329
 i0:=by kernel_rfl
 i2:=by kernel_rfl
 i3:=by kernel_rfl
 i4:=by kernel_rfl
 i5:=by kernel_rfl
 i9:=by kernel_rfl
 i20:=by kernel_rfl
 i21:=by kernel_rfl
 i37:=by kernel_rfl
 i46:=by kernel_rfl
 i51:=by kernel_rfl
 i53:=by kernel_rfl
 i75:=by kernel_rfl
 i76:=by kernel_rfl
 i80:=by kernel_rfl
 i85:=by kernel_rfl
 i127:=by kernel_rfl
 i143:=by kernel_rfl
 i145:=by kernel_rfl
 i167:=by kernel_rfl
 i168:=by kernel_rfl
 i171:=by kernel_rfl
 i173:=by kernel_rfl
 i175:=by kernel_rfl
 i210:=by kernel_rfl
 i212:=by kernel_rfl
 i232:=by kernel_rfl
 i233:=by kernel_rfl
 m15:=by kernel_rfl
 m16:=by kernel_rfl
 m17:=by kernel_rfl
 m18:=by kernel_rfl
 m19:=by kernel_rfl
 c0:=by kernel_rfl
 c2:=by kernel_rfl
 c3:=by kernel_rfl
 c4:=by kernel_rfl
 c5:=by kernel_rfl
 c9:=by kernel_rfl
 c20:=by kernel_rfl
 c21:=by kernel_rfl
 c37:=by kernel_rfl
 c46:=by kernel_rfl
 c51:=by kernel_rfl
 c53:=by kernel_rfl
 c75:=by kernel_rfl
 c76:=by kernel_rfl
 c80:=by kernel_rfl
 c85:=by kernel_rfl
 c127:=by kernel_rfl
 c143:=by kernel_rfl
 c145:=by kernel_rfl
 c167:=by kernel_rfl
 c168:=by kernel_rfl
 c171:=by kernel_rfl
 c173:=by kernel_rfl
 c175:=by kernel_rfl
 c210:=by kernel_rfl
 c212:=by kernel_rfl
 c213:=by kernel_rfl
 c232:=by kernel_rfl
 c233:=by kernel_rfl}
def Tryz.lays171_ren:Go.Shelf.Ren:=⟨fun|171=>76|243=>146|246=>214|283=>260|284=>261|285=>262|286=>263|129=>276|317=>287|318=>288|319=>289|320=>290|337=>301|338=>302|n=>n,fun|3=>3|9=>9|2=>2|4=>4|171=>273|0=>0|53=>200|37=>38|5=>5|173=>275|212=>301|51=>288|20=>20|213=>302|46=>171|232=>327|233=>328|n=>n,fun|17=>1|18=>6|19=>7|n=>n⟩
theorem Tryz.lays171:Go.Proofs.LaysM.n171 Tryz.prog Tryz.lays171_ren:={
 mixed:=by kernel_rfl
 f129:=Tryz.func276.trans (congrArg some (by kernel_rfl))
 f171:=Tryz.func76.trans (congrArg some (by kernel_rfl))
 f243:=Tryz.func146.trans (congrArg some (by kernel_rfl))
 f246:=Tryz.func214.trans (congrArg some (by kernel_rfl))
 f283:=Tryz.func260.trans (congrArg some (by kernel_rfl))
 f284:=Tryz.func261.trans (congrArg some (by kernel_rfl))
 f285:=Tryz.func262.trans (congrArg some (by kernel_rfl))
 f286:=Tryz.func263.trans (congrArg some (by kernel_rfl))
 f317:=Tryz.func287.trans (congrArg some (by kernel_rfl))
 f318:=Tryz.func288.trans (congrArg some (by kernel_rfl))
 f319:=Tryz.func289.trans (congrArg some (by kernel_rfl))
 f320:=Tryz.func290.trans (congrArg some (by kernel_rfl))
 f337:=Tryz.func301.trans (congrArg some (by kernel_rfl))
 f338:=Tryz.func302.trans (congrArg some (by kernel_rfl))
 t0:=Tryz.underlying0
 a0:=Tryz.isAgg0
 z0:=Tryz.sizeOf0
 v0:=Tryz.zeroValue0
 t2:=Tryz.underlying2
 a2:=Tryz.isAgg2
 z2:=Tryz.sizeOf2
 v2:=Tryz.zeroValue2
 t3:=Tryz.underlying3
 a3:=Tryz.isAgg3
 z3:=Tryz.sizeOf3
 v3:=Tryz.zeroValue3
 t4:=Tryz.underlying4
 a4:=Tryz.isAgg4
 z4:=Tryz.sizeOf4
 v4:=Tryz.zeroValue4
 t5:=Tryz.underlying5
 a5:=Tryz.isAgg5
 z5:=Tryz.sizeOf5
 v5:=Tryz.zeroValue5
 t9:=Tryz.underlying9
 a9:=Tryz.isAgg9
 z9:=Tryz.sizeOf9
 v9:=Tryz.zeroValue9
 t20:=Tryz.underlying20
 a20:=Tryz.isAgg20
 z20:=Tryz.sizeOf20
 v20:=Tryz.zeroValue20
 t37:=Tryz.underlying38
 a37:=Tryz.isAgg38
 z37:=Tryz.sizeOf38
 v37:=Tryz.zeroValue38
 t46:=Tryz.underlying171
 a46:=Tryz.isAgg171
 z46:=Tryz.sizeOf171
 v46:=Tryz.zeroValue171
 t51:=Tryz.underlying288
 a51:=Tryz.isAgg288
 z51:=Tryz.sizeOf288
 v51:=Tryz.zeroValue288
 t53:=Tryz.underlying200
 a53:=Tryz.isAgg200
 z53:=Tryz.sizeOf200
 v53:=Tryz.zeroValue200
 t171:=Tryz.underlying273
 a171:=Tryz.isAgg273
 z171:=Tryz.sizeOf273
 v171:=Tryz.zeroValue273
 t173:=Tryz.underlying275
 a173:=Tryz.isAgg275
 z173:=Tryz.sizeOf275
 v173:=Tryz.zeroValue275
 t212:=Tryz.underlying301
 a212:=Tryz.isAgg301
 z212:=Tryz.sizeOf301
 v212:=Tryz.zeroValue301
 t213:=Tryz.underlying302
 a213:=Tryz.isAgg302
 z213:=Tryz.sizeOf302
 t232:=Tryz.underlying327
 a232:=Tryz.isAgg327
 z232:=Tryz.sizeOf327
 v232:=Tryz.zeroValue327
 t233:=Tryz.underlying328
 a233:=Tryz.isAgg328
 z233:=Tryz.sizeOf328
 v233:=Tryz.zeroValue328
 g17:=by kernel_rfl
 g18:=by kernel_rfl
 g19:=by kernel_rfl
 i0:=by kernel_rfl
 i2:=by kernel_rfl
 i3:=by kernel_rfl
 i4:=by kernel_rfl
 i5:=by kernel_rfl
 i9:=by kernel_rfl
 i20:=by kernel_rfl
 i37:=by kernel_rfl
 i46:=by kernel_rfl
 i51:=by kernel_rfl
 i53:=by kernel_rfl
 i171:=by kernel_rfl
 i173:=by kernel_rfl
 i212:=by kernel_rfl
 i232:=by kernel_rfl
 i233:=by kernel_rfl
 m17:=by kernel_rfl
 m18:=by kernel_rfl
 m19:=by kernel_rfl}
def Tryz.lays99_ren:Go.Shelf.Ren:=⟨fun|99=>152|206=>221|n=>n,fun|9=>9|4=>4|3=>3|n=>n,fun|n=>n⟩
theorem Tryz.lays99:Go.Proofs.Lays.n99 Tryz.prog Tryz.lays99_ren:={
 mixed:=by kernel_rfl
 f99:=Tryz.func152.trans (congrArg some (by kernel_rfl))
 f206:=Tryz.func221.trans (congrArg some (by kernel_rfl))
 t3:=Tryz.underlying3
 a3:=Tryz.isAgg3
 z3:=Tryz.sizeOf3
 v3:=Tryz.zeroValue3
 t4:=Tryz.underlying4
 a4:=Tryz.isAgg4
 z4:=Tryz.sizeOf4
 v4:=Tryz.zeroValue4
 t9:=Tryz.underlying9
 a9:=Tryz.isAgg9
 z9:=Tryz.sizeOf9
 v9:=Tryz.zeroValue9}
def Tryz.lays190_ren:Go.Shelf.Ren:=⟨fun|190=>154|125=>223|258=>222|128=>275|129=>276|302=>267|303=>268|304=>269|305=>270|306=>271|307=>272|308=>244|309=>273|310=>274|333=>293|329=>294|330=>295|334=>296|335=>297|336=>283|344=>307|n=>n,fun|31=>76|9=>9|3=>3|46=>171|0=>0|51=>288|53=>200|4=>4|183=>282|182=>281|131=>129|5=>5|218=>304|222=>148|228=>321|229=>247|n=>n,fun|n=>n⟩
theorem Tryz.lays190:Go.Proofs.Lays.n190 Tryz.prog Tryz.lays190_ren:={
 mixed:=by kernel_rfl
 f125:=Tryz.func223.trans (congrArg some (by kernel_rfl))
 f128:=Tryz.func275.trans (congrArg some (by kernel_rfl))
 f129:=Tryz.func276.trans (congrArg some (by kernel_rfl))
 f190:=Tryz.func154.trans (congrArg some (by kernel_rfl))
 f258:=Tryz.func222.trans (congrArg some (by kernel_rfl))
 f302:=Tryz.func267.trans (congrArg some (by kernel_rfl))
 f303:=Tryz.func268.trans (congrArg some (by kernel_rfl))
 f304:=Tryz.func269.trans (congrArg some (by kernel_rfl))
 f305:=Tryz.func270.trans (congrArg some (by kernel_rfl))
 f306:=Tryz.func271.trans (congrArg some (by kernel_rfl))
 f307:=Tryz.func272.trans (congrArg some (by kernel_rfl))
 f308:=Tryz.func244.trans (congrArg some (by kernel_rfl))
 f309:=Tryz.func273.trans (congrArg some (by kernel_rfl))
 f310:=Tryz.func274.trans (congrArg some (by kernel_rfl))
 f329:=Tryz.func294.trans (congrArg some (by kernel_rfl))
 f330:=Tryz.func295.trans (congrArg some (by kernel_rfl))
 f333:=Tryz.func293.trans (congrArg some (by kernel_rfl))
 f334:=Tryz.func296.trans (congrArg some (by kernel_rfl))
 f335:=Tryz.func297.trans (congrArg some (by kernel_rfl))
 f336:=Tryz.func283.trans (congrArg some (by kernel_rfl))
 f344:=Tryz.func307.trans (congrArg some (by kernel_rfl))
 t0:=Tryz.underlying0
 a0:=Tryz.isAgg0
 z0:=Tryz.sizeOf0
 v0:=Tryz.zeroValue0
 t3:=Tryz.underlying3
 a3:=Tryz.isAgg3
 z3:=Tryz.sizeOf3
 v3:=Tryz.zeroValue3
 t4:=Tryz.underlying4
 a4:=Tryz.isAgg4
 z4:=Tryz.sizeOf4
 v4:=Tryz.zeroValue4
 t5:=Tryz.underlying5
 a5:=Tryz.isAgg5
 z5:=Tryz.sizeOf5
 v5:=Tryz.zeroValue5
 t9:=Tryz.underlying9
 a9:=Tryz.isAgg9
 z9:=Tryz.sizeOf9
 v9:=Tryz.zeroValue9
 t31:=Tryz.underlying76
 a31:=Tryz.isAgg76
 z31:=Tryz.sizeOf76
 v31:=Tryz.zeroValue76
 t46:=Tryz.underlying171
 a46:=Tryz.isAgg171
 z46:=Tryz.sizeOf171
 v46:=Tryz.zeroValue171
 t51:=Tryz.underlying288
 a51:=Tryz.isAgg288
 z51:=Tryz.sizeOf288
 v51:=Tryz.zeroValue288
 t53:=Tryz.underlying200
 a53:=Tryz.isAgg200
 z53:=Tryz.sizeOf200
 v53:=Tryz.zeroValue200
 t131:=Tryz.underlying129
 a131:=Tryz.isAgg129
 z131:=Tryz.sizeOf129
 v131:=Tryz.zeroValue129
 t182:=Tryz.underlying281
 a182:=Tryz.isAgg281
 z182:=Tryz.sizeOf281
 v182:=Tryz.zeroValue281
 t183:=Tryz.underlying282
 a183:=Tryz.isAgg282
 z183:=Tryz.sizeOf282
 v183:=Tryz.zeroValue282
 t218:=Tryz.underlying304
 a218:=Tryz.isAgg304
 z218:=Tryz.sizeOf304
 v218:=Tryz.zeroValue304
 t222:=Tryz.underlying148
 a222:=Tryz.isAgg148
 z222:=Tryz.sizeOf148
 v222:=Tryz.zeroValue148
 t228:=Tryz.underlying321
 a228:=Tryz.isAgg321
 z228:=Tryz.sizeOf321
 v228:=Tryz.zeroValue321
 t229:=Tryz.underlying247
 a229:=Tryz.isAgg247
 z229:=Tryz.sizeOf247
 v229:=Tryz.zeroValue247}
end Go.Proofs.YtjfgiaooglnomaaGreatDoor
namespace Go.Proofs.YtjfgiaooglnomaaGreatDoor
open Go.Pl Go.RowKit
open Enc (enc dec is)
open EncL (encL decL isL)
set_option maxRecDepth 100000
theorem J3:Zx Tryz.prog 152 (fun _:Str×Str×Unit=>true) (fun x:Str×Str×Unit=>x.2.1.s.isPrefixOf x.1.s):=XH (by
  rintro⟨⟨s⟩,⟨p⟩,⟨⟩⟩ hps Φ w vs hL hΦ hv
  obtain⟨u,v,rfl,h1,h2⟩:=c9n hv
  rw[PN h1,PN h2]
  refine(Any.strings_HasPrefix Tryz.lays99 ⟨s.toArray⟩ ⟨p.toArray⟩ w).mono ?_
  rintro e w' ⟨rfl,rfl⟩
  exact⟨_,rfl,.bool _,.refl _ _⟩)
theorem b2i:Zx Tryz.prog 182 (fun x:Str×Unit=>decide (x.1.s.length<=1000000)) (fun x:Str×Unit=>YD x.1):=XH (by
  rintro⟨⟨s⟩,⟨⟩⟩ hps Φ w vs hL hΦ hv
  have hs:s.length<=1000000:=by simpa using hps
  obtain⟨v,rfl,h1⟩:=b9u hv
  rw[PN h1]
  have hsz:(⟨s.toArray⟩:ByteArray).size=s.length:=rfl
  cases h:Lib.atoiAll s
  ·rename_i n
   have e1:YD ⟨s⟩=(n,⟨false⟩):=by simp only[YD,h]
   rw[e1]
   refine(Any.strconv_Atoi_ok Tryz.lays172 ⟨s.toArray⟩ (by rw[hsz];omega) n h w).mono ?_
   rintro e w' ⟨rfl,hw⟩
   refine⟨_,rfl,.tup _ _ rfl ?_,?_⟩
   ·intro j v x hv hx
    match j with
    | 0=>cases hv;cases hx;exact .int _ _
    | 1=>cases hv;cases hx;exact .nili
    | j+2=>simp at hv
   ·rcases hw with rfl|⟨t,rfl⟩
    ·exact .refl _ _
    ·exact Cv _ _ 0 _
  ·skip
   have e1:YD ⟨s⟩=(0,⟨true⟩):=by simp only[YD,h]
   rw[e1]
   obtain⟨cs,hc,ev,he,hev⟩:=hL.syn
   refine(Any.strconv_Atoi_syntax Tryz.lays172 ⟨s.toArray⟩ (by rw[hsz];omega) h ev w (Jp hΦ hc he) hev).mono ?_
   rintro e w' ⟨N,rfl,_,_,hb⟩
   refine⟨_,rfl,.tup _ _ rfl ?_,hb⟩
   intro j v x hv hx
   match j with
   | 0=>cases hv;cases hx;exact .int _ _
   | 1=>cases hv;cases hx;exact .ifc _ _
   | j+2=>simp at hv
  ·skip
   have e1:YD ⟨s⟩=(Lib.atoiSat s,⟨true⟩):=by simp only[YD,h]
   rw[e1]
   obtain⟨cs,hc,ev,he,hev⟩:=hL.rng
   refine(Any.strconv_Atoi_range Tryz.lays172 ⟨s.toArray⟩ (by rw[hsz];omega) h ev w (Jp hΦ hc he) hev).mono ?_
   rintro e w' ⟨N,rfl,_,_,hb⟩
   refine⟨_,rfl,.tup _ _ rfl ?_,hb⟩
   intro j v x hv hx
   match j with
   | 0=>cases hv;cases hx;exact .int _ _
   | 1=>cases hv;cases hx;exact .ifc _ _
   | j+2=>simp at hv)
theorem FR:Zx Tryz.prog 76 (fun x:Int×Unit=>decide (-9223372036854775808<=x.1)&&decide (x.1<=9223372036854775807)) (fun x:Int×Unit=>MG x.1):=XH (by
  rintro⟨n,⟨⟩⟩ hps Φ w vs hL hΦ hv
  obtain⟨v,rfl,h1⟩:=b9u hv
  have h1:RP Φ v (.int .i64 n):=h1
  rw[BZ h1]
  have hn : -9223372036854775808<=n∧n<=9223372036854775807:=by simpa using hps
  have hg:=hL.pow
  obtain⟨T,fz,hh⟩:=hΦ _ _ hg
  refine(Any.strconv_Itoa Tryz.lays171 n hn.1 hn.2 w ?_).mono ?_
  ·unfold Lib.TabIs World.var?
   rw[show Program.globalNamed Tryz.prog "internal/strconv.uint64pow10" = some 1 by kernel_rfl]
   simp only[Option.bind_some,hh]
   rfl
  ·rintro e w' ⟨rfl,k,os,rfl⟩
   refine⟨_,rfl,.str _,?_⟩
   exact⟨rfl,rfl,rfl,by show w.heap.size<=(w.heap++os).size;simp,fun j hj=>by show(w.heap++os)[j]? = _;rw[Array.getElem?_append_left hj]⟩)
end Go.Proofs.YtjfgiaooglnomaaGreatDoor
namespace Go.Proofs.YtjfgiaooglnomaaGreatDoor
open Go.Pl
open Enc (enc dec is)
open EncL (encL decL isL)
set_option maxRecDepth 100000
theorem ZU:Tryz.prog.follows .mixedOrders=true:=by kernel_rfl
theorem Oi:Yf Tryz.prog 154 Wh Kg:=a9d (Any.slices_Sort_string Tryz.lays190) (Any.slices_Sort_string_none Tryz.lays190)
theorem Nj:Zx Tryz.prog 155 (fun _:UInt8×Unit=>true) (fun x:UInt8×Unit=>digB x.1):=Zx.of (T:=a0g) (ic:=PO) (rs:=Mj) Zm ZU Tryz.func155 (by kernel_rfl) (by kernel_rfl) (by kernel_rfl) b2e
theorem TB:Zx Tryz.prog 156 (fun _:UInt8×Unit=>true) (fun x:UInt8×Unit=>WW x.1):=Zx.of (T:=a1j) (ic:=PU) (rs:=NY) Zm ZU Tryz.func156 (by kernel_rfl) (by kernel_rfl) (by kernel_rfl) b5e
theorem Nu:Zx Tryz.prog 83 (fun _:Int×Unit=>true) (fun x:Int×Unit=>YP x.1):=Zx.of (T:=BK) (ic:=JD) (rs:=DJ) Zm ZU Tryz.func83 (by kernel_rfl) (by kernel_rfl) (by kernel_rfl) EP
theorem Jh:Zx Tryz.prog 84 (fun _:Str×Unit=>true) (fun x:Str×Unit=>ZG x.1):=Zx.of (T:=Vg) (ic:=X7) (rs:=X3) (Zd (YA Tryz.func155 (by kernel_rfl) Nj) (Zd (YA Tryz.func156 (by kernel_rfl) TB) Zm)) ZU Tryz.func84 (by kernel_rfl) (by kernel_rfl) (by kernel_rfl) a8t
theorem Kq:Zx Tryz.prog 20 (fun x:Lin×Unit=>YF x.1) (fun x:Lin×Unit=>Zw x.1):=Zx.of (T:=Vy) (ic:=WE) (rs:=WI) (Zd (YA Tryz.func83 (by kernel_rfl) Nu) (Zd (YA Tryz.func84 (by kernel_rfl) Jh) Zm)) ZU Tryz.func20 (by kernel_rfl) (by kernel_rfl) (by kernel_rfl) EN
theorem a0e:Zx Tryz.prog 16 (fun x:Lin×Int×Unit=>YF x.1) (fun x:Lin×Int×Unit=>GK x.1 x.2.1):=Zx.of (T:=H5) (ic:=Ky) (rs:=KH) Zm ZU Tryz.func16 (by kernel_rfl) (by kernel_rfl) (by kernel_rfl) b4k
theorem O1:Zx Tryz.prog 31 (fun x:List Fact×Int×Unit=>YJ x.1) (fun x:List Fact×Int×Unit=>CK x.1 x.2.1):=Zx.of (T:=KF) (ic:=Qp) (rs:=U3) (Zd (YA Tryz.func16 (by kernel_rfl) a0e) Zm) ZU Tryz.func31 (by kernel_rfl) (by kernel_rfl) (by kernel_rfl) a9e
theorem a8v:Zx Tryz.prog 91 (fun _:Int×Unit=>true) (fun x:Int×Unit=>(⟨x.1,[]⟩:Lin)):=Zx.of (T:=b0p) (ic:=EX) (rs:=a0i) Zm ZU Tryz.func91 (by kernel_rfl) (by kernel_rfl) (by kernel_rfl) c2m
theorem b7r:Yf Tryz.prog 89 JJ Jq:=Vw (T:=Yc) (ic:=ZW) (rs:=ZV) Zm ZU Tryz.func89 (by kernel_rfl) (by kernel_rfl) (by kernel_rfl) a8i
theorem Cq:Zx Tryz.prog 89 (fun x:Lin×Str×Int×Unit=>decide (x.1.t.length<=1000000)) (fun x:Lin×Str×Int×Unit=>VD x.1 x.2.1 x.2.2.1):=a6l b7r
theorem a9o:Zx Tryz.prog 144 (fun _:Int×Unit=>true) (fun x:Int×Unit=>YP x.1):=Zx.of (T:=b7t) (ic:=a1f) (rs:=EU) Zm ZU Tryz.func144 (by kernel_rfl) (by kernel_rfl) (by kernel_rfl) c0f
theorem MC:Zx Tryz.prog 119 (fun x:Str×Unit=>decide (x.1.s.length<=1000000)) (fun x:Str×Unit=>ZG x.1):=Zx.of (T:=Ve) (ic:=XO) (rs:=X8) (Zd (YA Tryz.func152 (by kernel_rfl) J3) (Zd (YA Tryz.func182 (by kernel_rfl) b2i) (Zd (YA Tryz.func76 (by kernel_rfl) FR) Zm))) ZU Tryz.func119 (by kernel_rfl) (by kernel_rfl) (by kernel_rfl) a5r
theorem UO:Zx Tryz.prog 73 (fun x:Lin×Unit=>Yz x.1) (fun x:Lin×Unit=>Zw x.1):=Zx.of (T:=VK) (ic:=WO) (rs:=WG) (Zd (YA Tryz.func144 (by kernel_rfl) a9o) (Zd (YA Tryz.func119 (by kernel_rfl) MC) Zm)) ZU Tryz.func73 (by kernel_rfl) (by kernel_rfl) (by kernel_rfl) a1c
theorem c4i:Zx Tryz.prog 162 (fun x:Fact×Unit=>Yz x.1.l) (fun x:Fact×Unit=> !(Zw x.1.l)):=Zx.of (T:=b8v) (ic:=EF) (rs:=OQ) (Zd (YA Tryz.func73 (by kernel_rfl) UO) Zm) ZU Tryz.func162 (by kernel_rfl) (by kernel_rfl) (by kernel_rfl) c4a
theorem c8f:Zx Tryz.prog 227 (fun x:List Fact×FnV 162×Unit=>Zf x.1) (fun x:List Fact×FnV 162×Unit=>ZI (fun f:Fact=> !(Zw f.l)) x.1):=Zx.of (T:=Bz) (ic:=Jl) (rs:=Gl) (Zd (YA Tryz.func162 (by kernel_rfl) c4i) Zm) ZU Tryz.func227 (by kernel_rfl) (by kernel_rfl) (by kernel_rfl) c3m
theorem c6o:Zx Tryz.prog 161 (fun x:List Fact×FnV 162×Unit=>Zf x.1) (fun x:List Fact×FnV 162×Unit=>x.1.any fun f:Fact=> !(Zw f.l)):=Zx.of (T:=b3a) (ic:=NQ) (rs:=a0p) (Zd (YA Tryz.func227 (by kernel_rfl) c8f) Zm) ZU Tryz.func161 (by kernel_rfl) (by kernel_rfl) (by kernel_rfl) c2q
theorem GV:Zx Tryz.prog 95 (fun x:List Fact×Unit=>Zf x.1) (fun x:List Fact×Unit=>YC x.1):=Zx.of (T:=SV) (ic:=Dl) (rs:=Dn) (Zd (YA Tryz.func161 (by kernel_rfl) c6o) Zm) ZU Tryz.func95 (by kernel_rfl) (by kernel_rfl) (by kernel_rfl) a0l
theorem PH:Zx Tryz.prog 35 (fun x:List Fact×Unit=>Zf x.1) (fun x:List Fact×Unit=>YC x.1):=Zx.of (T:=Kl) (ic:=U7) (rs:=Ql) (Zd (YA Tryz.func20 (by kernel_rfl) Kq) Zm) ZU Tryz.func35 (by kernel_rfl) (by kernel_rfl) (by kernel_rfl) a6x
end Go.Proofs.YtjfgiaooglnomaaGreatDoor
namespace Go.Proofs.YtjfgiaooglnomaaGreatDoor
open Go.Shelf
def Tryz.laysC15_ren:Go.Shelf.Ren:=⟨fun|15=>104|n=>n,fun|22=>34|3=>3|4=>4|n=>n,fun|n=>n⟩
theorem Tryz.laysC15:Go.Proofs.Lays2.n15 Tryz.prog Tryz.laysC15_ren:={
 mixed:=by kernel_rfl
 f15:=Tryz.func104.trans (congrArg some (by kernel_rfl))
 t3:=Tryz.underlying3
 a3:=Tryz.isAgg3
 z3:=Tryz.sizeOf3
 v3:=Tryz.zeroValue3
 t4:=Tryz.underlying4
 a4:=Tryz.isAgg4
 z4:=Tryz.sizeOf4
 v4:=Tryz.zeroValue4
 t22:=Tryz.underlying34
 a22:=Tryz.isAgg34
 z22:=Tryz.sizeOf34
 v22:=Tryz.zeroValue34
 i3:=by kernel_rfl}
def Tryz.lays194_ren:Go.Shelf.Ren:=⟨fun|194=>187|n=>n,fun|31=>76|9=>9|3=>3|4=>4|0=>0|n=>n,fun|n=>n⟩
theorem Tryz.lays194:Go.Proofs.Lays.n194 Tryz.prog Tryz.lays194_ren:={
 mixed:=by kernel_rfl
 f194:=Tryz.func187.trans (congrArg some (by kernel_rfl))
 t0:=Tryz.underlying0
 a0:=Tryz.isAgg0
 z0:=Tryz.sizeOf0
 v0:=Tryz.zeroValue0
 t3:=Tryz.underlying3
 a3:=Tryz.isAgg3
 z3:=Tryz.sizeOf3
 v3:=Tryz.zeroValue3
 t4:=Tryz.underlying4
 a4:=Tryz.isAgg4
 z4:=Tryz.sizeOf4
 v4:=Tryz.zeroValue4
 t9:=Tryz.underlying9
 a9:=Tryz.isAgg9
 z9:=Tryz.sizeOf9
 v9:=Tryz.zeroValue9
 t31:=Tryz.underlying76
 a31:=Tryz.isAgg76
 z31:=Tryz.sizeOf76
 v31:=Tryz.zeroValue76}
end Go.Proofs.YtjfgiaooglnomaaGreatDoor
namespace Go.Proofs.YtjfgiaooglnomaaGreatDoor
open Go.Pl
open Enc (enc dec is)
open EncL (encL decL isL)
set_option maxRecDepth 100000
theorem a7m:Zx Tryz.prog 182 (fun x:Str×Unit=>decide (x.1.s.length<=281474976710656)) (fun x:Str×Unit=>YD x.1):=XH (by
  rintro⟨⟨s⟩,⟨⟩⟩ hps Φ w vs hL hΦ hv
  have hs:s.length<=281474976710656:=by simpa using hps
  obtain⟨v,rfl,h1⟩:=b9u hv
  rw[PN h1]
  have hsz:(⟨s.toArray⟩:ByteArray).size=s.length:=rfl
  cases h:Lib.atoiAll s
  ·rename_i n
   have e1:YD ⟨s⟩=(n,⟨false⟩):=by simp only[YD,h]
   rw[e1]
   refine(Any.strconv_Atoi_ok Tryz.lays172 ⟨s.toArray⟩ (by rw[hsz];omega) n h w).mono ?_
   rintro e w' ⟨rfl,hw⟩
   refine⟨_,rfl,.tup _ _ rfl ?_,?_⟩
   ·intro j v x hv hx
    match j with
    | 0=>cases hv;cases hx;exact .int _ _
    | 1=>cases hv;cases hx;exact .nili
    | j+2=>simp at hv
   ·rcases hw with rfl|⟨t,rfl⟩
    ·exact .refl _ _
    ·exact Cv _ _ 0 _
  ·skip
   have e1:YD ⟨s⟩=(0,⟨true⟩):=by simp only[YD,h]
   rw[e1]
   obtain⟨cs,hc,ev,he,hev⟩:=hL.syn
   refine(Any.strconv_Atoi_syntax Tryz.lays172 ⟨s.toArray⟩ (by rw[hsz];omega) h ev w (Jp hΦ hc he) hev).mono ?_
   rintro e w' ⟨N,rfl,_,_,hb⟩
   refine⟨_,rfl,.tup _ _ rfl ?_,hb⟩
   intro j v x hv hx
   match j with
   | 0=>cases hv;cases hx;exact .int _ _
   | 1=>cases hv;cases hx;exact .ifc _ _
   | j+2=>simp at hv
  ·skip
   have e1:YD ⟨s⟩=(Lib.atoiSat s,⟨true⟩):=by simp only[YD,h]
   rw[e1]
   obtain⟨cs,hc,ev,he,hev⟩:=hL.rng
   refine(Any.strconv_Atoi_range Tryz.lays172 ⟨s.toArray⟩ (by rw[hsz];omega) h ev w (Jp hΦ hc he) hev).mono ?_
   rintro e w' ⟨N,rfl,_,_,hb⟩
   refine⟨_,rfl,.tup _ _ rfl ?_,hb⟩
   intro j v x hv hx
   match j with
   | 0=>cases hv;cases hx;exact .int _ _
   | 1=>cases hv;cases hx;exact .ifc _ _
   | j+2=>simp at hv)
theorem Cg:Zx Tryz.prog 119 (fun x:Str×Unit=>decide (x.1.s.length<=281474976710656)) (fun x:Str×Unit=>ZG x.1):=Zx.of (T:=X6) (ic:=Xt) (rs:=Xu) (Zd (YA Tryz.func152 (by kernel_rfl) J3) (Zd (YA Tryz.func182 (by kernel_rfl) a7m) (Zd (YA Tryz.func76 (by kernel_rfl) FR) Zm))) ZU Tryz.func119 (by kernel_rfl) (by kernel_rfl) (by kernel_rfl) a0a
theorem a8r:Zx Tryz.prog 183 (fun x:List Str×Str×Unit=>Zr x.1) (fun x:List Str×Str×Unit=>ZI (fun s:Str=>decide (s=x.2.1)) x.1):=Zx.of (T:=Qk) (ic:=V4) (rs:=Ue) Zm ZU Tryz.func183 (by kernel_rfl) (by kernel_rfl) (by kernel_rfl) a1u
theorem Gz:Zx Tryz.prog 120 (fun x:List Str×Str×Unit=>Zr x.1) (fun x:List Str×Str×Unit=>x.1.contains x.2.1):=Zx.of (T:=Nf) (ic:=Aw) (rs:=AB) (Zd (YA Tryz.func183 (by kernel_rfl) a8r) Zm) ZU Tryz.func120 (by kernel_rfl) (by kernel_rfl) (by kernel_rfl) a7c
theorem Jf:Zx Tryz.prog 50 (fun x:BoxT×Unit=>ZH x.1) (fun x:BoxT×Unit=>Y4 x.1):=Zx.of (T:=U0) (ic:=Uc) (rs:=V6) (Zd (YA Tryz.func119 (by kernel_rfl) Cg) (Zd (YA Tryz.func120 (by kernel_rfl) Gz) Zm)) ZU Tryz.func50 (by kernel_rfl) (by kernel_rfl) (by kernel_rfl) a1z
theorem c7v:Yf Tryz.prog 48 Wo Ur:=b5w (T:=Vu) (ic:=WF) (rs:=WQ) Zm ZU Tryz.func48 (by kernel_rfl) (by kernel_rfl) (by kernel_rfl) a1r
theorem c9t:Yf Tryz.prog 174 JN G8:=Vw (T:=YX) (ic:=YH) (rs:=YE) Zm ZU Tryz.func174 (by kernel_rfl) (by kernel_rfl) (by kernel_rfl) a8z
theorem c8x:Yf Tryz.prog 174 Jo CY:=Vw (T:=YX) (ic:=YH) (rs:=YE) Zm ZU Tryz.func174 (by kernel_rfl) (by kernel_rfl) (by kernel_rfl) OT
theorem BJ:Zx Tryz.prog 174 (fun x:Lin×Unit=>decide (x.1.t.length<=1000000)) (fun x:Lin×Unit=>Zg x.1):=Zx.of (T:=YX) (ic:=YH) (rs:=YE) Zm ZU Tryz.func174 (by kernel_rfl) (by kernel_rfl) (by kernel_rfl) Eg
theorem c8p:Yf Tryz.prog 176 Jy Bl:=Vw (T:=O6) (ic:=PE) (rs:=NU) (Zd (YA Tryz.func120 (by kernel_rfl) Gz) Zm) ZU Tryz.func176 (by kernel_rfl) (by kernel_rfl) (by kernel_rfl) b3w
theorem c9c:Yf Tryz.prog 238 (WH 176) Ba:=Vw (T:=JW) (ic:=Qn) (rs:=QJ) (Zd (YA Tryz.func176 (by kernel_rfl) c8p) Zm) ZU Tryz.func238 (by kernel_rfl) (by kernel_rfl) (by kernel_rfl) c4t
theorem b7n:Yf Tryz.prog 175 (WH 176) Mc:=Vw (T:=a3b) (ic:=BN) (rs:=PS) (Zd (YA Tryz.func238 (by kernel_rfl) c9c) Zm) ZU Tryz.func175 (by kernel_rfl) (by kernel_rfl) (by kernel_rfl) c0r
theorem KV:Zx Tryz.prog 116 (fun x:BoxT×List Fact×Bool×NilS×Unit=>ZH x.1&&Zf x.2.1&&decide (x.2.1.length<=100)) (fun x:BoxT×List Fact×Bool×NilS×Unit=>Zv x.1 x.2.1 x.2.2.1 []):=Zx.of (T:=YI) (ic:=Yn) (rs:=Yp) (Zd (YA Tryz.func50 (by kernel_rfl) Jf) (Zd (YA Tryz.func95 (by kernel_rfl) GV) (Zd (YA Tryz.func174 (by kernel_rfl) BJ) (Zd (YA Tryz.func175 (by kernel_rfl) b7n) Zm)))) ZU Tryz.func116 (by kernel_rfl) (by kernel_rfl) (by kernel_rfl) EW
theorem b4q:Yf Tryz.prog 116 UM KE:=Vw (T:=YI) (ic:=Yn) (rs:=Yp) (Zd (YA Tryz.func50 (by kernel_rfl) Jf) (Zd (YA Tryz.func95 (by kernel_rfl) GV) (Zd (YA Tryz.func174 (by kernel_rfl) BJ) (Zd (YA Tryz.func175 (by kernel_rfl) b7n) Zm)))) ZU Tryz.func116 (by kernel_rfl) (by kernel_rfl) (by kernel_rfl) Fs
end Go.Proofs.YtjfgiaooglnomaaGreatDoor
namespace Go.Proofs.YtjfgiaooglnomaaGreatDoor
open Go.Pl
open Enc (enc dec is)
open EncL (encL decL isL)
set_option maxRecDepth 100000
theorem FH:Zx Tryz.prog 65 (fun x:Lin×List Coef×Unit=>YF x.1&&decide (x.2.1.length<=9223372036854775807)) (fun x:Lin×List Coef×Unit=>Yy x.1 x.2.1):=Zx.of (T:=Wn) (ic:=XD) (rs:=XB) (Zd (YA Tryz.func20 (by kernel_rfl) Kq) Zm) ZU Tryz.func65 (by kernel_rfl) (by kernel_rfl) (by kernel_rfl) a8w
theorem Ma:Zx Tryz.prog 53 (fun x:List Fact×List Coef×Unit=>Zf x.1&&decide (x.2.1.length<=9223372036854775807)) (fun x:List Fact×List Coef×Unit=>x.1.all fun f=>Yh f x.2.1):=Zx.of (T:=UA) (ic:=Vm) (rs:=Vq) (Zd (YA Tryz.func65 (by kernel_rfl) FH) Zm) ZU Tryz.func53 (by kernel_rfl) (by kernel_rfl) (by kernel_rfl) El
end Go.Proofs.YtjfgiaooglnomaaGreatDoor
namespace Go.Proofs.YtjfgiaooglnomaaGreatDoor
open Go.Pl
open Enc (enc dec is)
open EncL (encL decL isL)
set_option maxRecDepth 100000
theorem c0o:Yf Tryz.prog 110 Sg Pv:=Vw (T:=b1c) (ic:=EC) (rs:=Ev) Zm ZU Tryz.func110 (by kernel_rfl) (by kernel_rfl) (by kernel_rfl) c3h
theorem c5v:Yf Tryz.prog 109 (KC 110) C8:=Vw (T:=BB) (ic:=KO) (rs:=H6) (Zd (YA Tryz.func110 (by kernel_rfl) c0o) Zm) ZU Tryz.func109 (by kernel_rfl) (by kernel_rfl) (by kernel_rfl) c3s
theorem K5:Zx Tryz.prog 38 (fun x:Lin×List Coef×Unit=>Yz x.1&&decide (x.2.1.length<=9223372036854775807)) (fun x:Lin×List Coef×Unit=>Yy x.1 x.2.1):=Zx.of (T:=Ch) (ic:=K9) (rs:=KU) (Zd (YA Tryz.func73 (by kernel_rfl) UO) (Zd (YA Tryz.func109 (by kernel_rfl) c5v) Zm)) ZU Tryz.func38 (by kernel_rfl) (by kernel_rfl) (by kernel_rfl) c2n
theorem c1s:Yf Tryz.prog 239 H7 De:=Vw (T:=c6w) (ic:=b8q) (rs:=b4b) (Zd (YA Tryz.func38 (by kernel_rfl) K5) Zm) ZU Tryz.func239 (by kernel_rfl) (by kernel_rfl) (by kernel_rfl) c9k
theorem c5r:Yf Tryz.prog 227 (Vb 239) Bn:=Vw (T:=SH) (ic:=J9) (rs:=J6) (Zd (YA Tryz.func239 (by kernel_rfl) c1s) Zm) ZU Tryz.func227 (by kernel_rfl) (by kernel_rfl) (by kernel_rfl) c4u
theorem c6l:Yf Tryz.prog 161 (Vb 239) Bt:=Vw (T:=b3x) (ic:=a0c) (rs:=En) (Zd (YA Tryz.func227 (by kernel_rfl) c5r) Zm) ZU Tryz.func161 (by kernel_rfl) (by kernel_rfl) (by kernel_rfl) c1b
theorem NW:Zx Tryz.prog 178 (fun x:List Fact×List Coef×Unit=>Zf x.1&&decide (x.2.1.length<=9223372036854775807)) (fun x:List Fact×List Coef×Unit=>x.1.all fun f=>Yh f x.2.1):=Zx.of (T:=Av) (ic:=DY) (rs:=Dq) (Zd (YA Tryz.func161 (by kernel_rfl) c6l) Zm) ZU Tryz.func178 (by kernel_rfl) (by kernel_rfl) (by kernel_rfl) Em
end Go.Proofs.YtjfgiaooglnomaaGreatDoor
namespace Go.Proofs.YtjfgiaooglnomaaGreatDoor
open Go.RowKit
theorem a2h{k:IntKind}{a b:Int}(h:a=b):Ending.returned (.int k a) = .returned (.int k b):=by rw[h]
theorem Sj{a b:Bool}(h:a=b):Ending.returned (.bool a) = .returned (.bool b):=by rw[h]
theorem b4j{W w1:World}(hb:Below W.heap.size W w1):(∀ b o,b<W.heap.size->w1.cell? ⟨b,o,none⟩=W.cell? ⟨b,o,none⟩)∧(∀ b o,b<W.heap.size->w1.frozen? ⟨b,o,none⟩=W.frozen? ⟨b,o,none⟩):=
 ⟨fun b o h=>hb.cell (p:=⟨b,o,none⟩) h,fun b o h=>hb.frozen (p:=⟨b,o,none⟩) h⟩
theorem PR(a:Addr)(n:Nat):(a.add n).block=a.block:=by unfold Addr.add;split <;> rfl
def Xm(w:World)(B size:Nat)(A:Option Addr)(n:Nat)(xs:List Value):Prop:=
 xs.length=n*size∧(0<n-> ∃ ad,A=some ad∧ad.block<B∧ ∀ j u,xs[j]? = some u->w.cell? (ad.add j)=some u)
section
variable {w w':World} {B B' size n:Nat} {A:Option Addr} {xs:List Value}
theorem Xm.at_{k:Nat}(h:Xm w B 1 A n xs)(hk:k<n): ∃ ad u,A=some ad∧ad.block<B∧xs[k]? = some u∧w.cell? (ad.add k)=some u:=by
 obtain⟨ad,e,hb,hc⟩:=h.2 (by omega)
 have hl:k<xs.length:=by have:=h.1;omega
 exact⟨ad,xs[k],e,hb,List.getElem?_eq_getElem hl,hc k _ (List.getElem?_eq_getElem hl)⟩
theorem Xm.keep(h:Xm w B size A n xs)(hk : ∀ p:Addr,p.block<B->w'.cell? p=w.cell? p):Xm w' B size A n xs:=
 ⟨h.1,fun hn=>by
  obtain⟨ad,e,hb,hc⟩:=h.2 hn
  exact⟨ad,e,hb,fun j u hu=>(hk _ (by rw[PR];exact hb)).trans (hc j u hu)⟩⟩
theorem Xm.below(h:Xm w B size A n xs)(hb:Below B w w'):Xm w' B size A n xs:=h.keep fun _ hp=>hb.cell hp
theorem Xm.drew(h:Xm w B size A n xs):Xm w.drew B size A n xs:=h
theorem Xm.alloc(h:Xm w B size A n xs)(hB:B<=w.heap.size)(o:Obj):Xm (w.alloc o) B size A n xs:=h.keep fun p hp=>World.cell?_alloc_lt w o p (by omega)
theorem Xm.setCell(h:Xm w B size A n xs){p:Addr}(hB:B<=p.block)(u:Value):Xm (w.setCell p u) B size A n xs:=
 h.keep fun q hq=>World.cell?_setCell_other w p q u (fun e=>by subst e;omega)
theorem Xm.grown(h:Xm w B size A n xs){row:Option Nat}(hg:w.grownBy w' row)(hB:B<=w.heap.size)(hr : ∀ g,row=some g->B<=g):Xm w' B size A n xs:=
 h.keep fun p hp=>World.cell?_of_block (hg.block p.block (by omega) (fun e=>by have:=hr _ e.symm;omega))
theorem Xm.of_own{base:Nat}{e:TypeId}{c:Nat}(h:w.ownsRow base e size (.slice A n c) n xs):Xm w w.heap.size size A n xs:=by
 refine⟨h.1,fun hn=> ?_⟩
 obtain⟨g,cap,hv,_,hlt⟩:=h.form hn
 have hA:A=some ⟨g,0,none⟩:=by injection hv
 subst hA
 exact⟨_,rfl,hlt,h.cells (g:=g) rfl⟩
theorem Xm.of_new(w:World)(e:TypeId)(cs:Array Value):Xm (w.alloc (.cells cs e)) (w.heap.size+1) 1 (some ⟨w.heap.size,0,none⟩) cs.size cs.toList:=by
 refine⟨by simp,fun _=>⟨_,rfl,by simp,fun j u hu=> ?_⟩⟩
 have hj:j<cs.size:=by
  have:=(List.getElem?_eq_some_iff.1 hu).1
  simpa using this
 have hu':cs[j]? = some u:=by simpa using hu
 have:(⟨w.heap.size,0,none⟩:Addr).add j=⟨w.heap.size,j,none⟩:=by
  unfold Addr.add;by_cases h0:j=0 <;> simp[h0]
 rw[this,cell_of_row (w.alloc (.cells cs e)) w.heap.size j cs e (0,0) (heap_alloc_new w _)]
 exact hu'
end
def QL(w:World)(g:Nat)(t:TypeId)(cs:Array Value):Prop:=w.heap[g]? = some (.cells cs t (0,0))
section
variable {w w':World} {g:Nat} {t:TypeId} {cs:Array Value}
theorem QL.lt(h:QL w g t cs):g<w.heap.size:=by
 rcases Nat.lt_or_ge g w.heap.size with hlt|hge
 ·exact hlt
 ·unfold QL at h;rw[Array.getElem?_eq_none hge]at h;cases h
theorem QL.cell(h:QL w g t cs)(i:Nat):w.cell? ⟨g,i,none⟩=cs[i]? :=cell_of_row w g i cs t (0,0) h
theorem QL.frozen(h:QL w g t cs)(i:Nat):w.frozen? ⟨g,i,none⟩=false:=by
 unfold QL at h
 simp[World.frozen?,h]
theorem QL.new(w:World)(t:TypeId)(cs:Array Value):QL (w.alloc (.cells cs t)) w.heap.size t cs:=heap_alloc_new w _
theorem QL.drew(h:QL w g t cs):QL w.drew g t cs:=h
theorem QL.alloc(h:QL w g t cs)(o:Obj):QL (w.alloc o) g t cs:=(Below.heap_alloc w o g h.lt).trans h
theorem QL.set_(h:QL w g t cs)(i:Nat)(u:Value):QL (w.setCell ⟨g,i,none⟩ u) g t (cs.setIfInBounds i u):=by
 unfold QL at h ⊢
 simp[World.setCell,Array.getElem?_modify,h]
theorem QL.below{B:Nat}(h:QL w g t cs)(hb:Below B w w')(hg:g<B):QL w' g t cs:=(hb.block g hg).trans h
theorem QL.grown{row:Option Nat}(h:QL w g t cs)(hb:w.grownBy w' row)(hg:some g≠row):QL w' g t cs:=(hb.block g h.lt hg).trans h
end
theorem Rk(w:World)(row:Option Nat):w.grownBy w row:=World.grownBy.refl w row
theorem UV{a w:World}{row:Option Nat}(h:a.grownBy w row):a.grownBy w.drew row:=⟨h.os,h.tape,h.output,h.size,h.block⟩
theorem WN{a w:World}{g:Nat}(h:a.grownBy w (some g)){p:Addr}(hp:p.block=g∨a.heap.size<=p.block)(u:Value):a.grownBy (w.setCell p u) (some g):=
 ⟨h.os,h.tape,h.output,by simpa [World.setCell]using h.size,fun i hi hne=>(Below.heap_setCell w p u i (by
  rintro rfl
  rcases hp with hp|hp
  ·exact hne (by rw[hp])
  ·omega)).trans (h.block i hi hne)⟩
end Go.Proofs.YtjfgiaooglnomaaGreatDoor
namespace Go.Proofs.YtjfgiaooglnomaaGreatDoor
open Go.RowKit
def rng(n:Int):Bool:=decide (-4611686018427387904<=n∧n<=4611686018427387904)
theorem PM{n:Int}(h:rng n=true): -4611686018427387904<=n∧n<=4611686018427387904:=by simpa [rng]using h
theorem b2d{n:Int}(h : -4611686018427387904<=n∧n<=4611686018427387904):rng n=true:=by simpa [rng]using h
theorem UQ{n:Int}(h : ¬ (-4611686018427387904<=n∧n<=4611686018427387904)):rng n=false:=by simpa [rng]using h
def vR(n:Int):Int:=bif rng n then n else 0
def eR(n:Int):Int:=bif rng n then 0 else 2
theorem b8i(zs:List Int)(k:Nat)(x:Int)(hx:zs[k]? = some x):(zs.take (k+1)).all rng=((zs.take k).all rng&&rng x):=by
 have hk:k<zs.length:=(List.getElem?_eq_some_iff.1 hx).1
 rw[List.take_succ_eq_append_getElem hk]
 have:zs[k]=x:=by rw[List.getElem?_eq_getElem hk]at hx;exact Option.some.inj hx
 simp[this]
theorem a3c(zs:List Int)(k:Nat)(x:Int)(hx:zs[k]? = some x)(hr:rng x=false):zs.all rng=false:=by
 have hk:k<zs.length:=(List.getElem?_eq_some_iff.1 hx).1
 rw[List.all_eq_false]
 refine⟨x,List.mem_of_getElem? hx,by simp[hr]⟩
set_option maxHeartbeats 400000 in
theorem AU(A:Option Addr)(n c:Nat)(zs:List Int)(w:World)(B:Nat)(hr:Xm w B 1 A n (zs.map (Value.int .i64)))(hn:n<=9223372036854775807):
  Calls Tryz.prog 191 #[.slice A n c] w fun e w'=>e = .returned (.bool (zs.all rng))∧w=w':=by
 have hlen:=Lib.hid (show zs.length=n by have:=hr.1;simpa using this)
 go_enter Tryz.func191,Tryz.ntmps191
 go_wp2
 go_loop [7] (fun i=> ∃ k:Nat,k<=n∧i = .int .i64 k∧Hid ((zs.take k).all rng=true)) (fun i=>n - (intOf i).toNat)
 case atStart=>exact⟨0,Nat.zero_le _,rfl,Lib.hid (by simp)⟩
 case round=>
  obtain⟨k,hk,rfl,ha⟩:=hrel
  by_cases hlt:k<n
  ·obtain⟨ad,u,rfl,_,hu,hc⟩:=hr.at_ hlt
   rw[List.getElem?_map]at hu
   obtain⟨x,hx,rfl⟩:=Option.map_eq_some_iff.1 hu
   have HX:=Lib.hid hx
   clear hx hu
   by_cases h1 : -4611686018427387904<=x
   ·by_cases h2:x<=4611686018427387904
    ·have HA:Hid ((zs.take (k+1)).all rng=true):=Lib.hid (by rw[b8i zs k x HX.out,ha.out,b2d ⟨h1,h2⟩];rfl)
     go_wp2
     go_round
     case rel=>exact⟨k+1,by omega,by go_num,HA⟩
     case measure=>simp[intOf];omega
    ·go_wp2
     go_ret
     exact⟨Sj (by rw[a3c zs k x HX.out (UQ (by omega))]),rfl⟩
   ·go_wp2
    go_ret
    exact⟨Sj (by rw[a3c zs k x HX.out (UQ (by omega))]),rfl⟩
  ·go_wp2
   go_ret
   exact⟨Sj (by have:=ha.out;rw[List.take_of_length_le (by rw[hlen.out];omega)]at this;rw[this]),rfl⟩
set_option maxHeartbeats 400000 in
theorem Co(n:Int)(w:World):
  Calls Tryz.prog 253 #[.int .i64 n] w fun e w'=>e = .returned (.tuple #[.int .i64 (vR n),.int .i64 (eR n)])∧Below w.heap.size w w':=by
 have H1:=fun c=>AU (some ⟨w.heap.size,0,none⟩) 1 c [n] (w.alloc (.cells #[.int .i64 n] 3)) (w.heap.size+1) (Xm.of_new w 3 #[.int .i64 n]) (by omega)
 cases hr:rng n
 all_goals
  simp only[List.all_cons,List.all_nil,hr,Bool.and_true]at H1
  have H2:=Lib.hid H1
  clear H1
  go_enter Tryz.func253,Tryz.ntmps253
  go_wp2_with (go_at_call 191;refine(H2.out _).mono ?_;rintro e w' ⟨rfl,rfl⟩)
  go_ret2
  exact⟨by simp[vR,eR,hr],(Below.refl _ _).alloc (Nat.le_refl _) _⟩
end Go.Proofs.YtjfgiaooglnomaaGreatDoor
namespace Go.Proofs.YtjfgiaooglnomaaGreatDoor
open Go.RowKit
set_option maxHeartbeats 400000 in
theorem G7(n:Int)(w:World)(h : -4611686018427387904<=n∧n<=4611686018427387904):
  Calls Tryz.prog 249 #[.int .i64 n] w fun e w'=>e = .returned (.int .i64 (n.natAbs:Int))∧w=w':=by
 obtain⟨h1,h2⟩:=h
 by_cases h0:n<0
 ·go_enter Tryz.func249,Tryz.ntmps249
  go_wp2
  go_ret
  exact⟨a2h (by omega),rfl⟩
 ·go_enter Tryz.func249,Tryz.ntmps249
  go_wp2
  go_ret
  exact⟨a2h (by omega),rfl⟩
end Go.Proofs.YtjfgiaooglnomaaGreatDoor
namespace Go.Proofs.YtjfgiaooglnomaaGreatDoor
open Go.RowKit
def Nq(a b:Int):Int:=bif rng a&&rng b&&rng (a*b)then a*b else 0
def NP(a b:Int):Int:=bif rng a&&rng b&&rng (a*b)then 0 else 2
theorem N8(a b:Int)(w:World):
  Calls Tryz.prog 191 #[.slice (some ⟨w.heap.size,0,none⟩) 2 2] (w.alloc (.cells #[.int .i64 a,.int .i64 b] 3)) fun e w'=>e = .returned (.bool (rng a&&rng b))∧w.alloc (.cells #[.int .i64 a,.int .i64 b] 3)=w':=by
 have h:=AU (some ⟨w.heap.size,0,none⟩) 2 2 [a,b] (w.alloc (.cells #[.int .i64 a,.int .i64 b] 3)) (w.heap.size+1) (Xm.of_new w 3 #[.int .i64 a,.int .i64 b]) (by omega)
 simpa using h
theorem c2z{a b:Int}(h:(rng a&&rng b)=true):(-4611686018427387904<=a∧a<=4611686018427387904)∧(-4611686018427387904<=b∧b<=4611686018427387904):=by
 rw[Bool.and_eq_true]at h
 exact⟨PM h.1,PM h.2⟩
end Go.Proofs.YtjfgiaooglnomaaGreatDoor
namespace Go.Proofs.YtjfgiaooglnomaaGreatDoor
open Go.RowKit
theorem a1m(x y c:Nat)(hc:c<=1)(w:World):
  (callFunc 250 #[.int .u64 x,.int .u64 y,.int .u64 c]).run Tryz.prog w =
   .ok (.value (.tuple #[.int .u64 (((x+y+c) % 18446744073709551616:Nat):Int),.int .u64 (((x+y+c) / 18446744073709551616:Nat):Int)])) w:=by
 rw[run_callFunc_extern Tryz.func250 (by kernel_rfl) (by kernel_rfl) (by kernel_rfl) (e:=add64Entry) (by kernel_rfl),run_add64 x y c (by omega) (by omega) (by omega) (by omega)]
 simp only[Result.andThen]
 congr 5 <;> omega
end Go.Proofs.YtjfgiaooglnomaaGreatDoor
namespace Go.Proofs.YtjfgiaooglnomaaGreatDoor
open Go.RowKit
theorem Xx{k l:IntKind}{a b c d:Int}(h1:a=c)(h2:b=d):Ending.returned (.tuple #[.int k a,.int l b]) = .returned (.tuple #[.int k c,.int l d]):=by rw[h1,h2]
theorem b1i(a:Nat)(ha:a<18446744073709551616):bits .and .u64 (a:Int) 4294967295=((a % 4294967296:Nat):Int):=by
 have h:=bits_and_u64_nat a 4294967295 ha (by omega)
 have e:a &&& 4294967295=a % 4294967296:=Nat.and_two_pow_sub_one_eq_mod a 32
 rw[e]at h
 exact h
theorem d3e(a:Nat):(a:Int) / 4294967296=((a / 4294967296:Nat):Int):=by omega
theorem d3b(a b:Nat):(a:Int)*(b:Int)=((a*b:Nat):Int):=(Int.natCast_mul a b).symm
theorem d3k(a b:Nat):(a:Int)+(b:Int)=((a+b:Nat):Int):=(Int.natCast_add a b).symm
theorem Cm(a:Nat)(ha:a<18446744073709551616):IntKind.u64.wrap (a:Int)=(a:Int):=by rw[IntKind.wrap_u64];omega
theorem d1n(a:Nat):IntKind.u64.wrap (a:Int)=((a % 18446744073709551616:Nat):Int):=by rw[IntKind.wrap_u64];omega
set_option maxHeartbeats 1000000 in
theorem b0n(x y:Nat)(hx:x<18446744073709551616)(hy:y<18446744073709551616)(w:World):
  Calls Tryz.prog 248 #[.int .u64 x,.int .u64 y] w fun e w'=>e = .returned (.tuple #[.int .u64 ((x*y / 18446744073709551616:Nat):Int),.int .u64 ((x*y % 18446744073709551616:Nat):Int)])∧w'=w:=by
 obtain⟨bd,bt,bw,hhi⟩:=Lib.mul64_hi x y hx hy
 have ba:=Lib.half_mul_le (a:=x / 4294967296) (b:=y / 4294967296) (by omega) (by omega)
 have bb:=Lib.half_mul_le (a:=x / 4294967296) (b:=y % 4294967296) (by omega) (by omega)
 have bc:=Lib.half_mul_le (a:=x % 4294967296) (b:=y / 4294967296) (by omega) (by omega)
 have ba':x / 4294967296*(y / 4294967296)<18446744073709551616:=by omega
 have bb':x / 4294967296*(y % 4294967296)<18446744073709551616:=by omega
 have bc':x % 4294967296*(y / 4294967296)<18446744073709551616:=by omega
 have bh1:x / 4294967296*(y / 4294967296)+(x / 4294967296*(y % 4294967296)+x % 4294967296*(y % 4294967296) / 4294967296) / 4294967296<18446744073709551616:=by omega
 have bh:x / 4294967296*(y / 4294967296)+(x / 4294967296*(y % 4294967296)+x % 4294967296*(y % 4294967296) / 4294967296) / 4294967296+((x / 4294967296*(y % 4294967296)+x % 4294967296*(y % 4294967296) / 4294967296) % 4294967296+x % 4294967296*(y / 4294967296)) / 4294967296<18446744073709551616:=by omega
 have HH:=Lib.hid hhi
 clear hhi
 go_enter Tryz.func248,Tryz.ntmps248
 go_wp2
 simp only[b1i x hx,b1i y hy,d3e,d3b,d3k,Cm _ bd,Cm _ bb',Cm _ bt,b1i _ bt,Cm _ bc',Cm _ bw,Cm _ ba',Cm _ bh1,Cm _ bh,d1n (x*y)]
 rw[HH.out]
 go_ret2
 exact⟨rfl,rfl⟩
end Go.Proofs.YtjfgiaooglnomaaGreatDoor
namespace Go.Proofs.YtjfgiaooglnomaaGreatDoor
open Go.RowKit
theorem Fg(x y:Nat)(hx:x<=4611686018427387904)(hy:y<=4611686018427387904)(w:World):
  (x*y<=4611686018427387904∧Calls Tryz.prog 248 #[.int .u64 x,.int .u64 y] w fun e w'=>e = .returned (.tuple #[.int .u64 0,.int .u64 ((x*y:Nat):Int)])∧w=w') ∨
  (4611686018427387904<x*y∧ ∃ h l:Nat,0<h∧Calls Tryz.prog 248 #[.int .u64 x,.int .u64 y] w fun e w'=>e = .returned (.tuple #[.int .u64 (h:Int),.int .u64 (l:Int)])∧w=w') ∨
  (4611686018427387904<x*y∧ ∃ l:Nat,4611686018427387904<l∧Calls Tryz.prog 248 #[.int .u64 x,.int .u64 y] w fun e w'=>e = .returned (.tuple #[.int .u64 0,.int .u64 (l:Int)])∧w=w'):=by
 have h:=b0n x y (by omega) (by omega) w
 generalize x*y=p at *
 by_cases hp:p<=4611686018427387904
 ·refine .inl ⟨hp,h.mono ?_⟩
  rintro e w' ⟨rfl,rfl⟩
  exact⟨Xx (by omega) (by omega),rfl⟩
 ·by_cases hh:p<18446744073709551616
  ·refine .inr (.inr ⟨by omega,p,by omega,h.mono ?_⟩)
   rintro e w' ⟨rfl,rfl⟩
   exact⟨Xx (by omega) (by omega),rfl⟩
  ·refine .inr (.inl ⟨by omega,p / 18446744073709551616,p % 18446744073709551616,by omega,h.mono ?_⟩)
   rintro e w' ⟨rfl,rfl⟩
   exact⟨rfl,rfl⟩
theorem b9r(a b:Int):(a.natAbs*b.natAbs:Nat)=(a*b).natAbs:=(Int.natAbs_mul a b).symm
theorem JU(a b:Int)(h:(!decide (a<0)==decide (b<0))=true):a*b = -((a.natAbs*b.natAbs:Nat):Int):=by
 rw[Int.natCast_mul]
 by_cases ha:a<0 <;> by_cases hb:b<0
 ·simp[ha,hb]at h
 ·rw[Int.ofNat_natAbs_of_nonpos (by omega),Int.natAbs_of_nonneg (by omega),Int.neg_mul,Int.neg_neg]
 ·rw[Int.ofNat_natAbs_of_nonpos (a:=b) (by omega),Int.natAbs_of_nonneg (a:=a) (by omega),Int.mul_neg,Int.neg_neg]
 ·simp[ha,hb]at h
theorem JS(a b:Int)(h:(!decide (a<0)==decide (b<0))=false):a*b=((a.natAbs*b.natAbs:Nat):Int):=by
 rw[Int.natCast_mul]
 by_cases ha:a<0 <;> by_cases hb:b<0
 ·rw[Int.ofNat_natAbs_of_nonpos (by omega),Int.ofNat_natAbs_of_nonpos (by omega),Int.neg_mul_neg]
 ·simp[ha,hb]at h
 ·simp[ha,hb]at h
 ·rw[Int.natAbs_of_nonneg (by omega),Int.natAbs_of_nonneg (by omega)]
set_option maxRecDepth 20000 in
set_option maxHeartbeats 400000 in
theorem c0j(a b:Int)(w:World):
  Calls Tryz.prog 247 #[.int .i64 a,.int .i64 b] w fun e w'=>e = .returned (.tuple #[.int .i64 (Nq a b),.int .i64 (NP a b)])∧Below w.heap.size w w':=by
 cases hr:(rng a&&rng b)
 ·have he:NP a b=2:=by simp[NP,hr]
  have hv:Nq a b=0:=by simp[Nq,hr]
  rw[he,hv]
  clear he hv
  go_enter Tryz.func247,Tryz.ntmps247
  go_wp2_with (go_at_call 191;refine(N8 _ _ _).mono ?_;rintro e w' ⟨rfl,rfl⟩)
  go_ret2
  exact⟨rfl,(Below.refl _ _).alloc (Nat.le_refl _) _⟩
 ·obtain⟨ha,hb⟩:=c2z hr
  have hspec:(a.natAbs*b.natAbs<=4611686018427387904->Nq a b=a*b∧NP a b=0)∧(4611686018427387904<a.natAbs*b.natAbs->Nq a b=0∧NP a b=2):=by
   rw[b9r]
   constructor
   ·intro h
    have h1:rng (a*b)=true:=b2d (by omega)
    simp[Nq,NP,hr,h1]
   ·intro h
    have h1:rng (a*b)=false:=UQ (by omega)
    simp[Nq,NP,hr,h1]
  have HS:=Lib.hid hspec
  clear hspec
  have hsg:=Lib.hid (And.intro (JU a b) (JS a b))
  have hc:=Fg a.natAbs b.natAbs (by omega) (by omega) (w.alloc (.cells #[.int .i64 a,.int .i64 b] 3))
  have hna:(a.natAbs:Int)<=4611686018427387904:=by omega
  have hnb:(b.natAbs:Int)<=4611686018427387904:=by omega
  have HA:=Lib.hid ha
  have HB:=Lib.hid hb
  have hza:(0:Int)<=(a.natAbs:Int):=by omega
  have hzb:(0:Int)<=(b.natAbs:Int):=by omega
  clear ha hb
  rcases hc with ⟨hp,h⟩|⟨hp,h,l,hh,h2⟩|⟨hp,l,hl,h2⟩
  ·generalize a.natAbs*b.natAbs=p at *
   have H:=Lib.hid h
   clear h
   obtain⟨e1,e2⟩:=HS.out.1 hp
   rw[e1,e2]
   clear e1 e2 HS
   have hp1:(p:Int)<=4611686018427387904:=by omega
   clear hp
   go_enter Tryz.func247,Tryz.ntmps247
   go_wp2_with (first
    | (go_at_call 191;refine(N8 _ _ _).mono ?_;rintro e w' ⟨rfl,rfl⟩)
    | (go_at_call 249;refine(G7 _ _ (by first|exact HA.out|exact HB.out)).mono ?_;rintro e w' ⟨rfl,rfl⟩)
    | (go_at_call 248;refine H.out.mono ?_;rintro e w' ⟨rfl,rfl⟩))
   all_goals go_ret2
   all_goals first
    | exact⟨Xx (hsg.out.1 ‹_›).symm rfl,(Below.refl _ _).alloc (Nat.le_refl _) _⟩
    | exact⟨Xx (hsg.out.2 ‹_›).symm rfl,(Below.refl _ _).alloc (Nat.le_refl _) _⟩
  ·generalize a.natAbs*b.natAbs=p at *
   have H:=Lib.hid h2
   clear h2
   obtain⟨e1,e2⟩:=HS.out.2 hp
   rw[e1,e2]
   clear e1 e2 HS
   have hh1:(0:Int)<(h:Int):=by omega
   clear hp hh
   go_enter Tryz.func247,Tryz.ntmps247
   go_wp2_with (first
    | (go_at_call 191;refine(N8 _ _ _).mono ?_;rintro e w' ⟨rfl,rfl⟩)
    | (go_at_call 249;refine(G7 _ _ (by first|exact HA.out|exact HB.out)).mono ?_;rintro e w' ⟨rfl,rfl⟩)
    | (go_at_call 248;refine H.out.mono ?_;rintro e w' ⟨rfl,rfl⟩))
   go_ret2
   exact⟨rfl,(Below.refl _ _).alloc (Nat.le_refl _) _⟩
  ·generalize a.natAbs*b.natAbs=p at *
   have H:=Lib.hid h2
   clear h2
   obtain⟨e1,e2⟩:=HS.out.2 hp
   rw[e1,e2]
   clear e1 e2 HS
   have hh1:(4611686018427387904:Int)<(l:Int):=by omega
   clear hp hl
   go_enter Tryz.func247,Tryz.ntmps247
   go_wp2_with (first
    | (go_at_call 191;refine(N8 _ _ _).mono ?_;rintro e w' ⟨rfl,rfl⟩)
    | (go_at_call 249;refine(G7 _ _ (by first|exact HA.out|exact HB.out)).mono ?_;rintro e w' ⟨rfl,rfl⟩)
    | (go_at_call 248;refine H.out.mono ?_;rintro e w' ⟨rfl,rfl⟩))
   go_ret2
   exact⟨rfl,(Below.refl _ _).alloc (Nat.le_refl _) _⟩
end Go.Proofs.YtjfgiaooglnomaaGreatDoor
namespace Go.Proofs.YtjfgiaooglnomaaGreatDoor
open Go.RowKit
end Go.Proofs.YtjfgiaooglnomaaGreatDoor
namespace Go.Proofs.YtjfgiaooglnomaaGreatDoor
open Go.RowKit
def Wt(n:Nat):Nat:=n % 18446744073709551616
def WU(n:Nat):Nat:=n / 18446744073709551616 % 18446744073709551616
def Vs(n:Nat):Nat:=n / 340282366920938463463374607431768211456
def Je(P N:Nat):Array Value:=#[.int .u64 (Wt P:Int),.int .u64 (WU P:Int),.int .u64 (Vs P:Int),.int .u64 (Wt N:Int),.int .u64 (WU N:Int),.int .u64 (Vs N:Int)]
theorem a9j(P x:Nat)(hx:x<340282366920938463463374607431768211456)(h:P+x<6277101735386680763835789423207666416102355444464034512896):
  ∃ c0 c1 c2:Nat,
   (∀ w,(callFunc 250 #[.int .u64 (Wt P:Int),.int .u64 ((x % 18446744073709551616:Nat):Int),.int .u64 0]).run Tryz.prog w = .ok (.value (.tuple #[.int .u64 (Wt (P+x):Int),.int .u64 (c0:Int)])) w) ∧
   (∀ w,(callFunc 250 #[.int .u64 (WU P:Int),.int .u64 ((x / 18446744073709551616:Nat):Int),.int .u64 (c0:Int)]).run Tryz.prog w = .ok (.value (.tuple #[.int .u64 (WU (P+x):Int),.int .u64 (c1:Int)])) w) ∧
   (∀ w,(callFunc 250 #[.int .u64 (Vs P:Int),.int .u64 0,.int .u64 (c1:Int)]).run Tryz.prog w = .ok (.value (.tuple #[.int .u64 (Vs (P+x):Int),.int .u64 (c2:Int)])) w):=by
 have e1:=fun c (hc:c<=1) w=>a1m (Wt P) (x % 18446744073709551616) c hc w
 have e2:=fun c (hc:c<=1) w=>a1m (WU P) (x / 18446744073709551616) c hc w
 have e3:=fun c (hc:c<=1) w=>a1m (Vs P) 0 c hc w
 refine⟨(Wt P+x % 18446744073709551616+0) / 18446744073709551616,(WU P+x / 18446744073709551616+(Wt P+x % 18446744073709551616+0) / 18446744073709551616) / 18446744073709551616,
  (Vs P+0+(WU P+x / 18446744073709551616+(Wt P+x % 18446744073709551616+0) / 18446744073709551616) / 18446744073709551616) / 18446744073709551616,fun w=> ?_,fun w=> ?_,fun w=> ?_⟩
 ·refine(e1 0 (by omega) w).trans ?_
  congr 7
  unfold Wt;omega
 ·refine(e2 _ (by unfold Wt;omega) w).trans ?_
  congr 7
  unfold Wt WU;omega
 ·refine(e3 _ (by unfold Wt WU;omega) w).trans ?_
  congr 7
  unfold Wt WU Vs;omega
theorem FI(P:Nat)(a b:Int)(ha : -4611686018427387904<=a∧a<=4611686018427387904)(hb : -4611686018427387904<=b∧b<=4611686018427387904)
  (h:P+a.natAbs*b.natAbs<6277101735386680763835789423207666416102355444464034512896) :
  ∃ lo hi c0 c1 c2:Nat,
   (∀ w,Calls Tryz.prog 248 #[.int .u64 (a.natAbs:Int),.int .u64 (b.natAbs:Int)] w fun e w'=>e = .returned (.tuple #[.int .u64 (hi:Int),.int .u64 (lo:Int)])∧w=w') ∧
   (∀ w,(callFunc 250 #[.int .u64 (Wt P:Int),.int .u64 (lo:Int),.int .u64 0]).run Tryz.prog w = .ok (.value (.tuple #[.int .u64 (Wt (P+a.natAbs*b.natAbs):Int),.int .u64 (c0:Int)])) w) ∧
   (∀ w,(callFunc 250 #[.int .u64 (WU P:Int),.int .u64 (hi:Int),.int .u64 (c0:Int)]).run Tryz.prog w = .ok (.value (.tuple #[.int .u64 (WU (P+a.natAbs*b.natAbs):Int),.int .u64 (c1:Int)])) w) ∧
   (∀ w,(callFunc 250 #[.int .u64 (Vs P:Int),.int .u64 0,.int .u64 (c1:Int)]).run Tryz.prog w = .ok (.value (.tuple #[.int .u64 (Vs (P+a.natAbs*b.natAbs):Int),.int .u64 (c2:Int)])) w):=by
 have hm:=fun w=>b0n a.natAbs b.natAbs (by omega) (by omega) w
 have hx:a.natAbs*b.natAbs<340282366920938463463374607431768211456:=by
  have:=Nat.mul_le_mul (show a.natAbs<=4611686018427387904 by omega) (show b.natAbs<=4611686018427387904 by omega)
  omega
 generalize a.natAbs*b.natAbs=x at *
 obtain⟨c0,c1,c2,h0,h1,h2⟩:=a9j P x hx h
 exact⟨_,_,c0,c1,c2,fun w=>(hm w).mono fun e w' ⟨he,hw⟩=>⟨he,hw.symm⟩,h0,h1,h2⟩
theorem b3n(P N Q:Nat):(((Je P N).setIfInBounds 0 (.int .u64 (Wt Q:Int))).setIfInBounds 1 (.int .u64 (WU Q:Int))).setIfInBounds 2 (.int .u64 (Vs Q:Int))=Je Q N:=by simp[Je]
theorem b5q(P N Q:Nat):(((Je P N).setIfInBounds 3 (.int .u64 (Wt Q:Int))).setIfInBounds 4 (.int .u64 (WU Q:Int))).setIfInBounds 5 (.int .u64 (Vs Q:Int))=Je P Q:=by simp[Je]
theorem b1w(x0 x1 x2:Value)(w:World):(Instr.index 221 (.agg #[x0,x1,x2]) (.int .i64 0)).run Tryz.prog w = .ok x0 w:=by kernel_rfl
theorem b3o(x0 x1 x2:Value)(w:World):(Instr.index 221 (.agg #[x0,x1,x2]) (.int .i64 1)).run Tryz.prog w = .ok x1 w:=by kernel_rfl
theorem b3l(x0 x1 x2:Value)(w:World):(Instr.index 221 (.agg #[x0,x1,x2]) (.int .i64 2)).run Tryz.prog w = .ok x2 w:=by kernel_rfl
set_option maxRecDepth 20000 in
set_option maxHeartbeats 1000000 in
theorem a9q(g P N:Nat)(a b:Int)(w:World)(ha : -4611686018427387904<=a∧a<=4611686018427387904)(hb : -4611686018427387904<=b∧b<=4611686018427387904)
  (h:P+a.natAbs*b.natAbs<6277101735386680763835789423207666416102355444464034512896) (hs:(!decide (a<0)==decide (b<0))=false) (hw:QL w g 223 (Je P N)) :
  Calls Tryz.prog 192 #[.pointer (some ⟨g,0,none⟩),.int .i64 a,.int .i64 b] w fun e w'=>e = .returned (.tuple #[])∧QL w' g 223 (Je (P+a.natAbs*b.natAbs) N)∧w.grownBy w' (some g):=by
 obtain⟨lo,hi,c0,c1,c2,hm,r0,r1,r2⟩:=FI P a b ha hb h
 generalize P+a.natAbs*b.natAbs=Q at *
 have HM:=Lib.hid hm
 have HA:=Lib.hid ha
 have HB:=Lib.hid hb
 have hna:(a.natAbs:Int)<=4611686018427387904:=by omega
 have hnb:(b.natAbs:Int)<=4611686018427387904:=by omega
 have k0:w.cell? ⟨g,0,none⟩=some (.int .u64 (Wt P:Int)):=hw.cell 0
 have k1:w.cell? ⟨g,1,none⟩=some (.int .u64 (WU P:Int)):=hw.cell 1
 have k2:w.cell? ⟨g,2,none⟩=some (.int .u64 (Vs P:Int)):=hw.cell 2
 have f0:=hw.frozen 0
 have f1:=hw.frozen 1
 have f2:=hw.frozen 2
 have HW:=Lib.hid hw
 clear hm ha hb h hw
 go_enter Tryz.func192,Tryz.ntmps192
 go_wp2_with (first
  | (go_at_call 249;refine(G7 _ _ (by first|exact HA.out|exact HB.out)).mono ?_;rintro e w' ⟨rfl,rfl⟩)
  | (go_at_call 248;refine(HM.out _).mono ?_;rintro e w' ⟨rfl,rfl⟩))
 have i0:=b1w
 have i1:=b3o
 have i2:=b3l
 refine wp_loop_rounds 4 ?_
 rw[rounds_succ]
 go_wp2
 go_region
 all_goals go_wp2
 all_goals rw[rounds_succ]
 all_goals go_wp2
 all_goals go_region
 all_goals go_wp2
 all_goals rw[rounds_succ]
 all_goals go_wp2
 all_goals go_region
 all_goals go_wp2
 all_goals rw[rounds_succ]
 all_goals go_wp2
 go_end0
 refine⟨rfl,?_,?_⟩
 ·have h:=((HW.out.set_ 0 (.int .u64 (Wt Q:Int))).set_ 1 (.int .u64 (WU Q:Int))).set_ 2 (.int .u64 (Vs Q:Int))
  rw[b3n]at h
  exact h.drew.drew.drew
 ·exact UV (UV (UV (WN (p:=⟨g,2,none⟩) (WN (p:=⟨g,1,none⟩) (WN (p:=⟨g,0,none⟩) (Rk w (some g)) (.inl rfl) _) (.inl rfl) _) (.inl rfl) _)))
set_option maxRecDepth 20000 in
set_option maxHeartbeats 1000000 in
theorem a7p(g P N:Nat)(a b:Int)(w:World)(ha : -4611686018427387904<=a∧a<=4611686018427387904)(hb : -4611686018427387904<=b∧b<=4611686018427387904)
  (h:N+a.natAbs*b.natAbs<6277101735386680763835789423207666416102355444464034512896) (hs:(!decide (a<0)==decide (b<0))=true) (hw:QL w g 223 (Je P N)) :
  Calls Tryz.prog 192 #[.pointer (some ⟨g,0,none⟩),.int .i64 a,.int .i64 b] w fun e w'=>e = .returned (.tuple #[])∧QL w' g 223 (Je P (N+a.natAbs*b.natAbs))∧w.grownBy w' (some g):=by
 obtain⟨lo,hi,c0,c1,c2,hm,r0,r1,r2⟩:=FI N a b ha hb h
 generalize N+a.natAbs*b.natAbs=Q at *
 have HM:=Lib.hid hm
 have HA:=Lib.hid ha
 have HB:=Lib.hid hb
 have hna:(a.natAbs:Int)<=4611686018427387904:=by omega
 have hnb:(b.natAbs:Int)<=4611686018427387904:=by omega
 have k0:w.cell? ⟨g,3,none⟩=some (.int .u64 (Wt N:Int)):=hw.cell 3
 have k1:w.cell? ⟨g,4,none⟩=some (.int .u64 (WU N:Int)):=hw.cell 4
 have k2:w.cell? ⟨g,5,none⟩=some (.int .u64 (Vs N:Int)):=hw.cell 5
 have f0:=hw.frozen 3
 have f1:=hw.frozen 4
 have f2:=hw.frozen 5
 have HW:=Lib.hid hw
 clear hm ha hb h hw
 go_enter Tryz.func192,Tryz.ntmps192
 go_wp2_with (first
  | (go_at_call 249;refine(G7 _ _ (by first|exact HA.out|exact HB.out)).mono ?_;rintro e w' ⟨rfl,rfl⟩)
  | (go_at_call 248;refine(HM.out _).mono ?_;rintro e w' ⟨rfl,rfl⟩))
 have i0:=b1w
 have i1:=b3o
 have i2:=b3l
 refine wp_loop_rounds 4 ?_
 rw[rounds_succ]
 go_wp2
 go_region
 all_goals go_wp2
 all_goals rw[rounds_succ]
 all_goals go_wp2
 all_goals go_region
 all_goals go_wp2
 all_goals rw[rounds_succ]
 all_goals go_wp2
 all_goals go_region
 all_goals go_wp2
 all_goals rw[rounds_succ]
 all_goals go_wp2
 go_end0
 refine⟨rfl,?_,?_⟩
 ·have h:=((HW.out.set_ 3 (.int .u64 (Wt Q:Int))).set_ 4 (.int .u64 (WU Q:Int))).set_ 5 (.int .u64 (Vs Q:Int))
  rw[b5q]at h
  exact h.drew.drew.drew
 ·exact UV (UV (UV (WN (p:=⟨g,5,none⟩) (WN (p:=⟨g,4,none⟩) (WN (p:=⟨g,3,none⟩) (Rk w (some g)) (.inl rfl) _) (.inl rfl) _) (.inl rfl) _)))
end Go.Proofs.YtjfgiaooglnomaaGreatDoor
namespace Go.Proofs.YtjfgiaooglnomaaGreatDoor
open Go.RowKit
def MW:Array Value->Sem Value:=fun args=>do
 let (x,y,b) <- Extern.MathBitsCarry.three "Sub64" args
 pure (Extern.MathBitsCarry.pair ((x+Extern.MathBitsCarry.m64 - y - b) % Extern.MathBitsCarry.m64) (if x<y+b then 1 else 0))
theorem Nz{P:Program}(x y b:Nat)(hb:b<=1)(w:World):
  (MW #[.int .u64 x,.int .u64 y,.int .u64 b]).run P w =
   .ok (.tuple #[.int .u64 (((x+18446744073709551616 - y - b) % 18446744073709551616:Nat):Int),.int .u64 ((if x<y+b then 1 else 0:Nat):Int)]) w:=by
 have:b=0∨b=1:=by omega
 rcases this with rfl|rfl <;> rfl
theorem O8(x y b:Nat)(hb:b<=1)(w:World):
  (callFunc 252 #[.int .u64 x,.int .u64 y,.int .u64 b]).run Tryz.prog w =
   .ok (.value (.tuple #[.int .u64 (((x+18446744073709551616 - y - b) % 18446744073709551616:Nat):Int),.int .u64 ((if x<y+b then 1 else 0:Nat):Int)])) w:=by
 rw[run_callFunc_extern Tryz.func252 (by kernel_rfl) (by kernel_rfl) (by kernel_rfl) (e:=MW) (by kernel_rfl),Nz x y b hb]
 rfl
theorem TJ(A B:Nat)(hA:A<6277101735386680763835789423207666416102355444464034512896)(hB:B<6277101735386680763835789423207666416102355444464034512896):
  ∃ d0 d1 d2 c0 c1 c2:Nat,
   (∀ w,(callFunc 252 #[.int .u64 (Wt A:Int),.int .u64 (Wt B:Int),.int .u64 0]).run Tryz.prog w = .ok (.value (.tuple #[.int .u64 (d0:Int),.int .u64 (c0:Int)])) w) ∧
   (∀ w,(callFunc 252 #[.int .u64 (WU A:Int),.int .u64 (WU B:Int),.int .u64 (c0:Int)]).run Tryz.prog w = .ok (.value (.tuple #[.int .u64 (d1:Int),.int .u64 (c1:Int)])) w) ∧
   (∀ w,(callFunc 252 #[.int .u64 (Vs A:Int),.int .u64 (Vs B:Int),.int .u64 (c1:Int)]).run Tryz.prog w = .ok (.value (.tuple #[.int .u64 (d2:Int),.int .u64 (c2:Int)])) w) ∧
   ((B<=A∧c2=0∧d0=Wt (A - B)∧d1=WU (A - B)∧d2=Vs (A - B))∨(A<B∧c2=1)):=by
 have e1:=fun c (hc:c<=1) w=>O8 (Wt A) (Wt B) c hc w
 have e2:=fun c (hc:c<=1) w=>O8 (WU A) (WU B) c hc w
 have e3:=fun c (hc:c<=1) w=>O8 (Vs A) (Vs B) c hc w
 have q0:(if Wt A<Wt B+0 then 1 else 0)<=1:=by split <;> omega
 generalize h0:(if Wt A<Wt B+0 then 1 else 0)=c0 at q0
 have q1:(if WU A<WU B+c0 then 1 else 0)<=1:=by split <;> omega
 generalize h1:(if WU A<WU B+c0 then 1 else 0)=c1 at q1
 generalize h2:(if Vs A<Vs B+c1 then 1 else 0)=c2
 refine⟨(Wt A+18446744073709551616 - Wt B - 0) % 18446744073709551616,(WU A+18446744073709551616 - WU B - c0) % 18446744073709551616,(Vs A+18446744073709551616 - Vs B - c1) % 18446744073709551616,c0,c1,c2,fun w=> ?_,fun w=> ?_,fun w=> ?_,?_⟩
 ·rw[<- h0];exact e1 0 (by omega) w
 ·rw[<- h1];exact e2 c0 q0 w
 ·rw[<- h2];exact e3 c1 q1 w
 ·clear e1 e2 e3
  unfold Wt at h0
  unfold WU at h1
  unfold Vs at h2
  by_cases hle:B<=A
  ·refine .inl ⟨hle,?_⟩
   unfold Wt WU Vs
   split at h0 <;> split at h1 <;> split at h2 <;> omega
  ·refine .inr ⟨by omega,?_⟩
   split at h0 <;> split at h1 <;> split at h2 <;> omega
set_option maxRecDepth 20000 in
set_option maxHeartbeats 1000000 in
theorem RO(A B:Nat)(d0 d1 d2 c0 c1 c2:Nat)(w:World)
  (r0 : ∀ w,(callFunc 252 #[.int .u64 (Wt A:Int),.int .u64 (Wt B:Int),.int .u64 0]).run Tryz.prog w = .ok (.value (.tuple #[.int .u64 (d0:Int),.int .u64 (c0:Int)])) w)
  (r1 : ∀ w,(callFunc 252 #[.int .u64 (WU A:Int),.int .u64 (WU B:Int),.int .u64 (c0:Int)]).run Tryz.prog w = .ok (.value (.tuple #[.int .u64 (d1:Int),.int .u64 (c1:Int)])) w)
  (r2 : ∀ w,(callFunc 252 #[.int .u64 (Vs A:Int),.int .u64 (Vs B:Int),.int .u64 (c1:Int)]).run Tryz.prog w = .ok (.value (.tuple #[.int .u64 (d2:Int),.int .u64 (c2:Int)])) w) :
  Calls Tryz.prog 251 #[.agg #[.int .u64 (Wt A:Int),.int .u64 (WU A:Int),.int .u64 (Vs A:Int)],.agg #[.int .u64 (Wt B:Int),.int .u64 (WU B:Int),.int .u64 (Vs B:Int)]] w fun e w'=>e = .returned (.tuple #[.agg #[.int .u64 (d0:Int),.int .u64 (d1:Int),.int .u64 (d2:Int)],.bool ((c2:Int)==0)])∧Below w.heap.size w w':=by
 go_enter Tryz.func251,Tryz.ntmps251
 go_wp2
 refine wp_loop_rounds 4 ?_
 rw[rounds_succ]
 go_wp2
 go_region
 all_goals go_wp2
 all_goals rw[rounds_succ]
 all_goals go_wp2
 all_goals go_region
 all_goals go_wp2
 all_goals rw[rounds_succ]
 all_goals go_wp2
 all_goals go_region
 all_goals go_wp2
 all_goals rw[rounds_succ]
 all_goals go_wp2
 all_goals exact bodyPost_ret (v:=.tuple #[.agg #[.int .u64 (d0:Int),.int .u64 (d1:Int),.int .u64 (d2:Int)],.bool ((c2:Int)==0)]) (by simp[results,Tryz.results251,go_sem]) rfl ⟨rfl,(((((Below.refl _ _).alloc (Nat.le_refl _) _).alloc (by simp) _).alloc (by simp;omega) _).alloc (by simp;omega) _).drew.drew.drew⟩
theorem a3o(A B:Nat)(hA:A<6277101735386680763835789423207666416102355444464034512896)(hB:B<6277101735386680763835789423207666416102355444464034512896)(h:B<=A)(w:World):
  Calls Tryz.prog 251 #[.agg #[.int .u64 (Wt A:Int),.int .u64 (WU A:Int),.int .u64 (Vs A:Int)],.agg #[.int .u64 (Wt B:Int),.int .u64 (WU B:Int),.int .u64 (Vs B:Int)]] w fun e w'=>e = .returned (.tuple #[.agg #[.int .u64 (Wt (A - B):Int),.int .u64 (WU (A - B):Int),.int .u64 (Vs (A - B):Int)],.bool true])∧Below w.heap.size w w':=by
 obtain⟨d0,d1,d2,c0,c1,c2,r0,r1,r2,hc⟩:=TJ A B hA hB
 rcases hc with ⟨-,rfl,rfl,rfl,rfl⟩|⟨h1,-⟩
 ·exact RO A B _ _ _ _ _ _ w r0 r1 r2
 ·omega
theorem b2g(x0 x1:Value)(w:World):(Instr.index 267 (.agg #[x0,x1]) (.int .i64 0)).run Tryz.prog w = .ok x0 w:=by kernel_rfl
theorem c9d(x0 x1:Value)(w:World):(Instr.index 267 (.agg #[x0,x1]) (.int .i64 1)).run Tryz.prog w = .ok x1 w:=by kernel_rfl
theorem BC(d:Nat)(hd:d<6277101735386680763835789423207666416102355444464034512896):
  (d<=4611686018427387904∧WU d=0∧Vs d=0∧Wt d<=4611686018427387904∧Wt d=d) ∨
  (4611686018427387904<d∧0<WU d) ∨
  (4611686018427387904<d∧WU d=0∧0<Vs d) ∨
  (4611686018427387904<d∧WU d=0∧Vs d=0∧4611686018427387904<Wt d):=by
 by_cases h1:0<WU d
 ·by_cases hle:d<=4611686018427387904
  ·exfalso;unfold WU at h1;omega
  ·exact .inr (.inl ⟨by omega,h1⟩)
 ·have e1:WU d=0:=by omega
  by_cases h2:0<Vs d
  ·by_cases hle:d<=4611686018427387904
   ·exfalso;unfold Vs at h2;omega
   ·exact .inr (.inr (.inl ⟨by omega,e1,h2⟩))
  ·have e2:Vs d=0:=by omega
   by_cases h0:4611686018427387904<Wt d
   ·refine .inr (.inr (.inr ⟨?_,e1,e2,h0⟩))
    unfold Wt at h0;omega
   ·refine .inl ⟨?_,e1,e2,by omega,?_⟩ <;> (unfold Wt at *;unfold WU at h1;unfold Vs at h2;omega)
theorem DZ(n:Int)(h:rng n=false):vR n=0∧eR n=2:=by simp[vR,eR,h]
def b7f(w:World)(x y z:Value)(q:Bool)(s7 s8:Value)(wx:World):Prop:=
 ∃ b:Nat,s7 = .pointer (some ⟨b,0,none⟩)∧s8 = .bool q∧wx.cell? ⟨b,0,none⟩=some x∧wx.cell? ⟨b,1,none⟩=some y∧wx.cell? ⟨b,2,none⟩=some z∧Below w.heap.size w wx
theorem Jb{w w1:World}(t:TypeId)(x y z:Value)(q:Bool)(hb:Below w.drew.heap.size w.drew w1):
  b7f w x y z q (.pointer (some ⟨w1.heap.size,0,none⟩)) (.bool q) (w1.alloc (.cells #[x,y,z] t)):=
 ⟨_,rfl,rfl,(QL.new _ _ _).cell 0,(QL.new _ _ _).cell 1,(QL.new _ _ _).cell 2,(((Below.refl w.heap.size w).drew).trans hb).alloc hb.size _⟩
theorem Gf{w w1:World}(t:TypeId)(x y z a b c:Value)(q:Bool)(hb:Below (w.alloc (.cells #[a,b,c] t)).drew.heap.size (w.alloc (.cells #[a,b,c] t)).drew w1):
  b7f w x y z q (.pointer (some ⟨w.heap.size,0,none⟩)) (.bool q) (((w1.setCell ⟨w.heap.size,0,none⟩ x).setCell ⟨w.heap.size,1,none⟩ y).setCell ⟨w.heap.size,2,none⟩ z):=by
 have hs:(w.alloc (.cells #[a,b,c] t)).drew.heap.size=w.heap.size+1:=World.size_alloc w _
 have h:=(((((QL.new w t #[a,b,c]).drew).below hb (by rw[hs];omega)).set_ 0 x).set_ 1 y).set_ 2 z
 refine⟨_,rfl,rfl,(h.cell 0).trans (by simp),(h.cell 1).trans (by simp),(h.cell 2).trans (by simp),?_⟩
 exact((((((Below.refl w.heap.size w).alloc (Nat.le_refl _) _).drew).trans (hb.mono (by rw[hs];omega))).setCell (p:=⟨w.heap.size,0,none⟩) (Nat.le_refl _) x).setCell (p:=⟨w.heap.size,1,none⟩) (Nat.le_refl _) y).setCell (p:=⟨w.heap.size,2,none⟩) (Nat.le_refl _) z
set_option maxRecDepth 20000 in
set_option maxHeartbeats 2000000 in
theorem b8u(g P N d:Nat)(w:World)(hw:QL w g 223 (Je P N))(hd:d<6277101735386680763835789423207666416102355444464034512896)
  (hH : ∀ w,Calls Tryz.prog 251 #[.agg #[.int .u64 (Wt P:Int),.int .u64 (WU P:Int),.int .u64 (Vs P:Int)],.agg #[.int .u64 (Wt N:Int),.int .u64 (WU N:Int),.int .u64 (Vs N:Int)]] w fun e w'=>e = .returned (.tuple #[.agg #[.int .u64 (Wt d:Int),.int .u64 (WU d:Int),.int .u64 (Vs d:Int)],.bool true])∧Below w.heap.size w w') :
  Calls Tryz.prog 193 #[.pointer (some ⟨g,0,none⟩)] w fun e w'=>e = .returned (.tuple #[.int .i64 (vR d),.int .i64 (eR d)])∧Below w.heap.size w w':=by
 have k0:w.cell? ⟨g,0,none⟩=some (.int .u64 (Wt P:Int)):=hw.cell 0
 have k1:w.cell? ⟨g,1,none⟩=some (.int .u64 (WU P:Int)):=hw.cell 1
 have k2:w.cell? ⟨g,2,none⟩=some (.int .u64 (Vs P:Int)):=hw.cell 2
 have k3:w.cell? ⟨g,3,none⟩=some (.int .u64 (Wt N:Int)):=hw.cell 3
 have k4:w.cell? ⟨g,4,none⟩=some (.int .u64 (WU N:Int)):=hw.cell 4
 have k5:w.cell? ⟨g,5,none⟩=some (.int .u64 (Vs N:Int)):=hw.cell 5
 have hlt:=hw.lt
 have i0:=b2g
 have n0:=World.new_ne w _ k0
 have hwr:IntKind.i64.wrap 1=1:=IntWalk.i64_in _ (by omega)
 have H:=Lib.hid hH
 have HC:=Lib.hid (BC d hd)
 clear hw hH hd
 go_enter Tryz.func193,Tryz.ntmps193
 go_wp2
 refine wp_loop_rounds 3 ?_
 rw[rounds_succ]
 go_upto_region 5 with fail
 go_cut [7,8] (fun s7 s8 wx=>b7f w (.int .u64 (Wt d:Int)) (.int .u64 (WU d:Int)) (.int .u64 (Vs d:Int)) true s7 s8 wx)
 case first=>
  go_region_held3 (fun w'=>w'.cell? ⟨g,0,none⟩=some (.int .u64 (Wt P:Int))∧w'.cell? ⟨g,1,none⟩=some (.int .u64 (WU P:Int))∧w'.cell? ⟨g,2,none⟩=some (.int .u64 (Vs P:Int))∧w'.cell? ⟨g,3,none⟩=some (.int .u64 (Wt N:Int))∧w'.cell? ⟨g,4,none⟩=some (.int .u64 (WU N:Int))∧w'.cell? ⟨g,5,none⟩=some (.int .u64 (Vs N:Int)))
   (first|go_keep|(refine⟨?_,?_,?_,?_,?_,?_⟩ <;> (refine(hb.cell (by simp;omega)).trans ?_;simp[*]))|(refine⟨?_,?_,?_,?_,?_,?_⟩ <;> (refine(World.cell?_alloc_lt _ _ _ (Nat.lt_of_lt_of_le hlt hb.size)).trans ?_;refine(hb.cell (by simp;omega)).trans ?_;simp[*])))
   (first|(go_at_call 251;refine(H.out _).mono ?_;rintro e w1 ⟨rfl,hb⟩;obtain⟨hc,hf⟩:=b4j hb;have hz:=hb.size;(try simp only[World.size_alloc]at hz)))
  all_goals go_wp2_with fail
  all_goals go_meet
  all_goals first|exact Jb _ _ _ _ _ hb|exact Gf _ _ _ _ _ _ _ _ hb
 case rest=>
  obtain⟨b,rfl,rfl,h0,h1,h2,hbl⟩:=hcut
  rcases HC.out with ⟨hin,t1,t2,t3,hd0⟩|⟨hout,t1⟩|⟨hout,t1,t2⟩|⟨hout,t1,t2,t3⟩
  ·have HR:=Lib.hid hd0
   have hb1:(Wt d:Int)<=4611686018427387904:=by omega
   clear hin hd0 HC
   go_wp2_with (go_at_call 253;refine(Co _ _).mono ?_;rintro e w2 ⟨rfl,hb2⟩)
   go_ret2
   exact⟨Xx (by rw[HR.out]) (by rw[HR.out]),hbl.trans (hb2.mono hbl.size)⟩
  ·have HR:=Lib.hid (DZ d (UQ (by omega)))
   clear hout HC
   go_wp2
   all_goals go_ret2
   all_goals exact⟨Xx HR.out.1.symm HR.out.2.symm,hbl⟩
  ·have HR:=Lib.hid (DZ d (UQ (by omega)))
   clear hout HC
   go_wp2
   all_goals go_ret2
   all_goals exact⟨Xx HR.out.1.symm HR.out.2.symm,hbl⟩
  ·have HR:=Lib.hid (DZ d (UQ (by omega)))
   clear hout HC
   go_wp2
   all_goals go_ret2
   all_goals exact⟨Xx HR.out.1.symm HR.out.2.symm,hbl⟩
end Go.Proofs.YtjfgiaooglnomaaGreatDoor
namespace Go.Proofs.YtjfgiaooglnomaaGreatDoor
open Go.RowKit
set_option maxRecDepth 20000 in
set_option maxHeartbeats 2000000 in
theorem b2v(g P N d:Nat)(w:World)(hw:QL w g 223 (Je P N))(hd:d<6277101735386680763835789423207666416102355444464034512896)
  (d0 d1 d2:Nat)
  (hF : ∀ w,Calls Tryz.prog 251 #[.agg #[.int .u64 (Wt P:Int),.int .u64 (WU P:Int),.int .u64 (Vs P:Int)],.agg #[.int .u64 (Wt N:Int),.int .u64 (WU N:Int),.int .u64 (Vs N:Int)]] w fun e w'=>e = .returned (.tuple #[.agg #[.int .u64 (d0:Int),.int .u64 (d1:Int),.int .u64 (d2:Int)],.bool false])∧Below w.heap.size w w')
  (hH : ∀ w,Calls Tryz.prog 251 #[.agg #[.int .u64 (Wt N:Int),.int .u64 (WU N:Int),.int .u64 (Vs N:Int)],.agg #[.int .u64 (Wt P:Int),.int .u64 (WU P:Int),.int .u64 (Vs P:Int)]] w fun e w'=>e = .returned (.tuple #[.agg #[.int .u64 (Wt d:Int),.int .u64 (WU d:Int),.int .u64 (Vs d:Int)],.bool true])∧Below w.heap.size w w') :
  Calls Tryz.prog 193 #[.pointer (some ⟨g,0,none⟩)] w fun e w'=>e = .returned (.tuple #[.int .i64 (vR (-d)),.int .i64 (eR (-d))])∧Below w.heap.size w w':=by
 have k0:w.cell? ⟨g,0,none⟩=some (.int .u64 (Wt P:Int)):=hw.cell 0
 have k1:w.cell? ⟨g,1,none⟩=some (.int .u64 (WU P:Int)):=hw.cell 1
 have k2:w.cell? ⟨g,2,none⟩=some (.int .u64 (Vs P:Int)):=hw.cell 2
 have k3:w.cell? ⟨g,3,none⟩=some (.int .u64 (Wt N:Int)):=hw.cell 3
 have k4:w.cell? ⟨g,4,none⟩=some (.int .u64 (WU N:Int)):=hw.cell 4
 have k5:w.cell? ⟨g,5,none⟩=some (.int .u64 (Vs N:Int)):=hw.cell 5
 have hlt:=hw.lt
 have i0:=b2g
 have i1:=c9d
 have n0:=World.new_ne w _ k0
 have hwr:IntKind.i64.wrap 1=1:=IntWalk.i64_in _ (by omega)
 have hwr0:IntKind.i64.wrap 0=0:=IntWalk.i64_in _ (by omega)
 have H:=Lib.hid hH
 have F:=Lib.hid hF
 have HC:=Lib.hid (BC d hd)
 clear hw hH hF hd
 go_enter Tryz.func193,Tryz.ntmps193
 go_wp2
 refine wp_loop_rounds 3 ?_
 rw[rounds_succ]
 go_upto_region 5 with fail
 go_cut [7,8] (fun s7 s8 wx=>b7f w (.int .u64 (d0:Int)) (.int .u64 (d1:Int)) (.int .u64 (d2:Int)) false s7 s8 wx)
 case first=>
  go_region_held3 (fun w'=>w'.cell? ⟨g,0,none⟩=some (.int .u64 (Wt P:Int))∧w'.cell? ⟨g,1,none⟩=some (.int .u64 (WU P:Int))∧w'.cell? ⟨g,2,none⟩=some (.int .u64 (Vs P:Int))∧w'.cell? ⟨g,3,none⟩=some (.int .u64 (Wt N:Int))∧w'.cell? ⟨g,4,none⟩=some (.int .u64 (WU N:Int))∧w'.cell? ⟨g,5,none⟩=some (.int .u64 (Vs N:Int)))
   (first|go_keep|(refine⟨?_,?_,?_,?_,?_,?_⟩ <;> (refine(hb.cell (by simp;omega)).trans ?_;simp[*]))|(refine⟨?_,?_,?_,?_,?_,?_⟩ <;> (refine(World.cell?_alloc_lt _ _ _ (Nat.lt_of_lt_of_le hlt hb.size)).trans ?_;refine(hb.cell (by simp;omega)).trans ?_;simp[*])))
   (first|(go_at_call 251;refine(F.out _).mono ?_;rintro e w1 ⟨rfl,hb⟩;obtain⟨hc,hf⟩:=b4j hb;have hz:=hb.size;(try simp only[World.size_alloc]at hz)))
  all_goals go_wp2_with fail
  all_goals go_meet
  all_goals first|exact Jb _ _ _ _ _ hb|exact Gf _ _ _ _ _ _ _ _ hb
 case rest=>
  obtain⟨b,rfl,rfl,-,-,-,hbl⟩:=hcut
  obtain⟨wq,rfl⟩ : ∃ wq:World,wq=wc:=⟨_,rfl⟩
  have hlq:g<wq.heap.size:=Nat.lt_of_lt_of_le hlt hbl.size
  have q0:=(hbl.cell (p:=⟨g,0,none⟩) hlt).trans k0
  have q1:=(hbl.cell (p:=⟨g,1,none⟩) hlt).trans k1
  have q2:=(hbl.cell (p:=⟨g,2,none⟩) hlt).trans k2
  have q3:=(hbl.cell (p:=⟨g,3,none⟩) hlt).trans k3
  have q4:=(hbl.cell (p:=⟨g,4,none⟩) hlt).trans k4
  have q5:=(hbl.cell (p:=⟨g,5,none⟩) hlt).trans k5
  have n1:=World.new_ne wq _ q0
  have HBL:=Lib.hid hbl
  clear k0 k1 k2 k3 k4 k5 hlt n0 F hbl
  go_wp2
  rw[rounds_succ]
  go_upto_region 5 with fail
  go_cut [7,8] (fun s7 s8 wx=>b7f wq (.int .u64 (Wt d:Int)) (.int .u64 (WU d:Int)) (.int .u64 (Vs d:Int)) true s7 s8 wx)
  case first=>
   go_region_held3 (fun w'=>w'.cell? ⟨g,0,none⟩=some (.int .u64 (Wt P:Int))∧w'.cell? ⟨g,1,none⟩=some (.int .u64 (WU P:Int))∧w'.cell? ⟨g,2,none⟩=some (.int .u64 (Vs P:Int))∧w'.cell? ⟨g,3,none⟩=some (.int .u64 (Wt N:Int))∧w'.cell? ⟨g,4,none⟩=some (.int .u64 (WU N:Int))∧w'.cell? ⟨g,5,none⟩=some (.int .u64 (Vs N:Int)))
    (first|go_keep|(refine⟨?_,?_,?_,?_,?_,?_⟩ <;> (refine(hb.cell (by simp;omega)).trans ?_;simp[*]))|(refine⟨?_,?_,?_,?_,?_,?_⟩ <;> (refine(World.cell?_alloc_lt _ _ _ (Nat.lt_of_lt_of_le hlq hb.size)).trans ?_;refine(hb.cell (by simp;omega)).trans ?_;simp[*])))
    (first|(go_at_call 251;refine(H.out _).mono ?_;rintro e w1 ⟨rfl,hb⟩;obtain⟨hc,hf⟩:=b4j hb;have hz:=hb.size;(try simp only[World.size_alloc]at hz)))
   all_goals go_wp2_with fail
   all_goals go_meet
   all_goals first|exact Jb _ _ _ _ _ hb|exact Gf _ _ _ _ _ _ _ _ hb
  case rest=>
   obtain⟨b,rfl,rfl,h0,h1,h2,hb2l⟩:=hcut
   have hbl:=HBL.out.trans (hb2l.mono HBL.out.size)
   rcases HC.out with ⟨hin,t1,t2,t3,hd0⟩|⟨hout,t1⟩|⟨hout,t1,t2⟩|⟨hout,t1,t2,t3⟩
   ·have HR:=Lib.hid (show((Wt d:Nat):Int)=d by rw[hd0])
    have hb1:(Wt d:Int)<=4611686018427387904:=by omega
    clear hin hd0 HC
    go_wp2_with (go_at_call 253;refine(Co _ _).mono ?_;rintro e w2 ⟨rfl,hb2⟩)
    go_ret2
    exact⟨Xx (by first|rw[HR.out]|(rw[<- HR.out];simp)) (by first|rw[HR.out]|(rw[<- HR.out];simp)),hbl.trans (hb2.mono hbl.size)⟩
   ·have HR:=Lib.hid (DZ (-d) (UQ (by omega)))
    clear hout HC
    go_wp2
    all_goals go_ret2
    all_goals exact⟨Xx HR.out.1.symm HR.out.2.symm,hbl⟩
   ·have HR:=Lib.hid (DZ (-d) (UQ (by omega)))
    clear hout HC
    go_wp2
    all_goals go_ret2
    all_goals exact⟨Xx HR.out.1.symm HR.out.2.symm,hbl⟩
   ·have HR:=Lib.hid (DZ (-d) (UQ (by omega)))
    clear hout HC
    go_wp2
    all_goals go_ret2
    all_goals exact⟨Xx HR.out.1.symm HR.out.2.symm,hbl⟩
theorem Ta(g P N:Nat)(w:World)(hP:P<6277101735386680763835789423207666416102355444464034512896)(hN:N<6277101735386680763835789423207666416102355444464034512896)
  (hw:QL w g 223 (Je P N)) :
  Calls Tryz.prog 193 #[.pointer (some ⟨g,0,none⟩)] w fun e w'=>e = .returned (.tuple #[.int .i64 (vR ((P:Int) - N)),.int .i64 (eR ((P:Int) - N))])∧Below w.heap.size w w':=by
 by_cases h:N<=P
 ·have e:(P:Int) - N=((P - N:Nat):Int):=by omega
  rw[e]
  exact b8u g P N (P - N) w hw (by omega) (fun w=>a3o P N hP hN h w)
 ·have e:(P:Int) - N = -((N - P:Nat):Int):=by omega
  rw[e]
  obtain⟨d0,d1,d2,r0⟩ : ∃ d0 d1 d2:Nat,∀ w,Calls Tryz.prog 251 #[.agg #[.int .u64 (Wt P:Int),.int .u64 (WU P:Int),.int .u64 (Vs P:Int)],.agg #[.int .u64 (Wt N:Int),.int .u64 (WU N:Int),.int .u64 (Vs N:Int)]] w fun e w'=>e = .returned (.tuple #[.agg #[.int .u64 (d0:Int),.int .u64 (d1:Int),.int .u64 (d2:Int)],.bool false])∧Below w.heap.size w w':=by
   obtain⟨d0,d1,d2,c0,c1,c2,r0,r1,r2,hc⟩:=TJ P N hP hN
   rcases hc with ⟨h1,-⟩|⟨-,rfl⟩
   ·omega
   ·exact⟨d0,d1,d2,fun w=>RO P N _ _ _ _ _ _ w r0 r1 r2⟩
  exact b2v g P N (N - P) w hw (by omega) d0 d1 d2 r0 (fun w=>a3o N P hN hP (by omega) w)
end Go.Proofs.YtjfgiaooglnomaaGreatDoor
namespace Go.Proofs.YtjfgiaooglnomaaGreatDoor
open Go.RowKit
theorem MR(g P N:Nat)(a b:Int)(w:World)(ha : -4611686018427387904<=a∧a<=4611686018427387904)(hb : -4611686018427387904<=b∧b<=4611686018427387904)
  (h:P+N+a.natAbs*b.natAbs<6277101735386680763835789423207666416102355444464034512896) (hw:QL w g 223 (Je P N)) :
  Calls Tryz.prog 192 #[.pointer (some ⟨g,0,none⟩),.int .i64 a,.int .i64 b] w fun e w'=>e = .returned (.tuple #[]) ∧
   ∃ P' N':Nat,QL w' g 223 (Je P' N')∧Hid ((P':Int) - N'=(P:Int) - N+a*b)∧Hid (P'+N'=P+N+a.natAbs*b.natAbs)∧w.grownBy w' (some g):=by
 cases hs:(!decide (a<0)==decide (b<0))
 ·refine(a9q g P N a b w ha hb (by omega) hs hw).mono ?_
  rintro e w' ⟨rfl,h1,h2⟩
  refine⟨rfl,_,_,h1,Lib.hid ?_,Lib.hid (by omega),h2⟩
  rw[JS a b hs]
  omega
 ·refine(a7p g P N a b w ha hb (by omega) hs hw).mono ?_
  rintro e w' ⟨rfl,h1,h2⟩
  refine⟨rfl,_,_,h1,Lib.hid ?_,Lib.hid (by omega),h2⟩
  rw[JU a b hs]
  omega
def dot:List Int->List Int->Int
 | a::l,b::m=>a*b+dot l m
 | _,_=>0
theorem b1s(k:Nat)(xs ys:List Int)(x y:Int)(hx:xs[k]? = some x)(hy:ys[k]? = some y):dot (xs.take (k+1)) (ys.take (k+1))=dot (xs.take k) (ys.take k)+x*y:=by
 induction k generalizing xs ys with
 | zero=>
  cases xs <;> cases ys <;> simp_all[dot]
 | succ k ih=>
  cases xs with
  | nil=>simp at hx
  | cons a l=>
   cases ys with
   | nil=>simp at hy
   | cons b m=>
    have:=ih l m (by simpa using hx) (by simpa using hy)
    simp only[List.take_succ_cons,dot]at this ⊢
    rw[this]
    omega
theorem b3q(k:Nat)(zs:List Int)(x:Int)(hx:zs[k]? = some x):(zs.take (k+1)).sum=(zs.take k).sum+x:=by
 have hk:k<zs.length:=(List.getElem?_eq_some_iff.1 hx).1
 have e:zs[k]=x:=by rw[List.getElem?_eq_getElem hk]at hx;exact Option.some.inj hx
 rw[List.take_succ_eq_append_getElem hk,List.sum_append,e]
 simp
def EL(zs:List Int):Int:=bif zs.all rng then vR zs.sum else 0
def EA(zs:List Int):Int:=bif zs.all rng then eR zs.sum else 2
theorem EK{zs:List Int}(h:zs.all rng=true){k:Nat}{x:Int}(hx:zs[k]? = some x): -4611686018427387904<=x∧x<=4611686018427387904:=
 PM (List.all_eq_true.1 h x (List.mem_of_getElem? hx))
theorem Bo{a b:Int}(ha : -4611686018427387904<=a∧a<=4611686018427387904)(hb : -4611686018427387904<=b∧b<=4611686018427387904):a.natAbs*b.natAbs<=21267647932558653966460912964485513216:=by
 have:=Nat.mul_le_mul (show a.natAbs<=4611686018427387904 by omega) (show b.natAbs<=4611686018427387904 by omega)
 omega
set_option maxRecDepth 20000 in
set_option maxHeartbeats 1000000 in
theorem c2c(A:Option Addr)(n c:Nat)(zs:List Int)(w:World)(hr:Xm w w.heap.size 1 A n (zs.map (Value.int .i64)))(hn:n<=10000):
  Calls Tryz.prog 190 #[.slice A n c] w fun e w'=>e = .returned (.tuple #[.int .i64 (EL zs),.int .i64 (EA zs)])∧Below w.heap.size w w':=by
 have H1:=Lib.hid (AU A n c zs w w.heap.size hr (by omega))
 have hlen:=Lib.hid (show zs.length=n by have:=hr.1;simpa using this)
 cases ha:zs.all rng
 ·have he:EA zs=2:=by simp only[EA,ha,cond_false]
  have hv:EL zs=0:=by simp only[EL,ha,cond_false]
  rw[ha]at H1
  rw[he,hv]
  clear he hv ha
  go_enter Tryz.func190,Tryz.ntmps190
  go_wp2_with (go_at_call 191;refine H1.out.mono ?_;rintro e w' ⟨rfl,rfl⟩)
  go_ret2
  exact⟨rfl,Below.refl _ _⟩
 ·have he:EA zs=eR zs.sum:=by simp only[EA,ha,cond_true]
  have hv:EL zs=vR zs.sum:=by simp only[EL,ha,cond_true]
  rw[ha]at H1
  rw[he,hv]
  have HA:=Lib.hid ha
  clear he hv ha
  go_enter Tryz.func190,Tryz.ntmps190
  go_wp2_with (go_at_call 191;refine H1.out.mono ?_;rintro e w' ⟨rfl,rfl⟩)
  go_loopw [15] (fun i wr=> ∃ k P N:Nat,k<=n∧i = .int .i64 k∧QL wr w.heap.size 223 (Je P N)∧Hid ((P:Int) - N=(zs.take k).sum)∧Hid (P+N<=k*21267647932558653966460912964485513216)∧Below w.heap.size w wr) (fun i _=>n - (intOf i).toNat)
  case atStart=>exact⟨0,0,0,Nat.zero_le _,rfl,QL.new _ _ _,Lib.hid (by simp),Lib.hid (by omega),(Below.refl _ _).alloc (Nat.le_refl _) _⟩
  case round=>
   obtain⟨k,P,N,hk,rfl,hblk,hs,hbd,hbl⟩:=hrel
   by_cases hlt:k<n
   ·obtain⟨ad,u,rfl,hB,hu,hc⟩:=(hr.below hbl).at_ hlt
    rw[List.getElem?_map]at hu
    obtain⟨x,hx,rfl⟩:=Option.map_eq_some_iff.1 hu
    have hxr:=EK HA.out hx
    have HC:=Lib.hid (MR w.heap.size P N x 1 wr hxr (by omega) (by have:=hbd.out;have h2:=Bo hxr (b:=1) (by omega);omega) hblk)
    have HX:=Lib.hid hx
    have HP:=Lib.hid (Bo hxr (b:=1) (by omega))
    clear hx hu hxr hblk
    go_wp2_with (go_at_call 192;refine HC.out.mono ?_;rintro e w' ⟨rfl,P',N',hblk',hs',hbd',hg⟩)
    go_roundw
    case rel=>exact⟨k+1,P',N',by omega,by go_num,hblk',Lib.hid (by have h1:=hs'.out;have h2:=hs.out;rw[b3q k zs x HX.out];omega),Lib.hid (by have h1:=hbd'.out;have h2:=hbd.out;have h3:=HP.out;omega),hbl.grown hg hbl.size (by rintro _ ⟨⟩;exact Nat.le_refl _)⟩
    case measure=>simp[intOf];omega
   ·have hkn:k=n:=by omega
    subst hkn
    have HT:=Lib.hid (Ta w.heap.size P N wr (by have:=hbd.out;omega) (by have:=hbd.out;omega) hblk)
    have HZ:Hid ((P:Int) - N=zs.sum):=Lib.hid (by have:=hs.out;rw[List.take_of_length_le (by rw[hlen.out];omega)]at this;exact this)
    clear hblk
    go_wp2_with (go_at_call 193;refine HT.out.mono ?_;rintro e w' ⟨rfl,hb⟩)
    go_ret2
    exact⟨Xx (by rw[HZ.out]) (by rw[HZ.out]),hbl.trans (hb.mono hbl.size)⟩
def BP(xs ys:List Int):Int:=bif xs.length==ys.length&&xs.all rng&&ys.all rng then vR (dot xs ys)else 0
def AY(xs ys:List Int):Int:=bif xs.length==ys.length then(bif xs.all rng&&ys.all rng then eR (dot xs ys)else 2)else 1
set_option maxRecDepth 20000 in
set_option maxHeartbeats 1000000 in
theorem c2x(A B:Option Addr)(n m c d:Nat)(xs ys:List Int)(w:World)(hr:Xm w w.heap.size 1 A n (xs.map (Value.int .i64)))(hq:Xm w w.heap.size 1 B m (ys.map (Value.int .i64)))(hn:n<=10000)(hm:m<=10000):
  Calls Tryz.prog 126 #[.slice A n c,.slice B m d] w fun e w'=>e = .returned (.tuple #[.int .i64 (BP xs ys),.int .i64 (AY xs ys)])∧Below w.heap.size w w':=by
 have H1:=Lib.hid (AU A n c xs w w.heap.size hr (by omega))
 have H2:=Lib.hid (AU B m d ys w w.heap.size hq (by omega))
 have hl1:=Lib.hid (show xs.length=n by have:=hr.1;simpa using this)
 have hl2:=Lib.hid (show ys.length=m by have:=hq.1;simpa using this)
 by_cases hnm:n=m
 ·subst hnm
  have hll:(xs.length==ys.length)=true:=by rw[hl1.out,hl2.out];simp
  have hnn:((n:Int)==n)=true:=by simp
  have hnn':((n:Int) != n)=false:=by simp
  cases ha:xs.all rng
  ·have he:AY xs ys=2:=by simp only[AY,hll,ha,cond_true,Bool.false_and,cond_false]
   have hv:BP xs ys=0:=by simp only[BP,hll,ha,Bool.and_false,Bool.false_and,cond_false]
   rw[ha]at H1
   rw[he,hv]
   clear he hv ha hll H2
   go_enter Tryz.func126,Tryz.ntmps126
   go_wp2_with (go_at_call 191;refine H1.out.mono ?_;rintro e w' ⟨rfl,rfl⟩)
   go_ret2
   exact⟨rfl,Below.refl _ _⟩
  ·cases hb:ys.all rng
   ·have he:AY xs ys=2:=by simp only[AY,hll,ha,hb,cond_true,Bool.and_false,cond_false]
    have hv:BP xs ys=0:=by simp only[BP,hll,ha,hb,Bool.and_false,cond_false]
    rw[ha]at H1
    rw[hb]at H2
    rw[he,hv]
    clear he hv ha hb hll
    go_enter Tryz.func126,Tryz.ntmps126
    go_wp2_with fail
    refine H1.out.mono ?_
    rintro e w' ⟨rfl,rfl⟩
    go_wp2_with fail
    refine H2.out.mono ?_
    rintro e w' ⟨rfl,rfl⟩
    go_wp2
    go_ret2
    exact⟨rfl,Below.refl _ _⟩
   ·have he:AY xs ys=eR (dot xs ys):=by simp only[AY,hll,ha,hb,cond_true,Bool.and_self]
    have hv:BP xs ys=vR (dot xs ys):=by simp only[BP,hll,ha,hb,cond_true,Bool.and_self]
    rw[ha]at H1
    rw[hb]at H2
    rw[he,hv]
    have HA:=Lib.hid ha
    have HB:=Lib.hid hb
    clear he hv ha hb hll
    go_enter Tryz.func126,Tryz.ntmps126
    go_wp2_with fail
    refine H1.out.mono ?_
    rintro e w' ⟨rfl,rfl⟩
    go_wp2_with fail
    refine H2.out.mono ?_
    rintro e w' ⟨rfl,rfl⟩
    go_wp2
    go_loopw [30] (fun i wr=> ∃ k P N:Nat,k<=n∧i = .int .i64 k∧QL wr w.heap.size 223 (Je P N)∧Hid ((P:Int) - N=dot (xs.take k) (ys.take k))∧Hid (P+N<=k*21267647932558653966460912964485513216)∧Below w.heap.size w wr) (fun i _=>n - (intOf i).toNat)
    case atStart=>exact⟨0,0,0,Nat.zero_le _,rfl,QL.new _ _ _,Lib.hid (by simp[dot]),Lib.hid (by omega),(Below.refl _ _).alloc (Nat.le_refl _) _⟩
    case round=>
     obtain⟨k,P,N,hk,rfl,hblk,hs,hbd,hbl⟩:=hrel
     by_cases hlt:k<n
     ·obtain⟨ad,u,rfl,hB,hu,hc⟩:=(hr.below hbl).at_ hlt
      rw[List.getElem?_map]at hu
      obtain⟨x,hx,rfl⟩:=Option.map_eq_some_iff.1 hu
      obtain⟨ae,v,rfl,hB',hv,hc'⟩:=(hq.below hbl).at_ hlt
      rw[List.getElem?_map]at hv
      obtain⟨y,hy,rfl⟩:=Option.map_eq_some_iff.1 hv
      have hxr:=EK HA.out hx
      have hyr:=EK HB.out hy
      have HC:=Lib.hid (MR w.heap.size P N x y wr hxr hyr (by have:=hbd.out;have h2:=Bo hxr hyr;omega) hblk)
      have HX:=Lib.hid hx
      have HY:=Lib.hid hy
      have HP:=Lib.hid (Bo hxr hyr)
      clear hx hu hxr hy hv hyr hblk
      go_wp2_with (go_at_call 192;refine HC.out.mono ?_;rintro e w' ⟨rfl,P',N',hblk',hs',hbd',hg⟩)
      go_roundw
      case rel=>exact⟨k+1,P',N',by omega,by go_num,hblk',Lib.hid (by have h1:=hs'.out;have h2:=hs.out;rw[b1s k xs ys x y HX.out HY.out];omega),Lib.hid (by have h1:=hbd'.out;have h2:=hbd.out;have h3:=HP.out;omega),hbl.grown hg hbl.size (by rintro _ ⟨⟩;exact Nat.le_refl _)⟩
      case measure=>simp[intOf];omega
     ·have hkn:k=n:=by omega
      subst hkn
      have HT:=Lib.hid (Ta w.heap.size P N wr (by have:=hbd.out;omega) (by have:=hbd.out;omega) hblk)
      have HZ:Hid ((P:Int) - N=dot xs ys):=Lib.hid (by have:=hs.out;rw[List.take_of_length_le (by rw[hl1.out];omega),List.take_of_length_le (by rw[hl2.out];omega)]at this;exact this)
      clear hblk
      go_wp2_with (go_at_call 193;refine HT.out.mono ?_;rintro e w' ⟨rfl,hb⟩)
      go_ret2
      exact⟨Xx (by rw[HZ.out]) (by rw[HZ.out]),hbl.trans (hb.mono hbl.size)⟩
 ·have hll:(xs.length==ys.length)=false:=by rw[hl1.out,hl2.out];simpa using hnm
  have he:AY xs ys=1:=by simp only[AY,hll,cond_false]
  have hv:BP xs ys=0:=by simp only[BP,hll,Bool.false_and,cond_false]
  have hnn:((n:Int)==m)=false:=by simpa using (show ¬ (n:Int)=m by omega)
  rw[he,hv]
  clear he hv hll
  go_enter Tryz.func126,Tryz.ntmps126
  go_wp2
  go_ret2
  exact⟨rfl,Below.refl _ _⟩
end Go.Proofs.YtjfgiaooglnomaaGreatDoor
namespace Go.Proofs.YtjfgiaooglnomaaGreatDoor
end Go.Proofs.YtjfgiaooglnomaaGreatDoor
namespace Go.Proofs.YtjfgiaooglnomaaGreatDoor
open Go.RowKit
end Go.Proofs.YtjfgiaooglnomaaGreatDoor
namespace Go.Proofs.YtjfgiaooglnomaaGreatDoor
open Go.RowKit
end Go.Proofs.YtjfgiaooglnomaaGreatDoor
namespace Go.Proofs.YtjfgiaooglnomaaGreatDoor
open Go.RowKit
end Go.Proofs.YtjfgiaooglnomaaGreatDoor
namespace Go.Proofs.YtjfgiaooglnomaaGreatDoor
def val:List Int->Int
 | []=>0
 | c::l=>c+2097152*val l
end Go.Proofs.YtjfgiaooglnomaaGreatDoor
namespace Go.Proofs.YtjfgiaooglnomaaGreatDoor
open Go.RowKit
def Ak(L:List Int)(b:Nat):Prop:= ∀ (m:Nat) (c:Int),L[m]? = some c->c.natAbs<=b
def cellsOf(L:List Int):Array Value:=(L.map (Value.int .i64)).toArray
theorem Ak.set_{L:List Int}{b b':Nat}(h:Ak L b)(hb:b<=b')(m:Nat)(c:Int)(hc:c.natAbs<=b'):Ak (L.set m c) b':=by
 intro j d hj
 rcases Nat.lt_or_ge j L.length with hl|hl
 ·by_cases e:m=j
  ·subst e
   rw[List.getElem?_set_self hl]at hj
   cases hj
   exact hc
  ·rw[List.getElem?_set_ne e]at hj
   exact Nat.le_trans (h j d hj) hb
 ·rw[List.getElem?_eq_none (by simpa using hl)]at hj
  cases hj
theorem Ak.mono{L:List Int}{b b':Nat}(h:Ak L b)(hb:b=b'):Ak L b':=hb▸h
@[irreducible] def Tm (k j m : Nat) : Nat := k * 39582418599936 + j * 13194139533312 + m * 4398046511104
def Dig(i:Nat)(L:List Int):Prop:= ∀ (j:Nat) (c:Int),L[j]? = some c->(j<i->0<=c∧c<=2097151)∧(j=i->c.natAbs<=9007199254740992)∧(i<j->c.natAbs<=2374945115996160)
theorem Dig.zero{L:List Int}{b:Nat}(h:Ak L b)(hb:b<=2374945115996160):Dig 0 L:=by
 intro j c hc
 have:=h j c hc
 refine⟨fun h=>absurd h (by omega),fun _=>by omega,fun _=>by omega⟩
theorem Dig.step{i:Nat}{L:List Int}(h:Dig i L)(hl:L.length=8){c d:Int}(hc:L[i]? = some c)(hd:L[i+1]? = some d):Dig (i+1) ((L.set i (c - c / 2097152*2097152)).set (i+1) (d+c / 2097152)):=by
 intro j z hz
 have h1:=(h i c hc).2.1 rfl
 have h2:=(h (i+1) d hd).2.2 (by omega)
 have hi1:i+1<L.length:=(List.getElem?_eq_some_iff.1 hd).1
 by_cases ej:i+1=j
 ·subst ej
  rw[List.getElem?_set_self (by simpa using hi1)]at hz
  cases hz
  refine⟨fun h=>absurd h (by omega),fun _=>by omega,fun h=>absurd h (by omega)⟩
 ·rw[List.getElem?_set_ne ej]at hz
  by_cases ei:i=j
  ·subst ei
   rw[List.getElem?_set_self (by omega)]at hz
   cases hz
   refine⟨fun _=>by omega,fun h=>absurd h (by omega),fun h=>absurd h (by omega)⟩
  ·rw[List.getElem?_set_ne ei]at hz
   have:=h j z hz
   refine⟨fun _=>this.1 (by omega),fun h=>absurd h (by omega),fun _=>this.2.2 (by omega)⟩
end Go.Proofs.YtjfgiaooglnomaaGreatDoor
namespace Go.Proofs.YtjfgiaooglnomaaGreatDoor
open Go.RowKit
end Go.Proofs.YtjfgiaooglnomaaGreatDoor
namespace Go.Proofs.YtjfgiaooglnomaaGreatDoor
open Go.RowKit
end Go.Proofs.YtjfgiaooglnomaaGreatDoor
namespace Go.Proofs.YtjfgiaooglnomaaGreatDoor
open Go.Pl Go.RowKit
open Enc (enc dec is)
open EncL (encL decL isL)
set_option maxRecDepth 100000
theorem a0u(l:List Int):flat (l.map (enc:Int->PV))=l.map enc:=by
 induction l with
 | nil=>rfl
 | cons s ss ih=>simp only[flat,List.map_cons,List.flatMap_cons]at ih ⊢;rw[ih];rfl
theorem Ao{Φ:Z5}{w:World}{v:Value}{l:List Int}(hΦ:Y6 Φ w)(h:RP Φ v (enc l)): ∃ A c,v = .slice A l.length c∧Xm w w.heap.size 1 A l.length (l.map (Value.int .i64)):=by
 have e:(enc l:PV) = .sl 1 false (l.map enc):=rfl
 rw[e]at h
 generalize hx:l.map (enc:Int->PV)=xs at h
 generalize hq:PV.sl 1 false xs=q at h
 cases h with
 | sl0 a c sz t h=>
  cases hq
  have:l=[]:=List.map_eq_nil_iff.1 hx
  subst this
  exact⟨a,c,rfl,by simp,fun h=>absurd h (by simp)⟩
 | sl b off cs c sz t ys u hb hc ht hs hu hr=>
  cases hq
  subst hx
  refine⟨some ⟨b,off,none⟩,c,by rw[List.length_map],by simp,fun h0=> ?_⟩
  obtain⟨T,fz,hh⟩:=hΦ b cs hb
  refine⟨_,rfl,(Array.getElem?_eq_some_iff.1 hh).1,fun j x hx=> ?_⟩
  rw[a0u]at hu hr
  rw[List.getElem?_map]at hx
  obtain⟨n,hn,rfl⟩:=Option.map_eq_some_iff.1 hx
  have hp:(l.map (enc:Int->PV))[j]? = some (.int .i64 n):=by rw[List.getElem?_map,hn];rfl
  have h1:=(hu j _ hp).1
  have h2:=BZ (hr j _ hp)
  rw[h2]at h1
  have ha:(⟨b,off,none⟩:Addr).add j=⟨b,off+j,none⟩:=by
   unfold Addr.add
   split
   ·rename_i h0;subst h0;rfl
   ·rfl
  rw[ha]
  simp[World.cell?,hh,h1]
 | _=>cases hq
theorem E5{Φ:Z5}{a b:Int}:RP Φ (.tuple #[.int .i64 a,.int .i64 b]) (enc (a,b)):=by
 refine .tup _ _ rfl ?_
 intro j v x hv hx
 match j with
 | 0=>cases hv;cases hx;exact .int _ _
 | 1=>cases hv;cases hx;exact .int _ _
 | j+2=>simp at hv
theorem NA(n:Int):rng n=Qr n:=by
 unfold rng Qr
 by_cases h1 : -4611686018427387904<=n <;> by_cases h2:n<=4611686018427387904 <;> simp[h1,h2]
theorem b6s:rng=Qr:=funext NA
theorem c8s(a b:Int):(Nq a b,NP a b)=Ac a b:=by
 unfold Nq NP Ac
 rw[NA,NA,NA]
 cases (Qr a&&Qr b&&Qr (a*b)) <;> rfl
theorem c8d(l:List Int):(EL l,EA l)=Ub l:=by
 unfold EL EA Ub vR eR
 rw[b6s]
 cases l.all Qr <;> cases Qr l.sum <;> rfl
theorem b9h: ∀ a b:List Int,dot a b=Ew a b
 | [],b=>by cases b <;> rfl
 | _::_,[]=>rfl
 | x::a,y::b=>by show x*y+dot a b=x*y+Ew a b;rw[b9h]
theorem c4h(a b:List Int):(BP a b,AY a b)=DV a b:=by
 unfold BP AY DV vR eR
 rw[b6s,b9h]
 by_cases h:a.length=b.length
 ·have e:(a.length==b.length)=true:=beq_iff_eq.2 h
  rw[e,if_pos h]
  cases a.all Qr <;> cases b.all Qr <;> cases Qr (Ew a b) <;> rfl
 ·have e:(a.length==b.length)=false:=beq_eq_false_iff_ne.2 h
  rw[e,if_neg h];rfl
theorem a1l:Zx Tryz.prog 247 (fun _:Int×Int×Unit=>true) (fun x:Int×Int×Unit=>Ac x.1 x.2.1):=XH (by
  rintro⟨a,b,⟨⟩⟩ _ Φ w vs hL hΦ hv
  obtain⟨u,v,rfl,h1,h2⟩:=c9n hv
  rw[BZ h1,BZ h2]
  refine(c0j a b w).mono ?_
  rintro e w' ⟨rfl,hb⟩
  exact⟨_,rfl,by rw[<- c8s];exact E5,hb⟩)
theorem Eh:Zx Tryz.prog 190 (fun x:List Int×Unit=>decide (x.1.length<=10000)) (fun x:List Int×Unit=>Ub x.1):=XH (by
  rintro⟨l,⟨⟩⟩ hp Φ w vs hL hΦ hv
  have hp:l.length<=10000:=of_decide_eq_true hp
  obtain⟨u,rfl,h1⟩:=b9u hv
  obtain⟨A,c,rfl,hr⟩:=Ao hΦ h1
  refine(c2c A l.length c l w hr hp).mono ?_
  rintro e w' ⟨rfl,hb⟩
  exact⟨_,rfl,by rw[<- c8d];exact E5,hb⟩)
theorem S9:Zx Tryz.prog 126 (fun x:List Int×List Int×Unit=>decide (x.1.length<=10000)&&decide (x.2.1.length<=10000)) (fun x:List Int×List Int×Unit=>DV x.1 x.2.1):=XH (by
  rintro⟨l,m,⟨⟩⟩ hp Φ w vs hL hΦ hv
  simp only[Bool.and_eq_true,decide_eq_true_eq]at hp
  obtain⟨u,v,rfl,h1,h2⟩:=c9n hv
  obtain⟨A,c,rfl,hr⟩:=Ao hΦ h1
  obtain⟨B,d,rfl,hq⟩:=Ao hΦ h2
  refine(c2x A B l.length m.length c d l m w hr hq hp.1 hp.2).mono ?_
  rintro e w' ⟨rfl,hb⟩
  exact⟨_,rfl,by rw[<- c4h];exact E5,hb⟩)
end Go.Proofs.YtjfgiaooglnomaaGreatDoor
namespace Go.Proofs.YtjfgiaooglnomaaGreatDoor
open Go.RowKit Go.Shelf Go.Pl
open Enc (enc dec is)
open EncL (encL decL isL)
attribute [local go_sem] Oper.semAt_some
set_option maxRecDepth 100000
theorem c4y{Φ:Z5}{v u:Value}{p q:PV}(h:RP Φ v p)(k:RP Φ u q):Wq Φ (#[v,u]:Array Value).toList [p,q]:=⟨rfl,fun j x r hx hr=>match j with
 | 0=>by cases hx;cases hr;exact h
 | 1=>by cases hx;cases hr;exact k
 | j+2=>by simp at hx⟩
theorem c3l{Φ:Z5}{v:Value}{b:Bool}(h:RP Φ v (.bool b)):v = .bool b:=by cases h;rfl
theorem Dr(zs:List Int):flat (zs.map (enc:Int->PV))=zs.map enc:=by
 induction zs with
 | nil=>rfl
 | cons z zs ih=>exact congrArg (_:: ·) ih
theorem ET{Φ:Z5}{w w':World}{v:Value}{zs:List Int}(hΦ:Y6 Φ w)(hb:Below w.heap.size w w')(h:w'.ownsRow w.heap.size 3 1 v zs.length (zs.map (Value.int .i64))):
  ∃ Φ',Z5.le Φ Φ'∧Y6 Φ' w'∧RP Φ' v (enc zs)∧ ∀ b cs,Φ' b=some cs->Φ b=some cs∨w.heap.size<=b:=by
 have hok:Y6 Φ w':=hΦ.below hb
 rcases h.2 with ⟨rfl,h0⟩|⟨g,cap,cur,rfl,hg,hh,h1,h2,h3,h4⟩
 ·have:zs=[]:=List.length_eq_zero_iff.1 h0
  subst this
  exact⟨Φ,Z5.le.refl _,hok,.sl0 _ _ _ _ (fun e=>by cases e),fun b cs hc=>.inl hc⟩
 ·have hne : ∀ b cs,Φ b=some cs->b≠g:=by
   rintro b cs hc rfl
   obtain⟨T,fz,hh'⟩:=hΦ _ cs hc
   have:=(Array.getElem?_eq_some_iff.1 hh').1
   omega
  have hat : ∀ (j:Nat) z,zs[j]? = some z->cur[j]? = some (.int .i64 z):=by
   intro j z hz
   have hj:=(List.getElem?_eq_some_iff.1 hz).1
   have:(cur.toList.take (zs.length*1))[j]? = some (.int .i64 z):=by rw[h4,List.getElem?_map,hz];rfl
   rw[List.getElem?_take,if_pos (by omega)]at this
   simpa using this
  have hget : ∀ (j:Nat) p,(zs.map (enc:Int->PV))[j]? = some p-> ∃ z,zs[j]? = some z∧p = .int .i64 z:=by
   intro j p hp
   rw[List.getElem?_map]at hp
   obtain⟨z,hz,rfl⟩:=Option.map_eq_some_iff.1 hp
   exact⟨z,hz,rfl⟩
  refine⟨fun b=>if b=g then some cur else Φ b,fun b cs hc=> ?_,fun b cs hc=> ?_,?_,fun b cs hc=> ?_⟩
  ·simp only[if_neg (hne b cs hc)];exact hc
  ·simp only at hc
   split at hc
   ·rename_i e;subst e;cases hc;exact⟨_,_,hh⟩
   ·exact hok b cs hc
  ·have:=RP.sl (Φ:=fun b=>if b=g then some cur else Φ b) g 0 cur cap 1 false (zs.map (enc:Int->PV)) (fun j=>.int .i64 (zs.getD j 0)) (by simp) (by rw[List.length_map];omega) (by intro e;cases e)
    (by intro x hx;obtain⟨z,_,rfl⟩:=List.mem_map.1 hx;rfl)
    (by
     intro j p hp
     rw[Dr]at hp
     obtain⟨z,hz,rfl⟩:=hget j p hp
     refine⟨?_,rfl⟩
     rw[Nat.zero_add,hat j z hz]
     simp[List.getD,hz])
    (by
     intro j p hp
     rw[Dr]at hp
     obtain⟨z,hz,rfl⟩:=hget j p hp
     simp only[List.getD,hz,Option.getD_some]
     exact .int _ _)
   rwa [List.length_map]at this
  ·simp only at hc
   split at hc
   ·rename_i e;subst e;exact .inr hg
   ·exact .inl hc
theorem a6u{μ:Mu}{Φ:Z5}{w:World}{c:Ctx}{p:List Int}{v:Value}(hg:Go.Pl.Good c μ Φ (YU p) w)(hv:R μ Φ v (.row 0 p.length 0 p.length))(hn:p.length<=1000):
  Calls Tryz.prog 104 #[v] w fun e w'=> ∃ v' Φ',e = .returned v'∧Z5.le Φ Φ'∧Y6 Φ' w'∧RP Φ' v' (enc p)∧Below w.heap.size w w'∧ ∀ b cs,Φ' b=some cs->Φ b=some cs∨w.heap.size<=b:=by
 obtain⟨B,C,cs,e1,e2,e3,e4,e5,e6,e7,e8,e9,e10⟩:=hg.obj 0 (.row false 3 1 (p.map enc)) rfl
 cases hv with
 | row l n lo hi B' C' S a h k1 k2 k3 ha=>
  rw[List.length_map]at e1
  rw[e1]at h
  cases h
  have ha:=ha (.inr rfl)
  rw[Nat.zero_mul]at ha
  subst ha
  rw[Nat.sub_zero]
  rw[List.length_map,Dr]at e8
  have hcell : ∀ j,j<p.length->w.cell? ⟨B,0+j,none⟩=some (.int .i64 (p.getD j 0)):=by
   intro j hj
   have hj2:j<(cs.toList.take (p.length*1)).length:=by rw[e8.1,List.length_map];exact hj
   have h1:(p.map (enc:Int->PV))[j]? = some (.int .i64 p[j]):=by rw[List.getElem?_map,List.getElem?_eq_getElem hj];rfl
   have h2:=e8.2 j _ _ (List.getElem?_eq_getElem hj2) h1
   have h3:=BZ h2
   have h4:cs[j]? = some (.int .i64 p[j]):=by
    have h5:(cs.toList.take (p.length*1))[j]? = some (.int .i64 p[j]):=by rw[List.getElem?_eq_getElem hj2,h3]
    rw[List.getElem?_take,if_pos (by omega)]at h5
    simpa using h5
   rw[Nat.zero_add]
   simp[World.cell?,e3,h4,List.getD,hj]
  refine(Any.slices_Clone_int Tryz.laysC15 B 0 p.length (C - 0) p w (Nat.le_refl _) (by omega) hcell).mono ?_
  rintro e w' ⟨v',rfl,h1,_,h2⟩
  rw[List.take_of_length_le (Nat.le_refl _)]at h1
  obtain⟨Φ',a1,a2,a3,a4⟩:=ET hg.phi h2 h1
  exact⟨v',Φ',rfl,a1,a2,a3,h2,a4⟩
theorem EE{Φ:Z5}{w:World}{fv vv:Value}{fs:List Fact}{vs:List Coef}(hL:GlobOK Φ)(hΦ:Y6 Φ w)(hf:RP Φ fv (enc fs))(hv:RP Φ vv (enc vs))(hs:Zf fs=true)(hl:vs.length<=9223372036854775807):
  Calls Tryz.prog 178 #[fv,vv] w fun e w'=>e = .returned (.bool (fs.all fun f=>Yh f vs))∧Below w.heap.size w w':=by
 refine(NW [enc fs,enc vs] (Zl (fs,vs,()) rfl (by show(Zf fs&&decide (vs.length<=9223372036854775807))=true;rw[hs,decide_eq_true hl];rfl)) Φ w #[fv,vv] hL hΦ (c4y hf hv)).mono ?_
 rintro e w' ⟨v,Φ',rfl,_,_,hr,hb,_⟩
 have ev:Zj (fun x:List Fact×List Coef×Unit=>x.1.all fun f=>Yh f x.2.1) [enc fs,enc vs] = .bool (fs.all fun f=>Yh f vs):=by
  show enc ((fun x:List Fact×List Coef×Unit=>x.1.all fun f=>Yh f x.2.1) (decL (encL (fs,vs,()))))=_
  rw[EncL.dec_encL];rfl
 rw[ev]at hr
 rw[c3l hr]
 exact⟨rfl,hb⟩
end Go.Proofs.YtjfgiaooglnomaaGreatDoor
namespace Go.Proofs.YtjfgiaooglnomaaGreatDoor
open Go.RowKit Go.Shelf Go.Pl
open Enc (enc dec is)
open EncL (encL decL isL)
attribute [local go_sem] Oper.semAt_some
set_option maxRecDepth 100000
theorem c9g{l:List Value}(hl:l.length=52): ∃ t0 t1 t2 t3 t4 t5 t6 t7 t8 t9 t10 t11 t12 t13 t14 t15 t16 t17 t18 t19 t20 t21 t22 t23 t24 t25 t26 t27 t28 t29 t30 t31 t32 t33 t34 t35 t36 t37 t38 t39 t40 t41 t42 t43 t44 t45 t46 t47 t48 t49 t50 t51,l=[t0,t1,t2,t3,t4,t5,t6,t7,t8,t9,t10,t11,t12,t13,t14,t15,t16,t17,t18,t19,t20,t21,t22,t23,t24,t25,t26,t27,t28,t29,t30,t31,t32,t33,t34,t35,t36,t37,t38,t39,t40,t41,t42,t43,t44,t45,t46,t47,t48,t49,t50,t51]:=by
 obtain⟨t0,r0,e0,hl0⟩:=YW hl
 subst e0
 obtain⟨t1,r1,e1,hl1⟩:=YW hl0
 subst e1
 obtain⟨t2,r2,e2,hl2⟩:=YW hl1
 subst e2
 obtain⟨t3,r3,e3,hl3⟩:=YW hl2
 subst e3
 obtain⟨t4,r4,e4,hl4⟩:=YW hl3
 subst e4
 obtain⟨t5,r5,e5,hl5⟩:=YW hl4
 subst e5
 obtain⟨t6,r6,e6,hl6⟩:=YW hl5
 subst e6
 obtain⟨t7,r7,e7,hl7⟩:=YW hl6
 subst e7
 obtain⟨t8,r8,e8,hl8⟩:=YW hl7
 subst e8
 obtain⟨t9,r9,e9,hl9⟩:=YW hl8
 subst e9
 obtain⟨t10,r10,e10,hl10⟩:=YW hl9
 subst e10
 obtain⟨t11,r11,e11,hl11⟩:=YW hl10
 subst e11
 obtain⟨t12,r12,e12,hl12⟩:=YW hl11
 subst e12
 obtain⟨t13,r13,e13,hl13⟩:=YW hl12
 subst e13
 obtain⟨t14,r14,e14,hl14⟩:=YW hl13
 subst e14
 obtain⟨t15,r15,e15,hl15⟩:=YW hl14
 subst e15
 obtain⟨t16,r16,e16,hl16⟩:=YW hl15
 subst e16
 obtain⟨t17,r17,e17,hl17⟩:=YW hl16
 subst e17
 obtain⟨t18,r18,e18,hl18⟩:=YW hl17
 subst e18
 obtain⟨t19,r19,e19,hl19⟩:=YW hl18
 subst e19
 obtain⟨t20,r20,e20,hl20⟩:=YW hl19
 subst e20
 obtain⟨t21,r21,e21,hl21⟩:=YW hl20
 subst e21
 obtain⟨t22,r22,e22,hl22⟩:=YW hl21
 subst e22
 obtain⟨t23,r23,e23,hl23⟩:=YW hl22
 subst e23
 obtain⟨t24,r24,e24,hl24⟩:=YW hl23
 subst e24
 obtain⟨t25,r25,e25,hl25⟩:=YW hl24
 subst e25
 obtain⟨t26,r26,e26,hl26⟩:=YW hl25
 subst e26
 obtain⟨t27,r27,e27,hl27⟩:=YW hl26
 subst e27
 obtain⟨t28,r28,e28,hl28⟩:=YW hl27
 subst e28
 obtain⟨t29,r29,e29,hl29⟩:=YW hl28
 subst e29
 obtain⟨t30,r30,e30,hl30⟩:=YW hl29
 subst e30
 obtain⟨t31,r31,e31,hl31⟩:=YW hl30
 subst e31
 obtain⟨t32,r32,e32,hl32⟩:=YW hl31
 subst e32
 obtain⟨t33,r33,e33,hl33⟩:=YW hl32
 subst e33
 obtain⟨t34,r34,e34,hl34⟩:=YW hl33
 subst e34
 obtain⟨t35,r35,e35,hl35⟩:=YW hl34
 subst e35
 obtain⟨t36,r36,e36,hl36⟩:=YW hl35
 subst e36
 obtain⟨t37,r37,e37,hl37⟩:=YW hl36
 subst e37
 obtain⟨t38,r38,e38,hl38⟩:=YW hl37
 subst e38
 obtain⟨t39,r39,e39,hl39⟩:=YW hl38
 subst e39
 obtain⟨t40,r40,e40,hl40⟩:=YW hl39
 subst e40
 obtain⟨t41,r41,e41,hl41⟩:=YW hl40
 subst e41
 obtain⟨t42,r42,e42,hl42⟩:=YW hl41
 subst e42
 obtain⟨t43,r43,e43,hl43⟩:=YW hl42
 subst e43
 obtain⟨t44,r44,e44,hl44⟩:=YW hl43
 subst e44
 obtain⟨t45,r45,e45,hl45⟩:=YW hl44
 subst e45
 obtain⟨t46,r46,e46,hl46⟩:=YW hl45
 subst e46
 obtain⟨t47,r47,e47,hl47⟩:=YW hl46
 subst e47
 obtain⟨t48,r48,e48,hl48⟩:=YW hl47
 subst e48
 obtain⟨t49,r49,e49,hl49⟩:=YW hl48
 subst e49
 obtain⟨t50,r50,e50,hl50⟩:=YW hl49
 subst e50
 obtain⟨t51,r51,e51,hl51⟩:=YW hl50
 subst e51
 obtain rfl:r51=[]:=List.length_eq_zero_iff.1 hl51
 exact⟨t0,t1,t2,t3,t4,t5,t6,t7,t8,t9,t10,t11,t12,t13,t14,t15,t16,t17,t18,t19,t20,t21,t22,t23,t24,t25,t26,t27,t28,t29,t30,t31,t32,t33,t34,t35,t36,t37,t38,t39,t40,t41,t42,t43,t44,t45,t46,t47,t48,t49,t50,t51,rfl⟩
def d1z:Code->Option Code
 | .seq _ (.block _ (.loop (.block _ (.seq _ (.seq m _)))))=>some m
 | _=>none
theorem c8m: ∃ cA b0 b1 cB cM cC,Option.bind Tryz.f177.body d1z=some cM∧Tryz.f177.body=some (.seq cA (.block b0 (.loop (.block b1 (.seq cB (.seq cM cC)))))) ∧
  X5 Tryz.prog cA=some Mg∧XK cA=true∧X5 Tryz.prog cB=some NE∧XK cB=true∧(X5 Tryz.prog cC).map (fun x=>(QR [] [] x [4,1,2,0]).1)=some QO∧XK cC=true:=by
 refine⟨_,_,_,_,_,_,rfl,rfl,?_,?_,?_,?_,?_,?_⟩ <;> kernel_rfl
theorem Bj(p:List Int):c7t (YU p):=by
 intro l o h ty sz xs e
 subst e
 match l,h with
 | 0,h=>cases h
 | l+1,h=>simp[YU]at h
theorem c9z{μ:Mu}{Φ:Z5}{l:Nat}{b:BoxT}{fs:List Fact}{n:Nat}{t:Array Value}{v0 v1 v2 v4:Value}(h0:R μ Φ v0 (.yld l))(h1:R μ Φ v1 (.pv (.rptr [enc b.v,.int .i64 b.m])))(h2:R μ Φ v2 (.pv (.rptr [enc fs])))(h4:R μ Φ v4 (.row 0 n 0 n))
  (e0:t[0]? = some v0:=by rfl) (e1:t[1]? = some v1:=by rfl) (e2:t[2]? = some v2:=by rfl) (e4:t[4]? = some v4:=by rfl) :
  ∀ p∈[(0,AV.yld l),(1,.pv (.rptr [enc b.v,.int .i64 b.m])),(2,.pv (.rptr [enc fs])),(4,.row 0 n 0 n)],∀ v,t[p.1]? = some v->R μ Φ v p.2:=by
 intro p hp v hv
 simp only[List.mem_cons,List.not_mem_nil,or_false]at hp
 rcases hp with rfl|rfl|rfl|rfl
 ·rw[e0]at hv;cases hv;exact h0
 ·rw[e1]at hv;cases hv;exact h1
 ·rw[e2]at hv;cases hv;exact h2
 ·rw[e4]at hv;cases hv;exact h4
set_option maxHeartbeats 4000000 in
theorem c8e {n l : Nat} {b : BoxT} {fs : List Fact} {p : List Int} {μ : Mu} {Φ : Z5} {w : World} {a : Act} {k : Nat} {J : Nat -> Z5 -> (Nat -> Prop) -> World -> Prop} {Jx : Z5 -> (Nat -> Prop) -> World -> Prop} {cM : Code}
    (hM:Option.bind Tryz.f177.body d1z=some cM) (hJok : ∀ k,JOK (J k)) (hJxok:JOK Jx) (hfs:Zf fs=true) (hp:p.length<=1000) (hvl:b.v.length<=1000)
    (hj:J k Φ (G5 μ (YU p)) w) (hg:Go.Pl.Good (entry μ Φ (YU p) w) μ Φ (YU p) w) (he:XZ μ Φ a.tmps (b6r l b fs p.length p)) (hd:a.defers=[])
    (hY:XJ b.v fs p=true-> ∀ Φ X W1 (vs:Array Value),J k Φ X W1->Wq Φ vs.toList (KJ (p,Zq b.v p))->YieldAt Fence.wide (n - 1) Tryz.prog l vs W1 (Pe (J (k+1)) Jx Φ X W1)) :
    cM.wpIn Fence.wide n Tryz.prog (fun e a' w'=>a'.defers=[]∧(∃ Φ',Φ.le Φ'∧XZ μ Φ' a'.tmps (JY l b fs p.length) ∧
      ((e = .normal∧Go.Pl.Good (entry μ Φ' (YU p) w') μ Φ' (YU p) w'∧J (if XJ b.v fs p then k+1 else k) Φ' (G5 μ (YU p)) w')∨(e = .ret∧ ∃ X,Jx Φ' X w')))) a w:=by
  obtain⟨tm,ds⟩:=a
  obtain⟨l0⟩:=tm
  simp only at hd
  subst hd
  obtain⟨hsz,hat⟩:=c9r he
  obtain⟨t0,t1,t2,t3,t4,t5,t6,t7,t8,t9,t10,t11,t12,t13,t14,t15,t16,t17,t18,t19,t20,t21,t22,t23,t24,t25,t26,t27,t28,t29,t30,t31,t32,t33,t34,t35,t36,t37,t38,t39,t40,t41,t42,t43,t44,t45,t46,t47,t48,t49,t50,t51,rfl⟩:=c9g (l:=l0) (by simpa using hsz)
  obtain⟨_,q0,k0⟩:=hat 0 _ (by decide) rfl
  obtain⟨_,q1,k1⟩:=hat 1 _ (by decide) rfl
  obtain⟨_,q2,k2⟩:=hat 2 _ (by decide) rfl
  obtain⟨_,q4,k4⟩:=hat 4 _ (by decide) rfl
  obtain⟨_,q5,k5⟩:=hat 5 _ (by decide) rfl
  cases q0;cases q1;cases q2;cases q4;cases q5
  cases k0
  have k2':RP Φ t2 (.rptr [enc fs]):=YG k2
  have k5':RP Φ t5 (enc (Zq b.v p)):=YG k5
  obtain⟨B2,o2,fv,rfl,hf,hone,hcell⟩:=a8q k2' hg.phi
  have hH:=EE hg.laid hg.phi hf k5' hfs (by unfold Zq;rw[List.length_zipWith];omega)
  cases hM
  cases hin:XJ b.v fs p
  · have hin':(fs.all fun f=>Yh f (Zq b.v p))=false:=hin
    gi_wp2_with (first
      | (refine⟨trivial,(fun h=>by simp[Fence.wide]at h),?_⟩;gi_at_call 178;refine(callsIn_wide.2 hH).mono ?_;rintro e w1 ⟨rfl,hb1⟩;rw[hin'])
      | (refine⟨trivial,?_⟩)
      | (refine⟨(fun(f:FuncId) (h:none=some f)=>by cases h),?_⟩)
      | fail)
    have hXb : ∀ x,G5 μ (YU p) x->x<w.heap.size∧Φ x=none:=fun x hx=>(hJok k).out hj hx
    have hg1:=hg.below hb1 (.refl _) (JL hg.phi hb1) (fun b cs h=>.inl h)
    have hj1:=(hJok k).step hj (KR hb1 (.refl _) (JL hg.phi hb1) (fun b cs h=>.inl h) hXb)
    exact⟨Φ,.refl _,Ns rfl (c9z (.yld l) k1 k2 k4),hg1.rebase,hj1⟩
  · have hin':(fs.all fun f=>Yh f (Zq b.v p))=true:=hin
    have hXb : ∀ x,G5 μ (YU p) x->x<w.heap.size∧Φ x=none:=fun x hx=>(hJok k).out hj hx
    gi_wp2_with (first
      | (refine ⟨trivial, (fun h => by simp [Fence.wide] at h), ?_⟩; gi_at_call 178; refine (callsIn_wide.2 hH).mono ?_; rintro e w1 ⟨rfl, hb1⟩; rw [hin']
         have hg1:=hg.below hb1 (.refl _) (JL hg.phi hb1) (fun b cs h=>.inl h)
         have hj1:=(hJok k).step hj (KR hb1 (.refl _) (JL hg.phi hb1) (fun b cs h=>.inl h) hXb))
      | (refine ⟨trivial, (fun h => by simp [Fence.wide] at h), ?_⟩; gi_at_call 104; refine (callsIn_wide.2 (a6u hg1 k4 hp)).mono ?_; rintro e w2 ⟨v2, Φ2, rfl, hle2, hφ2, hv2, hb2, hd2⟩
         have hg2:=hg1.below hb2 hle2 hφ2 hd2
         have hj2:=(hJok k).step hj1 (KR hb2 hle2 hφ2 hd2 (fun x hx=>(hJok k).out hj1 hx))
         obtain⟨fn,tmps,assign,body,hy,hR⟩:=hY hin Φ2 _ w2 #[v2,t5] hj2 (c4y hv2 (k5'.mono hle2)))
      | fail)
    refine⟨(fun h=>by simp[Fence.wide]at h),hR.mono ?_⟩
    rintro e w3 ⟨Φ3,hle3,hkeep,⟨rfl,hj3⟩|⟨rfl,hj3⟩⟩
    · gi_wp2
      have hle:=hle2.trans hle3
      exact⟨Φ3,hle,Ns rfl (c9z (.yld l) (k1.mono (.refl _) hle) (k2.mono (.refl _) hle) (k4.mono (.refl _) hle)),hg2.moved ((hJok (k+1)).glob hj3) hle3 ((hJok (k+1)).phi hj3) hkeep (fun b hb=>((hJok (k+1)).out hj3 hb).2) (Bj p),hj3⟩
    · gi_wp2
      have hle:=hle2.trans hle3
      exact⟨Φ3,hle,Ns rfl (c9z (.yld l) (k1.mono (.refl _) hle) (k2.mono (.refl _) hle) (k4.mono (.refl _) hle)),_,hj3⟩
theorem c1i(μ:Mu):G5 μ []=fun _=>False:=by
 funext b
 exact propext ⟨fun⟨l,o,h,_⟩=>by simp at h,fun h=>h.elim⟩
theorem a1o:Yv Tryz.prog a2t:=Zd (YA Tryz.func48 (by kernel_rfl) c7v) Zm
theorem b2l{k:Nat}{rs:List IRes}{st:St}(h:Zt k rs (fun _=>False) st):False:=by
 obtain⟨r,_,h⟩:=h
 exact h
theorem c3v{m:Int}{p:List Int}{l:List (List Int)}(h:Walk m p l): ∃ t,l=p::t:=by
 cases h with
 | last h=>exact⟨[],rfl⟩
 | step h k=>exact⟨_,rfl⟩
theorem EY(x y z:Value)(n:Nat):((#[x]++ #[y,z])++Array.replicate n undef:Array Value)[0]? = some x∧((#[x]++ #[y,z])++Array.replicate n undef:Array Value)[1]? = some y∧((#[x]++ #[y,z])++Array.replicate n undef:Array Value)[2]? = some z:=by
 refine⟨?_,?_,?_⟩ <;> simp[Array.getElem?_append]
set_option maxHeartbeats 1000000 in
theorem Ki:b5t Tryz.prog 177 KJ Qw Cw:=by
 refine⟨⟨_,Tryz.func177,rfl,rfl⟩,?_⟩
 intro pss hpre Φ0 lb l J Jx W hcaps hJok hJxok hY h0
 unfold Qw at hpre
 split at hpre
 ·rename_i v m f
  simp only[Bool.and_eq_true,decide_eq_true_eq]at hpre
  obtain⟨⟨⟨⟨hv,hf⟩,hbx⟩,hfs⟩,hvl⟩:=hpre
  obtain⟨vs,rfl⟩:=YB hv
  obtain⟨fs,rfl⟩:=YB hf
  rw[Enc.dec_enc]at hbx hvl hfs
  have hF:Cw [[enc vs,.int .i64 m],[enc fs]]=(ZY ⟨vs,m⟩ fs).map fun p=>(p,Zq vs p):=by
   show((ZY ⟨dec (enc vs:PV),m⟩ (dec (enc fs:PV))).map fun p=>(p,Zq (dec (enc vs:PV)) p))=_
   rw[Enc.dec_enc,Enc.dec_enc]
  rw[hF]at hY ⊢
  obtain⟨lb⟩:=lb
  match lb,hcaps.1 with
  | [p1,p2],_=>
   obtain⟨B1,c1,rfl,g1,r1,o1⟩:=hcaps.2 0 p1 _ rfl rfl
   obtain⟨B2,c2,rfl,g2,r2,o2⟩:=hcaps.2 1 p2 _ rfl rfl
   have k1:=Rh g1 r1 o1
   have k2:=Rh g2 r2 o2
   obtain⟨cA,b0,b1,cB,cM,cC,hM,hbody,hA1,hA2,hB1,hB2,hC1,hC2⟩:=c8m
   obtain⟨xC,hC0,hC3⟩:=Option.map_eq_some_iff.1 hC1
   have htr:Tr Tryz.prog cC QO:=hC3▸LC (Ja hC0) _ _ _
   refine callsIn_wide.1 (callsIn_of_wp (F:=Fence.wide) (n:=4) Tryz.func177 hbody trivial ?_ rfl)
   have hE:XZ (fun _ _=>none) Φ0 ((#[Value.func (.yield l) #[] #[]]++ #[Value.pointer (some ⟨B1,0,none⟩),Value.pointer (some ⟨B2,0,none⟩)])++Array.replicate 49 undef) (Z4 52 0 [(0,.yld l),(1,.pv (.rptr [enc vs,.int .i64 m])),(2,.pv (.rptr [enc fs]))]):=by
    refine Ns (by simp) ?_
    intro q hq u hu
    simp only[List.mem_cons,List.not_mem_nil,or_false]at hq
    rcases hq with rfl|rfl|rfl
    ·have:=(EY _ _ _ 49).1.symm.trans hu
     injection this with this
     subst this
     exact .yld l
    ·have:=(EY _ _ _ 49).2.1.symm.trans hu
     injection this with this
     subst this
     exact .pv _ _ k1
    ·have:=(EY _ _ _ 49).2.2.symm.trans hu
     injection this with this
     subst this
     exact .pv _ _ k2
   refine wpIn_seq (wpIn_mono (RA (nn:=4) (st:=⟨Z4 52 0 [(0,.yld l),(1,.pv (.rptr [enc vs,.int .i64 m])),(2,.pv (.rptr [enc fs]))],[]⟩) a1o ZU hA1 hA2 (c2s l ⟨vs,m⟩ fs hvl) (Qf ((hJok 0).glob h0) ((hJok 0).phi h0)) hE rfl) ?_)
   rintro e a1 w1 (⟨rfl,st',rfl,μ1,Φ1,hg1,he1,hd1⟩|⟨rfl,st',hF,_⟩)
   ·have hsz : ∀ y∈Jj m.toNat vs.length,∀ x∈y,-1<=x∧x<=20000:=by
     intro y hy x hx
     obtain⟨q1,q2⟩:=Gn.1 hy
     have:=q2 x hx
     obtain⟨_,_,h3,h4,_⟩:=UE.1 hbx
     rcases h3 with h3|h3
     ·have h3:vs=[]:=h3
      subst h3
      rw[List.length_eq_zero_iff.1 q1]at hx
      cases hx
     ·have h3:m<20000:=h3
      have h4:0<=m:=h4
      omega
    have hj1:J 0 Φ1 (G5 μ1 (YU (Wu vs))) w1:=by
     have h0':J 0 Φ0 (G5 (fun _ _=>none) []) W:=by rw[c1i];exact h0
     exact(hJok 0).step h0' (Steps.of_good hg1 (Bj _))
    have hz:Wu vs=List.replicate vs.length 0:=List.map_const' ..
    have hw0:Walk m (Wu vs) (Jj m.toNat vs.length):=by
     have:=DN m.toNat vs.length
     have e:(m.toNat:Int)=m:=by
      have:0<=m:=(UE.1 hbx).2.2.2.1
      omega
     rw[e,<- hz]at this
     exact this
    have hp0:ZY ⟨vs,m⟩ fs=(Jj m.toNat vs.length).filter (XJ vs fs):=by
     unfold ZY
     rw[Um hbx]
    refine wpIn_block (wpIn_loop_ghost (fun n a w=> ∃ (p:List Int) (lst:List (List Int)) (k:Nat) (μ:Mu) (Φ:Z5),n=lst.length∧Walk m p lst∧p.length=vs.length∧(∀ y∈lst,∀ x∈y,-1<=x∧x<=20000) ∧
     (ZY ⟨vs,m⟩ fs).drop k=lst.filter (XJ vs fs)∧k<=(ZY ⟨vs,m⟩ fs).length∧J k Φ (G5 μ (YU p)) w∧Go.Pl.Good (entry μ Φ (YU p) w) μ Φ (YU p) w∧XZ μ Φ a.tmps (JY l ⟨vs,m⟩ fs p.length)∧a.defers=[]) _
     ⟨Wu vs,Jj m.toNat vs.length,0,μ1,Φ1,rfl,hw0,by simp[Wu],hsz,by rw[List.drop_zero,hp0],Nat.zero_le _,hj1,hg1.rebase,by rw[show(Wu vs).length=(⟨vs,m⟩:BoxT).v.length by simp[Wu]];exact he1,hd1⟩ ?_)
    clear hj1 hg1 he1 hd1 hw0 h0 hE
    rintro n a w ⟨p,lst,k,μ,Φ,rfl,hw,hpl,hpx,hdr,hk,hj,hg,he,hd⟩
    have hp:p.length<=1000:=by omega
    obtain⟨rest,rfl⟩:=c3v hw
    refine wpIn_block (wpIn_seq (wpIn_mono (RA (nn:=4) (st:=⟨JY l ⟨vs,m⟩ fs p.length,YU p⟩) a1o ZU hB1 hB2 (c2j l ⟨vs,m⟩ fs p hvl hp) hg he hd) ?_))
    rintro e a1 w1 (⟨rfl,st',rfl,μ1,Φ1,hg1,he1,hd1⟩|⟨rfl,st',hF,_⟩)
    ·have hj1:J k Φ1 (G5 μ1 (YU p)) w1:=(hJok k).step hj (Steps.of_good hg1 (Bj _))
     have hat:XJ vs fs p=true->(ZY ⟨vs,m⟩ fs)[k]? = some p:=by
      intro hin
      have:((ZY ⟨vs,m⟩ fs).drop k)[0]? = some p:=by rw[hdr,List.filter_cons,if_pos hin];rfl
      rwa [List.getElem?_drop]at this
     refine wpIn_seq (wpIn_mono (c8e (n:=4) (b:=⟨vs,m⟩) (fs:=fs) (J:=J) (Jx:=Jx) hM hJok hJxok hfs hp hvl hj1 hg1.rebase he1 hd1 ?_) ?_)
     ·intro hin Φ X W1 us hJ hus
      exact hY 3 k (p,Zq vs p) Φ X W1 us (by rw[List.getElem?_map,hat hin];rfl) hJ hus
     ·rintro e a2 w2 ⟨hd2,Φ2,hle,he2,⟨rfl,hg2,hj2⟩|⟨rfl,X,hjx⟩⟩
      ·refine wpIn_mono (BV (nn:=4) (st:=⟨JY l ⟨vs,m⟩ fs p.length,YU p⟩) a1o ZU htr hC2 (c2a l ⟨vs,m⟩ fs p hp (hpx p (by simp))) hg2 he2 hd2) ?_
       have hk':(if XJ vs fs p then k+1 else k)<=(ZY ⟨vs,m⟩ fs).length∧(ZY ⟨vs,m⟩ fs).drop (if XJ vs fs p then k+1 else k)=rest.filter (XJ vs fs):=by
        cases hin:XJ vs fs p
        ·rw[if_neg (by simp)]
         refine⟨hk,?_⟩
         rw[hdr,List.filter_cons,if_neg (by simp[hin])]
        ·rw[if_pos rfl]
         have:=(List.getElem?_eq_some_iff.1 (hat hin)).1
         refine⟨this,?_⟩
         have e:=congrArg (List.drop 1) hdr
         rw[List.filter_cons,if_pos hin,List.drop_drop]at e
         exact e
       rintro e a3 w3 (⟨rfl,st',⟨q,hq,rfl⟩,μ3,Φ3,hg3,he3,hd3⟩|⟨rfl,st',hF,μ3,Φ3,hg3,he3,hd3⟩)
       ·have hql:q.length=p.length:=Di _ _ _ _ hq
        cases hw with
        | last h=>rw[h]at hq;cases hq
        | step h hw'=>
         rw[h]at hq
         cases hq
         refine⟨rest.length,by simp,q,rest,_,μ3,Φ3,rfl,hw',by rw[hql,hpl],fun y hy=>hpx y (by simp[hy]),hk'.2,hk'.1,(hJok _).step hj2 (Steps.of_good hg3 (Bj q)),hg3.rebase,by rw[hql];exact he3,hd3⟩
       ·obtain⟨_,_,hq⟩:=hF
        cases hw with
        | step h hw'=>rw[h]at hq;cases hq
        | last h=>
         have hkl:(if XJ vs fs p then k+1 else k)=(ZY ⟨vs,m⟩ fs).length:=by
          have e:=congrArg List.length hk'.2
          rw[List.length_drop]at e
          have:=hk'.1
          simp at e
          omega
         rw[hkl]at hj2
         simp only[Exit.inBlock,Exit.then]
         refine bodyPost_ret (results_none (fn:=Tryz.f177) rfl _ _ _) hd3 ?_
         refine⟨⟨_,rfl⟩,Φ3,fun _=>False,.inl ?_⟩
         rw[List.length_map]
         exact(hJok _).step hj2 (Steps.of_good0 hg3)
      ·simp only[Exit.inBlock,Exit.then]
       refine bodyPost_ret (results_none (fn:=Tryz.f177) rfl _ _ _) hd2 ?_
       exact⟨⟨_,rfl⟩,Φ2,X,.inr hjx⟩
    ·exact(b2l hF).elim
   ·exact(b2l hF).elim
 ·cases hpre
end Go.Proofs.YtjfgiaooglnomaaGreatDoor
namespace Go.Proofs.YtjfgiaooglnomaaGreatDoor
open Go.Pl
open Enc (enc dec is)
open EncL (encL decL isL)
set_option maxRecDepth 100000
theorem Ol:Yf Tryz.prog 187 Wh QZ:=NN (fun blk off cap ss w hH hb hs hc=>((Any.slices_Compact_string Tryz.lays194 blk off cap ss w hH (by omega) hc).mono fun e w' h=>⟨h.1,by obtain⟨q,rfl⟩:=h.2;exact⟨q,#[],by unfold Go.Sort.grow;rw[Array.append_empty];rfl⟩⟩)) (fun p cap w=>Any.slices_Compact_string_empty Tryz.lays194 p cap w)
theorem SE:Yf Tryz.prog 117 Xn Vd:=Vw (T:=OV) (ic:=PQ) (rs:=Ms) Zm ZU Tryz.func117 (by kernel_rfl) (by kernel_rfl) (by kernel_rfl) b6f
theorem a6n{cd:Code}(h:VI Tryz.prog QQ Tryz.f45 0=some cd):WL Tryz.prog cd=some (.t 17,[18,19],[(8,18)],QF):=by
 have:(VI Tryz.prog QQ Tryz.f45 0).bind (WL Tryz.prog)=some (.t 17,[18,19],[(8,18)],QF):=by kernel_rfl
 rw[h]at this
 exact this
theorem c4c(hT:Yv Tryz.prog JR): ∀ (B:Nat) (c:Ctx),c.w0.heap.size=B->(∀ i m,0<=i->c.μ0 i m=none)->FM (KA B 4 hT ZU) (fun n cd=>VI Tryz.prog QQ Tryz.f45 n=some cd) gpE c:=by
 rintro B c hB hk n cd hcd st a w q hr ⟨rfl,hE⟩
 exact Q9 hT ZU Ki (fun x=>rfl) (a6n hcd) hB hk hr hE
theorem a3j:Yv Tryz.prog JR:=(Zd (YA Tryz.func116 (by kernel_rfl) KV) (Zd (YA Tryz.func117 (by kernel_rfl) SE) Zm))
theorem Da:Zx Tryz.prog 45 (fun x:BoxT×List Fact×Unit=>ZH x.1&&Zf x.2.1&&decide (x.2.1.length<=100)&&decide (x.1.v.length<=1000)) (fun x:BoxT×List Fact×Unit=>Zo x.1 x.2.1):=Zx.ofM (T:=JR) (ic:=Df) (rs:=Dv) (E:=gpE) (sel:=QQ) a3j ZU Tryz.func45 (by kernel_rfl) (by kernel_rfl) (by kernel_rfl) (c4c a3j) c1f
theorem FE:Zx Tryz.prog 47 (fun x:BoxT×List Fact×Unit=>ZH x.1&&Zf x.2.1&&decide (x.2.1.length<=100)&&decide (x.1.v.length<=1000)) (fun x:BoxT×List Fact×Unit=>D8 x.1 x.2.1):=Zx.of (T:=AJ) (ic:=DF) (rs:=D6) (Zd (YA Tryz.func45 (by kernel_rfl) Da) Zm) ZU Tryz.func47 (by kernel_rfl) (by kernel_rfl) (by kernel_rfl) O9
theorem b9k:Zx Tryz.prog 128 (fun _:Int×Int×Unit=>true) (fun x:Int×Int×Unit=>decide (x.1<x.2.1)):=Zx.of (T:=b2x) (ic:=a1i) (rs:=EZ) Zm ZU Tryz.func128 (by kernel_rfl) (by kernel_rfl) (by kernel_rfl) b9o
theorem a2g:Yf Tryz.prog 194 (Ko 128) (Jw lessB):=Vw (T:=Es) (ic:=NG) (rs:=NT) (Zd (YA Tryz.func128 (by kernel_rfl) b9k) Zm) ZU Tryz.func194 (by kernel_rfl) (by kernel_rfl) (by kernel_rfl) b1t
theorem L6{cd:Code}(h:VI Tryz.prog QQ Tryz.f127 0=some cd):WL Tryz.prog cd=some (.t 31,[32,33],[(15,33)],Qj):=by
 have:(VI Tryz.prog QQ Tryz.f127 0).bind (WL Tryz.prog)=some (.t 31,[32,33],[(15,33)],Qj):=by kernel_rfl
 rw[h]at this
 exact this
theorem a7w(hT:Yv Tryz.prog Us): ∀ (B:Nat) (c:Ctx),c.w0.heap.size=B->(∀ i m,0<=i->c.μ0 i m=none)->FM (KA B 4 hT ZU) (fun n cd=>VI Tryz.prog QQ Tryz.f127 n=some cd) Hw c:=by
 rintro B c hB hk n cd hcd st a w q hr ⟨rfl,hE⟩
 exact Q9 hT ZU Ki (fun x=>rfl) (L6 hcd) hB hk hr hE
theorem MU{cd:Code}(h:VI Tryz.prog QQ Tryz.f127 0=some cd):WL Tryz.prog cd=some (.t 31,[32,33],[(15,33)],QT):=by
 have:(VI Tryz.prog QQ Tryz.f127 0).bind (WL Tryz.prog)=some (.t 31,[32,33],[(15,33)],QT):=by kernel_rfl
 rw[h]at this
 exact this
theorem a5q(hT:Yv Tryz.prog Un): ∀ (B:Nat) (c:Ctx),c.w0.heap.size=B->(∀ i m,0<=i->c.μ0 i m=none)->FM (KA B 4 hT ZU) (fun n cd=>VI Tryz.prog QQ Tryz.f127 n=some cd) Gd c:=by
 rintro B c hB hk n cd hcd st a w q hr ⟨rfl,hE⟩
 exact Q9 hT ZU Ki (fun x=>rfl) (MU hcd) hB hk hr hE
theorem TK:Yv Tryz.prog Us:=(Zd (YA Tryz.func73 (by kernel_rfl) UO) (Zd (YA Tryz.func174 (by kernel_rfl) c8x) (Zd (YA Tryz.func116 (by kernel_rfl) KV) (Zd (YA Tryz.func117 (by kernel_rfl) SE) (Zd (YA Tryz.func38 (by kernel_rfl) K5) (Zd (YA Tryz.func194 (by kernel_rfl) a2g) Zm))))))
theorem Rj:Yv Tryz.prog Un:=(Zd (YA Tryz.func73 (by kernel_rfl) UO) (Zd (YA Tryz.func174 (by kernel_rfl) c9t) (Zd (YA Tryz.func116 (by kernel_rfl) b4q) (Zd (YA Tryz.func117 (by kernel_rfl) SE) (Zd (YA Tryz.func38 (by kernel_rfl) K5) (Zd (YA Tryz.func194 (by kernel_rfl) a2g) Zm))))))
theorem b9e:Zx Tryz.prog 127 (fun x:BoxT×List Fact×Lin×FnV 128×Unit=>Qd x.1 x.2.1 x.2.2.1) (fun x:BoxT×List Fact×Lin×FnV 128×Unit=>Qs lessB x.1 x.2.1 x.2.2.1):=Zx.or (fun x=>x.2.2.1.t.isEmpty)
 (Zx.ofM (T:=Us) (ic:=UY) (rs:=Ke) (E:=Hw) (sel:=QQ) TK ZU Tryz.func127 (by kernel_rfl) (by kernel_rfl) (by kernel_rfl) (a7w TK) a7i)
 (Zx.ofM (T:=Un) (ic:=Q8) (rs:=QY) (E:=Gd) (sel:=QQ) Rj ZU Tryz.func127 (by kernel_rfl) (by kernel_rfl) (by kernel_rfl) (a5q Rj) a5x)
theorem F9:Zx Tryz.prog 58 (fun x:BoxT×List Fact×Lin×Unit=>Qd x.1 x.2.1 x.2.2.1) (fun x:BoxT×List Fact×Lin×Unit=>Qs lessB x.1 x.2.1 x.2.2.1):=Zx.of (T:=a0k) (ic:=PW) (rs:=Pw) (Zd (YA Tryz.func127 (by kernel_rfl) b9e) Zm) ZU Tryz.func58 (by kernel_rfl) (by kernel_rfl) (by kernel_rfl) b0e
theorem b3z:Zx Tryz.prog 185 (fun x:Str×Unit=>decide (x.1.s.length<=281474976710656)) (fun x:Str×Unit=> !(ZG x.1)):=Zx.of (T:=OP) (ic:=Nl) (rs:=NB) (Zd (YA Tryz.func119 (by kernel_rfl) Cg) Zm) ZU Tryz.func185 (by kernel_rfl) (by kernel_rfl) (by kernel_rfl) b0s
theorem c3t:Zx Tryz.prog 238 (fun x:List Str×FnV 185×Unit=>XX x.1) (fun x:List Str×FnV 185×Unit=>ZI (fun s:Str=> !(ZG s)) x.1):=Zx.of (T:=BG) (ic:=Ha) (rs:=J8) (Zd (YA Tryz.func185 (by kernel_rfl) b3z) Zm) ZU Tryz.func238 (by kernel_rfl) (by kernel_rfl) (by kernel_rfl) c3q
theorem c2h:Zx Tryz.prog 175 (fun x:List Str×FnV 185×Unit=>XX x.1) (fun x:List Str×FnV 185×Unit=>x.1.any fun s:Str=> !(ZG s)):=Zx.of (T:=b4p) (ic:=a1x) (rs:=O7) (Zd (YA Tryz.func238 (by kernel_rfl) c3t) Zm) ZU Tryz.func175 (by kernel_rfl) (by kernel_rfl) (by kernel_rfl) c4w
theorem RS:Zx Tryz.prog 283 (fun _:Str×Unit=>true) (fun _:Str×Unit=>false):=Zx.of (T:=EH) (ic:=Nk) (rs:=P8) Zm ZU Tryz.func283 (by kernel_rfl) (by kernel_rfl) (by kernel_rfl) b8j
theorem Le:Zx Tryz.prog 244 (fun _:Str×Str×Unit=>true) (fun x:Str×Str×Unit=>decide (x.1.s<x.2.1.s)):=Zx.of (T:=N9) (ic:=AC) (rs:=BH) (Zd (YA Tryz.func283 (by kernel_rfl) RS) Zm) ZU Tryz.func244 (by kernel_rfl) (by kernel_rfl) (by kernel_rfl) a7t
theorem BF:Zx Tryz.prog 245 (fun _:Str×Str×Unit=>true) (fun x:Str×Str×Unit=>Ty x.1 x.2.1):=Zx.of (T:=a0f) (ic:=Nv) (rs:=NM) (Zd (YA Tryz.func283 (by kernel_rfl) RS) Zm) ZU Tryz.func245 (by kernel_rfl) (by kernel_rfl) (by kernel_rfl) b1q
theorem PY:Zx Tryz.prog 184 (fun x:List Str×Unit=>Zr x.1) (fun x:List Str×Unit=>Q4 x.1):=Zx.of (T:=V5) (ic:=Vi) (rs:=Vl) (Zd (YA Tryz.func244 (by kernel_rfl) Le) Zm) ZU Tryz.func184 (by kernel_rfl) (by kernel_rfl) (by kernel_rfl) LH
theorem Tz:Zx Tryz.prog 186 (fun x:List Str×List Str×Unit=>Zr x.1&&Zr x.2.1) (fun x:List Str×List Str×Unit=>Du x.1 x.2.1):=Zx.of (T:=Qm) (ic:=Uh) (rs:=VZ) (Zd (YA Tryz.func245 (by kernel_rfl) BF) Zm) ZU Tryz.func186 (by kernel_rfl) (by kernel_rfl) (by kernel_rfl) ER
theorem Ux:Zx Tryz.prog 122 (fun x:List Mono×Unit=>Yo x.1) (fun x:List Mono×Unit=>ZJ x.1):=Zx.of (T:=Vx) (ic:=Vr) (rs:=WB) (Zd (YA Tryz.func184 (by kernel_rfl) PY) (Zd (YA Tryz.func175 (by kernel_rfl) c2h) (Zd (YA Tryz.func186 (by kernel_rfl) Tz) Zm))) ZU Tryz.func122 (by kernel_rfl) (by kernel_rfl) (by kernel_rfl) Ez
theorem c7y:Yf Tryz.prog 123 QD PL:=Vw (T:=Wl) (ic:=XC) (rs:=Xy) (Zd (YA Tryz.func122 (by kernel_rfl) Ux) (Zd (YA Tryz.func154 (by kernel_rfl) Oi) (Zd (YA Tryz.func187 (by kernel_rfl) Ol) Zm))) ZU Tryz.func123 (by kernel_rfl) (by kernel_rfl) (by kernel_rfl) OY
theorem c5q:Yf Tryz.prog 123 QD PG:=c7y.trunc fun args os h=>by
 unfold QD at h
 split at h
 ·rename_i a
  refine⟨rfl,9,(Lib.compact (XA (Uw a))).length,VW (XA (Uw a)),?_,?_,?_⟩
  ·rw[Dh];exact Gq _
  ·show(AV.row 0 (XA (Uw a)).length 0 _,_,_)=_
   rw[Dh]
  ·have e:(VW (XA (Uw a))).take (Lib.compact (XA (Uw a))).length=Lib.compact (XA (Uw a)):=by unfold VW;exact List.take_left ..
   rw[e]
   show Jn (YK (Uw a))=_
   unfold Jn YK
   rw[List.length_map,List.map_map];rfl
 ·cases h
theorem c8o:Yf Tryz.prog 123 Jr Bh:=Vw (T:=Wl) (ic:=XC) (rs:=Xy) (Zd (YA Tryz.func122 (by kernel_rfl) Ux) (Zd (YA Tryz.func154 (by kernel_rfl) Oi) (Zd (YA Tryz.func187 (by kernel_rfl) Ol) Zm))) ZU Tryz.func123 (by kernel_rfl) (by kernel_rfl) (by kernel_rfl) a1s
theorem c5t:Yf Tryz.prog 188 Gv Be:=Vw (T:=b3s) (ic:=a0m) (rs:=OZ) Zm ZU Tryz.func188 (by kernel_rfl) (by kernel_rfl) (by kernel_rfl) c4s
theorem c9w:Yf Tryz.prog 109 (Uv 188) CW:=Vw (T:=SX) (ic:=J4) (rs:=HV) (Zd (YA Tryz.func188 (by kernel_rfl) c5t) Zm) ZU Tryz.func109 (by kernel_rfl) (by kernel_rfl) (by kernel_rfl) c0m
theorem c1x:Zx Tryz.prog 284 (fun x:List Int×Int×Unit=>Zr x.1) (fun x:List Int×Int×Unit=>ZI (fun n:Int=>decide (x.2.1=n)) x.1):=Zx.of (T:=Hg) (ic:=Kn) (rs:=Kr) Zm ZU Tryz.func284 (by kernel_rfl) (by kernel_rfl) (by kernel_rfl) b2z
theorem a5u:Zx Tryz.prog 246 (fun x:List Int×Int×Unit=>Zr x.1) (fun x:List Int×Int×Unit=>x.1.contains x.2.1):=Zx.of (T:=AO) (ic:=D5) (rs:=D9) (Zd (YA Tryz.func284 (by kernel_rfl) c1x) Zm) ZU Tryz.func246 (by kernel_rfl) (by kernel_rfl) (by kernel_rfl) a1w
theorem Sm:Zx Tryz.prog 189 (fun x:List Int×Unit=>Zr x.1) (fun x:List Int×Unit=>Xp x.1):=Zx.of (T:=Qy) (ic:=Qb) (rs:=UD) (Zd (YA Tryz.func246 (by kernel_rfl) a5u) (Zd (YA Tryz.func247 (by kernel_rfl) a1l) Zm)) ZU Tryz.func189 (by kernel_rfl) (by kernel_rfl) (by kernel_rfl) a8y
theorem CF:Zx Tryz.prog 125 (fun x:List Mono×List Coef×Unit=>Yo x.1&&Zr x.2.1) (fun x:List Mono×List Coef×Unit=>Xa x.1 x.2.1):=Zx.of (T:=ZZ) (ic:=ZQ) (rs:=ZP) (Zd (YA Tryz.func122 (by kernel_rfl) Ux) (Zd (YA Tryz.func109 (by kernel_rfl) c9w) (Zd (YA Tryz.func189 (by kernel_rfl) Sm) (Zd (YA Tryz.func190 (by kernel_rfl) Eh) Zm)))) ZU Tryz.func125 (by kernel_rfl) (by kernel_rfl) (by kernel_rfl) a5k
theorem b0j:Yf Tryz.prog 124 UN Qu:=Vw (T:=P6) (ic:=Bp) (rs:=CU) Zm ZU Tryz.func124 (by kernel_rfl) (by kernel_rfl) (by kernel_rfl) c1q
theorem FU{cd:Code}(h:VI Tryz.prog QQ Tryz.f57 0=some cd):WL Tryz.prog cd=some (.t 32,[33,34],[(13,34)],VH):=by
 have:(VI Tryz.prog QQ Tryz.f57 0).bind (WL Tryz.prog)=some (.t 32,[33,34],[(13,34)],VH):=by kernel_rfl
 rw[h]at this
 exact this
theorem a6z(hT:Yv Tryz.prog Y2): ∀ (B:Nat) (c:Ctx),c.w0.heap.size=B->(∀ i m,0<=i->c.μ0 i m=none)->FM (KA B 4 hT ZU) (fun n cd=>VI Tryz.prog QQ Tryz.f57 n=some cd) VB c:=by
 rintro B c hB hk n cd hcd st a w q hr ⟨rfl,hE⟩
 exact Q9 hT ZU Ki (fun x=>rfl) (FU hcd) hB hk hr hE
theorem M5{cd:Code}(h:VI Tryz.prog QQ Tryz.f57 0=some cd):WL Tryz.prog cd=some (.t 32,[33,34],[(13,34)],Uz):=by
 have:(VI Tryz.prog QQ Tryz.f57 0).bind (WL Tryz.prog)=some (.t 32,[33,34],[(13,34)],Uz):=by kernel_rfl
 rw[h]at this
 exact this
theorem a8m(hT:Yv Tryz.prog YZ): ∀ (B:Nat) (c:Ctx),c.w0.heap.size=B->(∀ i m,0<=i->c.μ0 i m=none)->FM (KA B 4 hT ZU) (fun n cd=>VI Tryz.prog QQ Tryz.f57 n=some cd) VJ c:=by
 rintro B c hB hk n cd hcd st a w q hr ⟨rfl,hE⟩
 exact Q9 hT ZU Ki (fun x=>rfl) (M5 hcd) hB hk hr hE
theorem TU:Yv Tryz.prog Y2:=(Zd (YA Tryz.func122 (by kernel_rfl) Ux) (Zd (YA Tryz.func123 (by kernel_rfl) c8o) (Zd (YA Tryz.func116 (by kernel_rfl) KV) (Zd (YA Tryz.func117 (by kernel_rfl) SE) (Zd (YA Tryz.func125 (by kernel_rfl) CF) (Zd (YA Tryz.func124 (by kernel_rfl) b0j) (Zd (YA Tryz.func126 (by kernel_rfl) S9) Zm)))))))
theorem R4:Yv Tryz.prog YZ:=(Zd (YA Tryz.func122 (by kernel_rfl) Ux) (Zd (YA Tryz.func123 (by kernel_rfl) c5q) (Zd (YA Tryz.func116 (by kernel_rfl) b4q) (Zd (YA Tryz.func117 (by kernel_rfl) SE) (Zd (YA Tryz.func125 (by kernel_rfl) CF) (Zd (YA Tryz.func124 (by kernel_rfl) b0j) (Zd (YA Tryz.func126 (by kernel_rfl) S9) Zm)))))))
theorem a6f:Zx Tryz.prog 57 (fun x:BoxT×List Fact×List Mono×Unit=>J5 x.1 x.2.1 x.2.2.1) (fun x:BoxT×List Fact×List Mono×Unit=>WV x.1 x.2.1 x.2.2.1):=Zx.or (fun x=> !ZJ x.2.2.1||(X4 x.2.2.1).isEmpty)
 (Zx.ofM (T:=Y2) (ic:=Y5) (rs:=Xl) (E:=VB) (sel:=QQ) TU ZU Tryz.func57 (by kernel_rfl) (by kernel_rfl) (by kernel_rfl) (a6z TU) a7v)
 (Zx.ofM (T:=YZ) (ic:=Xj) (rs:=Xg) (E:=VJ) (sel:=QQ) R4 ZU Tryz.func57 (by kernel_rfl) (by kernel_rfl) (by kernel_rfl) (a8m R4) (fun a h=>a9i a (by
  simp only[Bool.and_eq_true,Bool.not_eq_true',Bool.or_eq_false_iff,Bool.not_eq_false']at h ⊢
  exact h)))
theorem J2:Zx Tryz.prog 51 (fun x:BoxT×Unit=>ZH x.1) (fun x:BoxT×Unit=>Y4 x.1):=Zx.of (T:=Q7) (ic:=Uj) (rs:=Uf) (Zd (YA Tryz.func84 (by kernel_rfl) Jh) Zm) ZU Tryz.func51 (by kernel_rfl) (by kernel_rfl) (by kernel_rfl) c4p
theorem c4n:Yf Tryz.prog 49 Wo Ur:=b5w (T:=Vv) (ic:=WM) (rs:=WK) Zm ZU Tryz.func49 (by kernel_rfl) (by kernel_rfl) (by kernel_rfl) Ls
theorem TH:Zx Tryz.prog 179 (fun x:BoxT×List Str×Unit=>Zr x.1.v&&Zr x.2.1) (fun x:BoxT×List Str×Unit=>YQ x.1.v x.2.1):=Zx.of (T:=XL) (ic:=Xb) (rs:=Xe) Zm ZU Tryz.func179 (by kernel_rfl) (by kernel_rfl) (by kernel_rfl) O3
theorem Oz:Zx Tryz.prog 241 (fun x:Lin×Unit=>decide (x.1.t.length<=1000000)) (fun x:Lin×Unit=>Zg x.1):=Zx.of (T:=VL) (ic:=WP) (rs:=WA) Zm ZU Tryz.func241 (by kernel_rfl) (by kernel_rfl) (by kernel_rfl) EB
theorem LK:Zx Tryz.prog 240 (fun x:Lin×Str×Unit=>Zr x.1.t) (fun x:Lin×Str×Unit=>Xw x.1.t x.2.1.s):=Zx.of (T:=U8) (ic:=Uk) (rs:=Ug) Zm ZU Tryz.func240 (by kernel_rfl) (by kernel_rfl) (by kernel_rfl) a0t
theorem OG:Zx Tryz.prog 180 (fun x:List Lin×Unit=>VP x.1) (fun x:List Lin×Unit=>UK x.1):=Zx.of (T:=XP) (ic:=Xd) (rs:=Xf) (Zd (YA Tryz.func240 (by kernel_rfl) LK) (Zd (YA Tryz.func89 (by kernel_rfl) Cq) (Zd (YA Tryz.func241 (by kernel_rfl) Oz) Zm))) ZU Tryz.func180 (by kernel_rfl) (by kernel_rfl) (by kernel_rfl) O4
theorem Fe:Zx Tryz.prog 44 (fun x:BoxT×List Fact×Unit=>ZH x.1&&YJ x.2.1) (fun x:BoxT×List Fact×Unit=>QX x.1 x.2.1):=Zx.of (T:=VG) (ic:=Ud) (rs:=WC) (Zd (YA Tryz.func51 (by kernel_rfl) J2) (Zd (YA Tryz.func31 (by kernel_rfl) O1) Zm)) ZU Tryz.func44 (by kernel_rfl) (by kernel_rfl) (by kernel_rfl) E9
theorem CL:Zx Tryz.prog 54 (fun x:List Int×List Int×Unit=>Zr x.1) (fun x:List Int×List Int×Unit=>decide (x.1=x.2.1)):=Zx.of (T:=U4) (ic:=Ua) (rs:=V9) Zm ZU Tryz.func54 (by kernel_rfl) (by kernel_rfl) (by kernel_rfl) Ed
theorem PP:Zx Tryz.prog 195 (fun x:List Str×List Str×Unit=>Zr x.1&&Zr x.2.1) (fun x:List Str×List Str×Unit=>Xz x.1 x.2.1):=Zx.of (T:=U6) (ic:=V7) (rs:=Ul) Zm ZU Tryz.func195 (by kernel_rfl) (by kernel_rfl) (by kernel_rfl) Eb
theorem Gs:Zx Tryz.prog 131 (fun x:List Mono×Unit=>Xi x.1) (fun x:List Mono×Unit=>ZJ x.1):=Zx.of (T:=UZ) (ic:=VA) (rs:=Vj) (Zd (YA Tryz.func195 (by kernel_rfl) PP) (Zd (YA Tryz.func84 (by kernel_rfl) Jh) Zm)) ZU Tryz.func131 (by kernel_rfl) (by kernel_rfl) (by kernel_rfl) b9t
theorem MZ:Zx Tryz.prog 181 (fun x:List Mono×Unit=>Xi x.1) (fun x:List Mono×Unit=>XV x.1):=Zx.of (T:=Yw) (ic:=Z9) (rs:=Ya) (Zd (YA Tryz.func131 (by kernel_rfl) Gs) Zm) ZU Tryz.func181 (by kernel_rfl) (by kernel_rfl) (by kernel_rfl) b5m
theorem Tt:Zx Tryz.prog 118 (fun x:BoxT×List Fact×Lin×List Mono×Unit=>ZH x.1&&Zf x.2.1&&decide (x.2.1.length<=100)&&YF x.2.2.1&&Xi x.2.2.2.1) (fun x:BoxT×List Fact×Lin×List Mono×Unit=>Zv x.1 x.2.1 (Zw x.2.2.1&&ZJ x.2.2.2.1) (Zg x.2.2.1++XV x.2.2.2.1)):=Zx.of (T:=WX) (ic:=WJ) (rs:=We) (Zd (YA Tryz.func51 (by kernel_rfl) J2) (Zd (YA Tryz.func35 (by kernel_rfl) PH) (Zd (YA Tryz.func20 (by kernel_rfl) Kq) (Zd (YA Tryz.func131 (by kernel_rfl) Gs) (Zd (YA Tryz.func180 (by kernel_rfl) OG) (Zd (YA Tryz.func179 (by kernel_rfl) TH) (Zd (YA Tryz.func181 (by kernel_rfl) MZ) Zm))))))) ZU Tryz.func118 (by kernel_rfl) (by kernel_rfl) (by kernel_rfl) a0o
theorem AA:Zx Tryz.prog 46 (fun x:BoxT×List Fact×Unit=>ZH x.1&&Zf x.2.1&&decide (x.2.1.length<=100)&&decide (x.1.v.length<=1000)) (fun x:BoxT×List Fact×Unit=>Zo x.1 x.2.1):=Zx.of (T:=YO) (ic:=Yi) (rs:=Yj) (Zd (YA Tryz.func118 (by kernel_rfl) Tt) (Zd (YA Tryz.func49 (by kernel_rfl) c4n) (Zd (YA Tryz.func53 (by kernel_rfl) Ma) Zm))) ZU Tryz.func46 (by kernel_rfl) (by kernel_rfl) (by kernel_rfl) b3i
theorem P9:Zx Tryz.prog 115 (fun _:Int×Int×Int×Unit=>true) (fun x:Int×Int×Int×Unit=>Jg x.1 x.2.1 x.2.2.1):=Zx.of (T:=DD) (ic:=Hr) (rs:=Gj) (Zd (YA Tryz.func91 (by kernel_rfl) a8v) (Zd (YA Tryz.func89 (by kernel_rfl) Cq) Zm)) ZU Tryz.func115 (by kernel_rfl) (by kernel_rfl) (by kernel_rfl) F8
theorem Fq:Zx Tryz.prog 43 (fun _:Unit=>true) (fun _:Unit=>true):=Zx.of (T:=Ca) (ic:=Hu) (rs:=He) (Zd (YA Tryz.func115 (by kernel_rfl) P9) (Zd (YA Tryz.func47 (by kernel_rfl) FE) (Zd (YA Tryz.func58 (by kernel_rfl) F9) (Zd (YA Tryz.func57 (by kernel_rfl) a6f) (Zd (YA Tryz.func50 (by kernel_rfl) Jf) Zm))))) ZU Tryz.func43 (by kernel_rfl) (by kernel_rfl) (by kernel_rfl) LD
end Go.Proofs.YtjfgiaooglnomaaGreatDoor
namespace Go.Proofs.YtjfgiaooglnomaaGreatDoor
open Go.Pl
open Enc (enc dec is)
open EncL (encL decL isL)
set_option maxRecDepth 100000
theorem a6s:Zx Tryz.prog 106 (fun x:List Int×List Int×Unit=>Zr x.1) (fun x:List Int×List Int×Unit=>decide (x.1=x.2.1)):=Zx.of (T:=Ht) (ic:=KD) (rs:=Km) Zm ZU Tryz.func106 (by kernel_rfl) (by kernel_rfl) (by kernel_rfl) b3u
theorem a6v:Zx Tryz.prog 136 (fun x:List (List Int)×List (List Int)×FnV 106×Unit=>Zr x.1&&x.1.all Zr) (fun x:List (List Int)×List (List Int)×FnV 106×Unit=>decide (x.1=x.2.1)):=Zx.of (T:=Ku) (ic:=Qo) (rs:=Qa) (Zd (YA Tryz.func106 (by kernel_rfl) a6s) Zm) ZU Tryz.func136 (by kernel_rfl) (by kernel_rfl) (by kernel_rfl) a4x
theorem a1n:Zx Tryz.prog 67 (fun x:BoxT×List Fact×List Fact×Unit=>ZH x.1&&Zf x.2.1&&decide (x.2.1.length<=100)&&Zf x.2.2.1&&decide (x.2.2.1.length<=100)&&decide (x.1.v.length<=1000)) (fun x:BoxT×List Fact×List Fact×Unit=>decide ((Zo x.1 x.2.1).2=0)&&decide ((Zo x.1 x.2.2.1).2=0)&&decide ((Zo x.1 x.2.1).1=(Zo x.1 x.2.2.1).1)):=Zx.of (T:=Dw) (ic:=Hq) (rs:=Ho) (Zd (YA Tryz.func45 (by kernel_rfl) Da) (Zd (YA Tryz.func136 (by kernel_rfl) a6v) Zm)) ZU Tryz.func67 (by kernel_rfl) (by kernel_rfl) (by kernel_rfl) F3
theorem Ny:Zx Tryz.prog 68 (fun x:BoxT×List Fact×List Fact×Unit=>ZH x.1&&Zf x.2.1&&decide (x.2.1.length<=100)&&Zf x.2.2.1&&decide (x.2.2.1.length<=100)&&decide (x.1.v.length<=1000)) (fun x:BoxT×List Fact×List Fact×Unit=>decide ((Zo x.1 x.2.1).2=0)&&decide ((Zo x.1 x.2.2.1).2=0)&&decide ((Zo x.1 x.2.1).1=(Zo x.1 x.2.2.1).1)):=Zx.of (T:=Vo) (ic:=Vh) (rs:=Ww) (Zd (YA Tryz.func46 (by kernel_rfl) AA) (Zd (YA Tryz.func54 (by kernel_rfl) CL) Zm)) ZU Tryz.func68 (by kernel_rfl) (by kernel_rfl) (by kernel_rfl) Lr
theorem a8b:Zx Tryz.prog 13 (fun x:BoxT×List Fact×List Fact×Unit=>ZH x.1&&YJ x.2.1&&YJ x.2.2.1) (fun _:BoxT×List Fact×List Fact×Unit=>true):=Zx.of (T:=SQ) (ic:=DI) (rs:=DW) (Zd (YA Tryz.func43 (by kernel_rfl) Fq) (Zd (YA Tryz.func44 (by kernel_rfl) Fe) (Zd (YA Tryz.func67 (by kernel_rfl) a1n) (Zd (YA Tryz.func68 (by kernel_rfl) Ny) Zm)))) ZU Tryz.func13 (by kernel_rfl) (by kernel_rfl) (by kernel_rfl) EO
end Go.Proofs.YtjfgiaooglnomaaGreatDoor
namespace Go.Proofs.YtjfgiaooglnomaaGreatDoor
open Go.Pl
open Enc (enc dec is)
open EncL (encL decL isL)
set_option maxRecDepth 100000
theorem Pp:Tryz.prog.underlying 3=some (.int .i64):=by kernel_rfl
theorem c1u:Tryz.prog.underlying 4=some .bool:=by kernel_rfl
theorem a4g:Tryz.prog.underlying 9=some .string:=by kernel_rfl
theorem b3v:Tryz.prog.underlying 22=some (.slice 61):=by kernel_rfl
theorem b2t:Tryz.prog.underlying 52=some (.slice 100):=by kernel_rfl
theorem NI:Tryz.prog.cellsOf 3=1:=by kernel_rfl
theorem c0k:Tryz.prog.cellsOf 4=1:=by kernel_rfl
theorem a2s:Tryz.prog.cellsOf 9=1:=by kernel_rfl
theorem b4g:Tryz.prog.cellsOf 22=1:=by kernel_rfl
theorem Fh:Tryz.prog.cellsOf 61=2:=by kernel_rfl
theorem Fz:Tryz.prog.cellsOf 24=2:=by kernel_rfl
theorem MS:Tryz.prog.cellsOf 100=3:=by kernel_rfl
theorem c9a:XG Tryz.prog 61=true:=by kernel_rfl
theorem c6y:XG Tryz.prog 100=true:=by kernel_rfl
theorem c7q:XG Tryz.prog 52=false:=by kernel_rfl
theorem b7s:QB Tryz.prog 61=some [(0,9),(1,3)]:=by kernel_rfl
theorem b5f:QB Tryz.prog 24=some [(0,3),(1,22)]:=by kernel_rfl
theorem b1g:QB Tryz.prog 100=some [(0,4),(1,24)]:=by kernel_rfl
theorem CV{α:Type}[Enc α]{P:α->Prop}{f:List PV->PV}: ∀ {qs:List (List PV)},(∀ q∈qs,∃ a:α,f q=enc a∧P a)-> ∃ l:List α,qs.map f=l.map enc∧ ∀ a∈l,P a
 | [],_=>⟨[],rfl,fun a h=>by cases h⟩
 | q::qs,h=>by
  obtain⟨a,h1,h2⟩:=h q (by simp)
  obtain⟨l,h3,h4⟩:=CV (qs:=qs) fun r hr=>h r (by simp[hr])
  refine⟨a::l,by rw[List.map_cons,List.map_cons,h1,h3],fun b hb=> ?_⟩
  rcases List.mem_cons.1 hb with rfl|hb
  ·exact h2
  ·exact h4 b hb
theorem Ae{α:Type}[Enc α]{f:List PV->PV}{qs:List (List PV)}{l:List α}(h:qs.map f=l.map enc):l.length=qs.length:=by
 have:=congrArg List.length h
 simpa using this.symm
theorem c1k{n:Nat}{q:List PV}(h:UF Tryz.prog n 61 q): ∃ t:Coef,KP Tryz.prog 61 q=enc t∧True:=by
 obtain⟨m,_,hl,h0,h1,_⟩:=K4 b7s Fh h
 match q,hl with
 | [a,b],_=>
  rw[a2s]at h0
  rw[NI]at h1
  obtain⟨o,e0,w0⟩:=b1b a4g h0
  obtain⟨k,e1,w1⟩:=Fy Pp h1
  simp at e0 e1
  subst e0 e1
  exact⟨⟨⟨o⟩,k⟩,by rw[KP,c9a];rfl,trivial⟩
theorem c0i{n:Nat}{q:List PV}(h:UF Tryz.prog n 22 q): ∃ l:List Coef,q=[enc l]∧l.length<=9223372036854775807:=by
 obtain⟨m,_,qs,rfl,hl,hq⟩:=Al b3v Fh h
 obtain⟨l,e,_⟩:=CV (α:=Coef) (P:=fun _=>True) (f:=KP Tryz.prog 61) fun x hx=>c1k (hq x hx).2
 have hl:qs.length<=9223372036854775807:=hl
 exact⟨l,by rw[e];rfl,by rw[Ae e];exact hl⟩
theorem c1r{n:Nat}{a b:PV}(h:UF Tryz.prog n 24 [a,b]): ∃ l:Lin,a=enc l.k∧b=enc l.t∧YF l=true:=by
 obtain⟨m,_,hl,h0,h1,_⟩:=K4 b5f Fz h
 rw[NI]at h0
 rw[b4g]at h1
 obtain⟨o,e0,w0⟩:=Fy Pp h0
 obtain⟨t,e1,l1⟩:=c0i h1
 simp at e0 e1
 subst e0 e1
 exact⟨⟨o,t⟩,rfl,rfl,by simp only[YF];exact decide_eq_true l1⟩
theorem a7q{n:Nat}{q:List PV}(h:UF Tryz.prog n 100 q): ∃ f:Fact,KP Tryz.prog 100 q=enc f∧YF f.l=true:=by
 obtain⟨m,_,hl,h0,h1,_⟩:=K4 b1g MS h
 match q,hl with
 | [a,b,c],_=>
  rw[c0k]at h0
  rw[Fz]at h1
  obtain⟨o,e0⟩:=a5i c1u h0
  obtain⟨l,e1,e2,h2⟩:=c1r (a:=b) (b:=c) h1
  simp at e0
  subst e0 e1 e2
  exact⟨⟨o,l⟩,by rw[KP,c6y];rfl,h2⟩
theorem EJ{n:Nat}{q:List PV}(h:UF Tryz.prog n 52 q): ∃ l:List Fact,KP Tryz.prog 52 q=enc l∧l.length<=9223372036854775807∧ ∀ f∈l,YF f.l=true:=by
 obtain⟨m,_,qs,rfl,hl,hq⟩:=Al b2t MS h
 obtain⟨l,e,hk⟩:=CV (α:=Fact) (P:=fun f=>YF f.l=true) (f:=KP Tryz.prog 100) fun x hx=>a7q (hq x hx).2
 have hl:qs.length<=9223372036854775807:=hl
 exact⟨l,by rw[KP,c7q,e];rfl,by rw[Ae e];exact hl,hk⟩
end Go.Proofs.YtjfgiaooglnomaaGreatDoor
namespace Go.Pl
open Go.RowKit Go.WideShapes Go.ChangeShapes
def Y8(P:Program):Nat->TypeId->List PV->Prop
 | 0,_,_=>False
 | n+1,t,ps=>match P.underlying t with
  | some .bool=> ∃ b,ps=[.bool b]
  | some (.int k)=> ∃ m,ps=[.int k m]∧(Lit.int k m).wf=true
  | some .string=> ∃ s:List UInt8,ps=[.str s]∧s.length<=reachBytes
  | some (.slice e)=> ∃ qs:List (List PV),ps=[.sl (P.cellsOf e) false (qs.map (KP P e))]∧qs.length*P.bytesOf e<=reachBytes∧qs.length<=maxLen∧ ∀ q∈qs,q.length=P.cellsOf e∧Y8 P n e q
  | some (.struct fs)=>ps.length=P.cellsOf t∧ ∀ f∈fs.toList,Y8 P n f.type ((ps.drop f.offset).take (P.cellsOf f.type))
  | some (.array m e)=>ps.length=P.cellsOf t∧ ∀ i<m,Y8 P n e ((ps.drop (i*P.cellsOf e)).take (P.cellsOf e))
  | _=>False
theorem Tg{P:Program}: ∀ (n:Nat) (t:TypeId) (ps:List PV),Y8 P n t ps->UF P n t ps:=by
 intro n
 induction n with
 | zero=>intro t ps h;exact h
 | succ n ih=>
  intro t ps h
  unfold Y8 at h
  unfold UF
  split at h <;> (try rename_i hu) <;> (try simp only[hu]) <;> try (exact h.elim)
  ·exact h
  ·exact h
  ·obtain⟨s,h1,h2⟩:=h
   exact⟨s,h1,Nat.le_trans h2 (by decide)⟩
  ·obtain⟨qs,h1,h2,h3,h4⟩:=h
   exact⟨qs,h1,h3,fun q hq=>⟨(h4 q hq).1,ih _ _ (h4 q hq).2⟩⟩
  ·exact⟨h.1,fun f hf=>ih _ _ (h.2 f hf)⟩
  ·exact⟨h.1,fun i hi=>ih _ _ (h.2 i hi)⟩
def wok{H:Type}(P:Program)(t:TypeId)(d:DataW H):Prop:= ∀ n∈d.weights P t,n<=reachBytes
theorem PK{H:Type}{P:Program}{e:TypeId}: ∀ {l:List (DataW H)},(∀ n∈DataW.weightsAll P e l,n<=reachBytes)-> ∀ d∈l,wok P e d
 | [],_,d,h=>by cases h
 | d::l,hw,x,h=>by
  have h1:DataW.weightsAll P e (d::l)=d.weights P e++DataW.weightsAll P e l:=by rw[DataW.weightsAll]
  rw[h1]at hw
  rcases List.mem_cons.1 h with rfl|h
  ·exact fun n hn=>hw n (List.mem_append_left _ hn)
  ·exact PK (fun n hn=>hw n (List.mem_append_right _ hn)) x h
section
variable {H:Type} {enc:TypeId×Value->H} {P:Program} {w:World} {base:Nat} {sp:Nat->Bool} {held:Bool} {S:List TypeId}
theorem ND{n:Nat}{cs:List Value}(ih : ∀ (t:TypeId) (cs:List Value) (x:DataW H×List MemPlace),t∈S->DataW.trod enc P w base sp held n t cs=some x->wok P t x.1-> ∃ ps,Cl w cs ps∧Y8 P n t ps):
  ∀ (fs:List Field) (o N:Nat) (xs:List (DataW H×List MemPlace)),Kt P o fs N=true->(∀ f∈fs,f.type∈S)->cs.length=N->o<=N ->
   fs.mapM (fun f=>DataW.trod enc P w base sp held n f.type ((cs.drop f.offset).take (P.cellsOf f.type)))=some xs->(∀ k∈DataW.weightsEach P (fs.map (·.type)) (xs.map (·.1)),k<=reachBytes) ->
   ∃ ps,Cl w (cs.drop o) ps∧ ∀ qs:List PV,qs.length=o-> ∀ f∈fs,Y8 P n f.type (((qs++ps).drop f.offset).take (P.cellsOf f.type)):=by
 intro fs
 induction fs with
 | nil=>
  intro o N xs hc _ hl ho _ _
  simp[Kt]at hc
  refine⟨[],?_,fun qs _ f hf=>by simp at hf⟩
  rw[List.drop_of_length_le (by omega)]
  exact Cl.nil
 | cons f fs ihf=>
  intro o N xs hc hm hl ho h hW
  simp only[Kt,Bool.and_eq_true,beq_iff_eq]at hc
  obtain⟨hfo,hc⟩:=hc
  simp only[List.mapM_cons,Option.bind_eq_bind,Option.bind_eq_some_iff]at h
  obtain⟨x,hx,xs',hxs,e⟩:=h
  cases e
  have hE:DataW.weightsEach P ((f::fs).map (·.type)) ((x::xs').map (·.1))=x.1.weights P f.type++DataW.weightsEach P (fs.map (·.type)) (xs'.map (·.1)):=by rw[List.map_cons,List.map_cons,DataW.weightsEach]
  rw[hE]at hW
  obtain⟨p1,k1,k2⟩:=ih _ _ x (hm f List.mem_cons_self) hx (fun k hk=>hW k (List.mem_append_left _ hk))
  have hle:o+P.cellsOf f.type<=N:=by
   have : ∀ (fs:List Field) (a:Nat),Kt P a fs N=true->a<=N:=by
    intro fs
    induction fs with
    | nil=>intro a h;simp[Kt]at h;omega
    | cons g fs ih=>intro a h;simp only[Kt,Bool.and_eq_true]at h;have:=ih _ h.2;omega
   exact this _ _ hc
  obtain⟨p2,k3,k4⟩:=ihf (o+P.cellsOf f.type) N xs' hc (fun g hg=>hm g (List.mem_cons_of_mem _ hg)) hl hle hxs (fun k hk=>hW k (List.mem_append_right _ hk))
  have hp1:p1.length=P.cellsOf f.type:=by
   rw[<- k1.1.1,List.length_take,List.length_drop,hfo]
   omega
  refine⟨p1++p2,?_,fun qs hq g hg=> ?_⟩
  ·have:=k1.append k3
   rw[hfo]at this
   have e:cs.drop o=(cs.drop o).take (P.cellsOf f.type)++cs.drop (o+P.cellsOf f.type):=by rw[<- List.drop_drop,List.take_append_drop]
   rw[e]
   exact this
  ·rcases List.mem_cons.1 hg with rfl|hg
   ·rw[hfo,<- hq,List.drop_left,<- hp1,List.take_left]
    exact k2
   ·have:=k4 (qs++p1) (by simp[hq,hp1]) g hg
    rwa [List.append_assoc]at this
theorem NZ{n m sz:Nat}{e:TypeId}(he:P.cellsOf e=sz){cs:List Value}(ih : ∀ i,i<m-> ∃ ps,Cl w ((cs.drop (i*sz)).take sz) ps∧Y8 P n e ps)(hl:cs.length=m*sz):
  ∃ ps,Cl w cs ps∧ ∀ i<m,Y8 P n e ((ps.drop (i*sz)).take sz):=by
 induction m generalizing cs with
 | zero=>
  have:cs=[]:=List.length_eq_zero_iff.1 (by omega)
  subst this
  exact⟨[],Cl.nil,fun i h=>by omega⟩
 | succ m ihm=>
  obtain⟨p1,k1,k2⟩:=ih 0 (by omega)
  simp only[Nat.zero_mul,List.drop_zero]at k1
  have hl1:p1.length=sz:=by
   rw[<- k1.1.1,List.length_take,hl,Nat.succ_mul]
   omega
  obtain⟨p2,k3,k4⟩:=ihm (cs:=cs.drop sz) (fun i hi=>by
   have:=ih (i+1) (by omega)
   rwa [Nat.succ_mul,Nat.add_comm,<- List.drop_drop]at this) (by rw[List.length_drop,hl,Nat.succ_mul];omega)
  refine⟨p1++p2,by have:=k1.append k3;rwa [List.take_append_drop]at this,fun i hi=> ?_⟩
  cases i with
  | zero=>
   simp only[Nat.zero_mul,List.drop_zero]
   rw[<- hl1,List.take_left]
   exact k2
  | succ i=>
   have:=k4 i (by omega)
   have e2:(p1++p2).drop ((i+1)*sz)=p2.drop (i*sz):=by
    rw[Nat.succ_mul,Nat.add_comm,<- List.drop_drop]
    congr 1
    rw[<- hl1,List.drop_left]
   rwa [e2]
theorem Og{n:Nat}{e:TypeId}{a:Addr}{len cap:Nat}{xs:List (DataW H×List MemPlace)}(hsz:0<P.cellsOf e)(hag:XG P e=true∨P.cellsOf e=1)(hcap:len<=cap)(hmax:cap<=maxLen)
  (ih : ∀ (cs:List Value) (x:DataW H×List MemPlace),DataW.trod enc P w base sp held n e cs=some x->wok P e x.1-> ∃ ps,Cl w cs ps∧Y8 P n e ps)
  (h:(List.range len).mapM (fun i=>(w.cells? base (a.add (i*P.cellsOf e)) (P.cellsOf e)).bind (DataW.trod enc P w base sp held n e))=some xs) (hW : ∀ x∈xs,wok P e x.1) (hB:xs.length*P.bytesOf e<=reachBytes) :
  ∃ qs:List (List PV),RP (Tn w) (.slice (some a) len cap) (.sl (P.cellsOf e) false (qs.map (KP P e)))∧qs.length*P.bytesOf e<=reachBytes∧qs.length<=maxLen∧ ∀ q∈qs,q.length=P.cellsOf e∧Y8 P n e q:=by
 obtain⟨hl,hg⟩:=BQ h
 rw[List.length_range]at hl
 have key : ∀ i,i<len-> ∃ q:List PV,(q.length=P.cellsOf e∧Y8 P n e q)∧ ∀ (r:Nat) p,q[r]? = some p-> ∃ v,w.cell? (a.add (i*P.cellsOf e+r))=some v∧v.oneCell'=true∧RP (Tn w) v p:=by
  intro i hi
  have hx:=List.getElem?_eq_getElem (show i<xs.length by omega)
  have:=hg i i _ (by simp[hi]) hx
  rw[Option.bind_eq_some_iff]at this
  obtain⟨cs,h1,h2⟩:=this
  obtain⟨q,k1,k2⟩:=ih cs _ h2 (hW _ (List.getElem_mem _))
  obtain⟨c1,c2⟩:=a7k h1
  refine⟨q,⟨by rw[<- k1.1.1,c1],k2⟩,fun r p hp=> ?_⟩
  have hr:r<cs.length:=by rw[k1.1.1];exact(List.getElem?_eq_some_iff.1 hp).1
  have hv:=List.getElem?_eq_getElem hr
  refine⟨_,?_,k1.2 _ (List.getElem_mem hr),k1.1.2 r _ p hv hp⟩
  rw[<- a8h]
  exact c2 r _ hv
 obtain⟨qs,hq1,hq2⟩:=MJ len key
 have hcells : ∀ q∈qs,(KP P e q).cells=q:=by
  intro q hq
  obtain⟨i,hi,rfl⟩:=List.getElem_of_mem hq
  have:=(hq2 i _ (List.getElem?_eq_getElem hi)).1
  exact a6q hag this.1 fun ha=>b1f (Tg _ _ _ this.2) ha
 refine⟨qs,?_,by rw[hq1,<- hl];exact hB,by omega,fun q hq=> ?_⟩
 ·by_cases h0:len=0
  ·subst h0
   have:qs=[]:=List.length_eq_zero_iff.1 hq1
   subst this
   exact .sl0 _ _ _ _ fun e=>by cases e
  ·-- the first cell tells the block
   obtain⟨b,off,cs,rfl,hb,-⟩ : ∃ b off cs,a=⟨b,off,none⟩∧Tn w b=some cs∧True:=by
    have hq0:=List.getElem?_eq_getElem (show 0<qs.length by omega)
    obtain⟨⟨f1,f2⟩,f3⟩:=hq2 0 _ hq0
    have hp:=List.getElem?_eq_getElem (show 0<(qs[0]'(by omega)).length by omega)
    obtain⟨v,hv,_⟩:=f3 0 _ hp
    simp[Addr.add]at hv
    obtain⟨b,off,cs,e1,e2,_⟩:=Rb hv
    exact⟨b,off,cs,e1,e2,trivial⟩
   have hs : ∀ x∈qs.map (KP P e),x.cells.length=P.cellsOf e:=by
    intro x hx
    obtain⟨q,hq,rfl⟩:=List.mem_map.1 hx
    rw[hcells q hq]
    obtain⟨i,hi,rfl⟩:=List.getElem_of_mem hq
    exact(hq2 i _ (List.getElem?_eq_getElem hi)).1.1
   have hat : ∀ (j:Nat) p,(flat (qs.map (KP P e)))[j]? = some p-> ∃ v,cs[off+j]? = some v∧v.oneCell'=true∧RP (Tn w) v p:=by
    intro j p hp
    have hj:j<len*P.cellsOf e:=by
     have:=(List.getElem?_eq_some_iff.1 hp).1
     rw[Vp hs]at this
     simpa [hq1]using this
    have hi:j / P.cellsOf e<qs.length:=by rw[hq1];exact(Nat.div_lt_iff_lt_mul hsz).2 hj
    have hr:j % P.cellsOf e<P.cellsOf e:=Nat.mod_lt _ hsz
    have hqi:=List.getElem?_eq_getElem hi
    have e0:j=j / P.cellsOf e*P.cellsOf e+j % P.cellsOf e:=by rw[Nat.mul_comm];exact(Nat.div_add_mod _ _).symm
    have hxi:(qs.map (KP P e))[j / P.cellsOf e]? = some (KP P e qs[j / P.cellsOf e]):=by rw[List.getElem?_map,hqi];rfl
    have hfg:=MX hs hxi hr
    rw[<- e0,hcells _ (List.getElem_mem hi)]at hfg
    rw[hfg]at hp
    obtain⟨v,hv,h1,h2⟩:=(hq2 _ _ hqi).2 _ p hp
    rw[<- e0,Wm]at hv
    obtain⟨b',off',cs',e1,e2,e3⟩:=Rb hv
    cases e1
    rw[hb]at e2
    cases e2
    exact⟨v,e3,h1,h2⟩
   have hlen:len=(qs.map (KP P e)).length:=by simp[hq1]
   rw[hlen]
   refine .sl b off cs cap _ false _ (fun j=>(cs[off+j]?).getD default) hb (by rw[<- hlen];exact hcap) (fun e=>by cases e) hs (fun j p hp=> ?_) (fun j p hp=> ?_)
   ·obtain⟨v,h1,h2,h3⟩:=hat j p hp
    rw[h1]
    exact⟨rfl,h2⟩
   ·obtain⟨v,h1,h2,h3⟩:=hat j p hp
    rw[h1]
    exact h3
 ·obtain⟨i,hi,rfl⟩:=List.getElem_of_mem hq
  exact(hq2 i _ (List.getElem?_eq_getElem hi)).1
theorem a0w(hS:NK P S=true): ∀ (n:Nat) (t:TypeId) (cs:List Value) (x:DataW H×List MemPlace),t∈S->DataW.trod enc P w base sp held n t cs=some x->wok P t x.1-> ∃ ps,Cl w cs ps∧Y8 P n t ps:=by
  intro n
  induction n with
  | zero=>intro t cs x _ h _;simp[DataW.trod]at h
  | succ n ih=>
    intro t cs x ht h hW
    have hp:=Pn hS ht
    unfold DataW.trod at h
    unfold Y8
    split at h <;> (try rename_i hu) <;> (try simp only[hu]at hp ⊢) <;> try (cases hp;done)
    all_goals first
      | (exact⟨_,Cl.one (.bool _) rfl,_,rfl⟩)
      | (split at h
         · rename_i hc
           obtain⟨rfl,hw⟩:=hc
           exact⟨_,Cl.one (.int _ _) rfl,_,rfl,hw⟩
         · cases h)
      | (split at h
         · rename_i hc
           cases h
           exact⟨_,Cl.one (.str _) rfl,_,rfl,hW _ (by rw[DataW.weights];exact List.mem_singleton.2 rfl)⟩
         · cases h)
      | (cases h;done)
      | skip
    · exact⟨_,Cl.one (.sl0 _ _ _ false (fun e=>by cases e)) rfl,[],rfl,by simp,by simp,fun q hq=>by simp at hq⟩
    · rename_i e a len cap
      simp only[Bool.and_eq_true,Bool.or_eq_true,beq_iff_eq,decide_eq_true_eq]at hp
      simp only at h
      split at h
      · rename_i hc
        obtain⟨xs,h1,h3⟩:=Option.bind_eq_some_iff.1 h
        obtain⟨ys,h4,rfl⟩:=Option.map_eq_some_iff.1 h3
        have hE:DataW.weights P t (DataW.slice (xs.map (·.1)) (ys.map (·.1)):DataW H)=((xs.map (·.1)).length+(ys.map (·.1)).length)*P.bytesOf e::(DataW.weightsAll P e (xs.map (·.1))++DataW.weightsAll P e (ys.map (·.1))):=by
          rw[DataW.weights];simp only[hu]
        have hW' : ∀ k∈((xs.map (·.1)).length+(ys.map (·.1)).length)*P.bytesOf e::(DataW.weightsAll P e (xs.map (·.1))++DataW.weightsAll P e (ys.map (·.1))),k<=reachBytes:=by rw[<- hE];exact hW
        have hB:xs.length*P.bytesOf e<=reachBytes:=by
          have h5:=hW' _ List.mem_cons_self
          rw[List.length_map,List.length_map]at h5
          exact Nat.le_trans (Nat.mul_le_mul_right _ (Nat.le_add_right _ _)) h5
        have hA : ∀ x∈xs,wok P e x.1:=fun x hx=>PK (fun k hk=>hW' k (List.mem_cons_of_mem _ (List.mem_append_left _ hk))) x.1 (List.mem_map.2 ⟨x,hx,rfl⟩)
        obtain⟨qs,k1,k2,k2',k3⟩:=Og hp.1.2 hp.2 hc.2.1 hc.2.2 (fun cs x hx hw=>ih e cs x (by simpa using hp.1.1.2) hx hw) h1 hA hB
        exact⟨_,Cl.one k1 rfl,qs,rfl,k2,k2',k3⟩
      · cases h
    · rename_i cs2 fs
      simp only[Bool.and_eq_true]at hp
      split at h
      · rename_i hc
        rw[Option.map_eq_some_iff]at h
        obtain⟨xs,h1,rfl⟩:=h
        have hE:DataW.weights P t (DataW.agg (xs.map (·.1)):DataW H)=DataW.weightsEach P (fs.toList.map (·.type)) (xs.map (·.1)):=by
          rw[DataW.weights];simp only[hu]
        have hW' : ∀ k∈DataW.weightsEach P (fs.toList.map (·.type)) (xs.map (·.1)),k<=reachBytes:=by rw[<- hE];exact hW
        obtain⟨ps,k1,k2⟩:=ND ih fs.toList 0 (P.cellsOf t) xs hp.1 (fun f hf=>by simpa using List.all_eq_true.1 hp.2 f hf) hc (Nat.zero_le _) h1 hW'
        rw[List.drop_zero]at k1
        exact⟨ps,k1,by rw[<- k1.1.1,hc],fun f hf=>by simpa using k2 [] rfl f hf⟩
      · cases h
    · rename_i cs1 _ cs2 m e
      simp only[Bool.and_eq_true,beq_iff_eq]at hp
      split at h
      · rename_i hc
        rw[Option.map_eq_some_iff]at h
        obtain⟨xs,h1,rfl⟩:=h
        have hE:DataW.weights P t (DataW.agg (xs.map (·.1)):DataW H)=DataW.weightsAll P e (xs.map (·.1)):=by
          rw[DataW.weights];simp only[hu]
        have hW' : ∀ k∈DataW.weightsAll P e (xs.map (·.1)),k<=reachBytes:=by rw[<- hE];exact hW
        obtain⟨hl,hg⟩:=BQ h1
        rw[List.length_range]at hl
        obtain⟨ps,k1,k2⟩:=NZ (n:=n) (m:=m) (e:=e) rfl (cs:=cs1) (fun i hi=>by
          have hx:=List.getElem?_eq_getElem (show i<xs.length by omega)
          exact ih e _ _ (by simpa using hp.1) (hg i i _ (by simp[hi]) hx) (PK hW' _ (List.mem_map.2 ⟨_,List.getElem_mem (show i<xs.length by omega),rfl⟩))) (by rw[hc,hp.2])
        exact⟨ps,k1,by rw[<- k1.1.1,hc],k2⟩
      · cases h
theorem Ce(hS:NK P S=true){t:TypeId}(ht:t∈S){r:Reach}{b0:Nat}{v:Value}{d:DataW H}{p:List MemPlace}(hval:Value.okWide P w r b0 t v)(h:DataW.Trod enc P w base sp held t v d p)(hW:wok P t d):
  ∃ n q,RP (Tn w) v (KP P t q)∧Y8 P n t q:=by
 obtain⟨n,h⟩:=h
 obtain⟨q,k1,k2⟩:=a0w hS n t _ _ ht h hW
 refine⟨n,q,?_,k2⟩
 have hp:=Pn hS ht
 have scal:v.cells = #[v]->XG P t=false->RP (Tn w) v (KP P t q):=by
  intro hc ha
  rw[hc]at k1
  have hl:=k1.1.1
  match q,hl with
  | [x],_=>simp only[KP,ha,List.headD_cons];exact k1.1.2 0 v x rfl rfl
 have agg : ∀ cs,v = .agg cs->XG P t=true->RP (Tn w) v (KP P t q):=by
  rintro cs rfl ha
  simp only[KP,ha]
  exact .agg cs q (by have:=k1.1.1;simpa [Value.cells]using this) (fun x hx=>k1.2 x (by simpa [Value.cells]using hx)) fun j x y hx hy=>k1.1.2 j x y (by simpa [Value.cells]using hx) hy
 split at hp
 ·rename_i hu
  obtain⟨b,rfl⟩:=okWide_bool hu hval
  exact scal rfl (by simp[XG,hu])
 ·rename_i hu
  obtain⟨b,rfl⟩:=okWide_int hu hval
  exact scal rfl (by simp[XG,hu])
 ·rename_i hu
  obtain⟨b,rfl⟩:=okWide_string hu hval
  exact scal rfl (by simp[XG,hu])
 ·rename_i hu
  obtain⟨a,l,c,rfl⟩:=okWide_slice hu hval
  exact scal rfl (by simp[XG,hu])
 ·rename_i hu
  simp only[Value.okWide,hu]at hval
  obtain⟨cs,rfl,_⟩:=hval
  exact agg cs rfl (by simp[XG,hu])
 ·rename_i hu
  simp only[Value.okWide,hu]at hval
  obtain⟨cs,rfl,_⟩:=hval
  exact agg cs rfl (by simp[XG,hu])
 ·cases hp
end
section
variable {P:Program}
def b8g(P:Program)(n:Nat)(q:List PV):List (Nat×TypeId)->Prop
 | []=>True
 | (o,t)::r=>Y8 P n t ((q.drop o).take (P.cellsOf t))∧b8g P n q r
theorem NS{n c:Nat}{t:TypeId}{q:List PV}{l:List (Nat×TypeId)}(hs:QB P t=some l)(hc:P.cellsOf t=c)(h:Y8 P n t q): ∃ m,n=m+1∧q.length=c∧b8g P m q l:=by
 cases n with
 | zero=>exact h.elim
 | succ m=>
  unfold QB at hs
  split at hs
  ·rename_i fs hu
   cases hs
   simp only[Y8,hu]at h
   refine⟨m,rfl,by rw[h.1,hc],?_⟩
   have key : ∀ l:List Field,(∀ f∈l,Y8 P m f.type ((q.drop f.offset).take (P.cellsOf f.type)))->b8g P m q (l.map fun f=>(f.offset,f.type)):=by
    intro l
    induction l with
    | nil=>intro _;trivial
    | cons f l ih=>intro h;exact⟨h f List.mem_cons_self,ih fun g hg=>h g (List.mem_cons_of_mem _ hg)⟩
   exact key _ h.2
  ·cases hs
theorem a7r{n:Nat}{t:TypeId}{k:IntKind}{q:List PV}(hu:P.underlying t=some (.int k))(h:Y8 P n t q): ∃ m,q=[.int k m]∧(Lit.int k m).wf=true:=by
 cases n with
 | zero=>exact h.elim
 | succ m=>simpa only[Y8,hu]using h
theorem a9g{n:Nat}{t:TypeId}{q:List PV}(hu:P.underlying t=some .string)(h:Y8 P n t q): ∃ s:List UInt8,q=[.str s]∧s.length<=reachBytes:=by
 cases n with
 | zero=>exact h.elim
 | succ m=>simpa only[Y8,hu]using h
theorem Fv{n c:Nat}{t e:TypeId}{q:List PV}(hu:P.underlying t=some (.slice e))(hc:P.cellsOf e=c)(h:Y8 P n t q): ∃ m,n=m+1∧ ∃ qs:List (List PV),q=[.sl c false (qs.map (KP P e))]∧qs.length*P.bytesOf e<=reachBytes∧qs.length<=maxLen∧ ∀ x∈qs,x.length=c∧Y8 P m e x:=by
 cases n with
 | zero=>exact h.elim
 | succ m=>
  subst hc
  simp only[Y8,hu]at h
  exact⟨m,rfl,h⟩
end
end Go.Pl
namespace Go.Proofs.YtjfgiaooglnomaaGreatDoor
open Go.Pl
open Enc (enc dec is)
open EncL (encL decL isL)
set_option maxRecDepth 100000
theorem Dz{H:Type}{P:Program}{t:TypeId}{ts:List TypeId}{d:DataW H}{ds:List (DataW H)}(h:(DataW.weightsEach P (t::ts) (d::ds)).all (· <= reachBytes)=true):wok P t d∧(DataW.weightsEach P ts ds).all (· <= reachBytes)=true:=by
 have e:DataW.weightsEach P (t::ts) (d::ds)=d.weights P t++DataW.weightsEach P ts ds:=by rw[DataW.weightsEach]
 rw[e,List.all_append,Bool.and_eq_true]at h
 exact⟨fun n hn=>of_decide_eq_true (List.all_eq_true.1 h.1 n hn),h.2⟩
theorem b7v:Tryz.prog.underlying 76=some (.slice 9):=by kernel_rfl
theorem b2f:Tryz.prog.cellsOf 76=1:=by kernel_rfl
theorem d0c:XG Tryz.prog 9=false:=by kernel_rfl
theorem c9p:XG Tryz.prog 78=true:=by kernel_rfl
theorem b8b:Tryz.prog.cellsOf 78=2:=by kernel_rfl
theorem b6v:QB Tryz.prog 78=some [(0,76),(1,3)]:=by kernel_rfl
theorem c1n{n:Nat}{q:List PV}(h:Y8 Tryz.prog n 9 q): ∃ s:Str,KP Tryz.prog 9 q=enc s∧s.s.length<=281474976710656:=by
 obtain⟨s,rfl,hs⟩:=a9g a4g h
 exact⟨⟨s⟩,by rw[KP,d0c];rfl,Nat.le_trans hs (by decide)⟩
theorem b3b{n:Nat}{q:List PV}(h:Y8 Tryz.prog n 76 q): ∃ l:List Str,q=[enc l]∧XX l=true:=by
 obtain⟨m,_,qs,rfl,_,hl,hq⟩:=Fv b7v a2s h
 obtain⟨l,e,hk⟩:=CV (α:=Str) (P:=fun s=>s.s.length<=281474976710656) (f:=KP Tryz.prog 9) fun x hx=>c1n (hq x hx).2
 have hl:qs.length<=9223372036854775807:=hl
 refine⟨l,by rw[e];rfl,?_⟩
 unfold XX
 rw[Bool.and_eq_true]
 exact⟨ZF.2 (by rw[Ae e];exact hl),List.all_eq_true.2 fun s hs=>decide_eq_true (hk s hs)⟩
theorem b6x{n:Nat}{q:List PV}(h:Y8 Tryz.prog n 78 q): ∃ b:BoxT,KP Tryz.prog 78 q=enc b∧ZH b=true:=by
 obtain⟨m,_,hl,h0,h1,_⟩:=NS b6v b8b h
 match q,hl with
 | [a,b],_=>
  rw[b2f]at h0
  rw[NI]at h1
  obtain⟨v,e0,w0⟩:=b3b h0
  obtain⟨k,e1,w1⟩:=a7r Pp h1
  simp at e0 e1
  subst e0 e1
  exact⟨⟨v,k⟩,by rw[KP,c9p];rfl,w0⟩
theorem MM{n:Nat}{q:List PV}(h:Y8 Tryz.prog n 52 q): ∃ l:List Fact,KP Tryz.prog 52 q=enc l∧YJ l=true:=by
 obtain⟨l,e,h1,h2⟩:=EJ (Tg _ _ _ h)
 refine⟨l,e,?_⟩
 simp only[YJ,Bool.and_eq_true,decide_eq_true_eq,List.all_eq_true]
 exact⟨h1,h2⟩
theorem a5b{n0 n1 n2:Nat}{q0 q1 q2:List PV}(h0:Y8 Tryz.prog n0 78 q0)(h1:Y8 Tryz.prog n1 52 q1)(h2:Y8 Tryz.prog n2 52 q2):
  preT (fun x:BoxT×List Fact×List Fact×Unit=>ZH x.1&&YJ x.2.1&&YJ x.2.2.1) [KP Tryz.prog 78 q0,KP Tryz.prog 52 q1,KP Tryz.prog 52 q2]=true:=by
 obtain⟨b,e0,a0⟩:=b6x h0
 obtain⟨fs,e1,a1⟩:=MM h1
 obtain⟨gs,e2,a2⟩:=MM h2
 rw[e0,e1,e2]
 exact Zl (b,fs,gs,()) rfl (by show(ZH b&&YJ fs&&YJ gs)=true;rw[a0,a1,a2];rfl)
end Go.Proofs.YtjfgiaooglnomaaGreatDoor
