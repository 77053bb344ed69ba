/-
  Texts of mine that belong together (packed by pack.py), for every input: Post, PlGl, LaidY, Sh, ShB, OkCe, ShE, OkGa, OkN, OkR, Int10, Irp, VwS, VwT, OkGb, OkGl, OpY, PlGs, OpG.
-/
import Derived.Test.YtjfgiaooglnomaaGreatDoorChecked
import Derived.Test.YtjfgiaooglnomaaGreatDoorRows
import Derived.Test.YtjfgiaooglnomaaGreatDoorKB2
import Derived.Test.YtjfgiaooglnomaaGreatDoorKB3
import Derived.Test.YtjfgiaooglnomaaGreatDoorKB4
import Derived.Test.YtjfgiaooglnomaaGreatDoorKB5
import Derived.Below
import Derived.ChangeSame
import Derived.ChangeShapes
import Derived.ChangeSlices
import Derived.WideShapes
import Derived.RowKit
import Derived.Stop.LaidErr
import Derived.Lib.LaidTab
import Derived.Shelf.Strconv.AtoiAll
import Derived.Shelf.Strconv.Itoa3
import Derived.Shelf.Strings.Prefix
import Derived.Shelf.Sort.Plain
import Derived.Shelf.Small.Strs
import Derived.Shelf.Slices.In.SortNone
import Derived.KernelRfl
import Derived.Shelf.Slices.Clone
import Derived.Shelf.Slices.CompactS
import Derived.BigQuiet
import Derived.Calls
import Derived.Deep.AppendLies
import Derived.Deep.DeepCutAuto
import Derived.Deep.Draws
import Derived.Deep.QuietTactic
import Derived.Deep.RegionHeld3
import Derived.Deep.RegionWith
import Derived.IntWalk
import Derived.Laws.Bits64b
import Derived.Laws.Externs
import Derived.Laws.OwnMore
import Derived.Laws.Rows
import Derived.Lib.Hide
import Derived.Lib.Mul64
import Derived.Outline
import Derived.WalkKit
import Derived.WalkLawsBesides
import Derived.WalkSpells
import Derived.RangeFuncBox
import Derived.RangeFuncLeaves
import Derived.RangeFuncNested
import Derived.RangeFuncCalls
import Derived.Shelf.Abstract
import Derived.OwnWalkIn
import Derived.TacticsInMore
import Derived.LoopNIn
import Derived.LoopIn
import Derived.Maps.AppendAt
import Derived.Sort.LoopGhostIn
set_option linter.unusedVariables false
set_option linter.unusedSimpArgs false
namespace Go.Proofs.YtjfgiaooglnomaaGreatDoor
open Go.RowKit Go.WideShapes Go.ChangeShapes
section
variable {H:Type} {enc:TypeId×Value->H} {P:Program}
theorem Sy{f:Func}{s:ChangeSpec}{apart fresh handsOn again:Bool}{W W':World}{args:Array Value}{v:Value}{ds gs:List (DataW H)}{before pa pv:List MemPlace}
  (hW:DataW.Whole enc P f.params.toList s.vars apart W args.toList ds gs before)
  (hres : ∀ (b:Nat) (sp:Nat->Bool) (hd:Bool),DataW.TrodAll enc P W' b sp hd f.resultTypes.toList (v.resultList f.resultTypes.size) (s.fn H (ds++gs)).results [])
  (hargs : ∀ sp:Nat->Bool,(∀ p∈before,sp p.block=true)->DataW.TrodAll enc P W' 0 sp true f.params.toList args.toList (s.fn H (ds++gs)).args pa)
  (hvars : ∀ sp:Nat->Bool,(∀ p∈before,sp p.block=true)->DataW.TrodVars enc P W' sp s.vars (s.fn H (ds++gs)).vars pv)
  (hps:before=pa++pv) (hb:Below W.heap.size W W')
  (hok : ∀ (j:Nat) (t:TypeId) (r:Value),f.resultTypes[j]? = some t->(v.resultList f.resultTypes.size)[j]? = some r->Value.okWide P W' .any 0 t r) :
  s.post enc P f apart fresh handsOn again W args v W':=by
 have hlt : ∀ p∈before,p.block<W.heap.size:=fun p hp=>hW.lt p hp
 have hold : ∀ p∈before,(fun b=>decide (b<W.heap.size)) p.block=true:=fun p hp=>by simpa using hlt p hp
 refine⟨ds,gs,before,[],pa,pv,hW,hres _ _ _,hargs _ hold,hvars _ hold,World.keptBut_mono (fun p hp=>⟨hp,?_⟩) (hb.frame (· ∈ before)),fun _=> ?_⟩
 ·rw[hps,List.mem_append]at hp
  exact Or.inr hp
 ·obtain⟨_,_,_,_,_,hz,hn⟩:=hW
  refine⟨hok,_,_,([]++pa)++pv,⟨[]++pa,pv,trodAll_append (hargs _ (fun _ _=>rfl)) (hres _ _ _),hvars _ (fun _ _=>rfl),rfl,?_,?_⟩,?_⟩
  ·intro b off hp
   have hin:MemPlace.cell b off∈before:=by rw[hps];simpa using hp
   rw[hb.frozen (hlt _ hin)]
   exact hz b off hin
  ·intro ha
   have:=hn ha
   rw[hps]at this
   simpa using this
  ·intro p hp _
   rw[hps]
   simpa using hp
end
end Go.Proofs.YtjfgiaooglnomaaGreatDoor

namespace Go.Pl
open Go.RowKit Go.WideShapes Go.ChangeShapes
def Sl(w:World):ZW:=fun b=>match w.heap[b]? with|some (.cells cs _ _)=>some cs|_=>none
theorem c5x(w:World):YN (Sl w) w:=fun b cs h=>by
 unfold Sl at h
 split at h
 ·rename_i c T fz hb
  cases h
  exact⟨T,fz,hb⟩
 ·cases h
def Kn(P:Program)(e:TypeId)(ps:List PV):PV:=match Y7 P e with|true=>.agg ps|false=>ps.headD .nilp
def Ud(P:Program):Nat->TypeId->List PV->Prop
 | 0,_,_=>False
 | n+1,t,ps=>match P.underlying t with
  | some .bool=> ∃ b,ps=[.bool b]
  | some (.int k)=> ∃ m,ps=[.int k m]∧(Lit.int k m).wf=true
  | some .string=> ∃ s:List UInt8,ps=[.str s]∧s.length<=maxLen
  | some (.slice e)=> ∃ qs:List (List PV),ps=[.sl (P.cellsOf e) false (qs.map (Kn P e))]∧qs.length<=maxLen∧ ∀ q∈qs,q.length=P.cellsOf e∧Ud P n e q
  | some (.struct fs)=>ps.length=P.cellsOf t∧ ∀ f∈fs.toList,Ud P n f.type ((ps.drop f.offset).take (P.cellsOf f.type))
  | some (.array m e)=>ps.length=P.cellsOf t∧ ∀ i<m,Ud P n e ((ps.drop (i*P.cellsOf e)).take (P.cellsOf e))
  | _=>False
def Q8(P:Program):Nat->List Field->Nat->Bool
 | o,[],n=>o==n
 | o,f::fs,n=>f.offset==o&&Q8 P (o+P.cellsOf f.type) fs n
def Pf(P:Program)(S:List TypeId):Bool:=S.all fun t=>match P.underlying t with
 | some .bool|some (.int _)|some .string=>P.cellsOf t==1
 | some (.slice e)=>P.cellsOf t==1&&S.contains e&&decide (0<P.cellsOf e)&&(Y7 P e||P.cellsOf e==1)
 | some (.struct fs)=>Q8 P 0 fs.toList (P.cellsOf t)&&fs.toList.all fun f=>S.contains f.type
 | some (.array m e)=>S.contains e&&m*P.cellsOf e==P.cellsOf t
 | _=>false
section
variable {H:Type} {enc:TypeId×Value->H} {P:Program} {w:World} {base:Nat} {sp:Nat->Bool} {held:Bool} {S:List TypeId}
theorem CS{α β:Type}{f:α->Option β}: ∀ {l:List α} {r:List β},l.mapM f=some r->r.length=l.length∧ ∀ (j:Nat) x y,l[j]? = some x->r[j]? = some y->f x=some y:=by
 intro l
 induction l with
 | nil=>intro r h;simp at h;subst h;exact⟨rfl,fun j x y h=>by simp at h⟩
 | cons a l ih=>
  intro r h
  simp only[List.mapM_cons,Option.bind_eq_bind,Option.bind_eq_some_iff]at h
  obtain⟨b,hb,bs,hbs,h⟩:=h
  simp at h
  subst h
  obtain⟨h1,h2⟩:=ih hbs
  refine⟨by simp[h1],fun j x y hx hy=> ?_⟩
  cases j with
  | zero=>cases hx;cases hy;exact hb
  | succ j=>exact h2 j x y hx hy
def Cl(w:World)(cs:List Value)(ps:List PV):Prop:=XV (Sl w) cs ps∧YO cs
theorem Cl.one{v:Value}{p:PV}(h:RP (Sl w) v p)(h1:v.oneCell'=true):Cl w [v] [p]:=⟨⟨rfl,fun j x q hx hq=>match j with
 | 0=>by cases hx;cases hq;exact h
 | j+1=>by simp at hx⟩,fun v hv=>by simp at hv;subst hv;exact h1⟩
theorem Cl.append{cs ds:List Value}{ps qs:List PV}(h:Cl w cs ps)(k:Cl w ds qs):Cl w (cs++ds) (ps++qs):=by
 refine⟨⟨by simp[h.1.1,k.1.1],fun j v p hv hp=> ?_⟩,fun v hv=> ?_⟩
 ·by_cases hj:j<cs.length
  ·rw[List.getElem?_append_left hj]at hv
   rw[List.getElem?_append_left (by rw[<- h.1.1];exact hj)]at hp
   exact h.1.2 j v p hv hp
  ·rw[List.getElem?_append_right (by omega)]at hv
   rw[List.getElem?_append_right (by rw[<- h.1.1];omega),<- h.1.1]at hp
   exact k.1.2 _ v p hv hp
 ·rcases List.mem_append.1 hv with h'|h'
  ·exact h.2 v h'
  ·exact k.2 v h'
theorem Cl.nil:Cl w [] []:=⟨⟨rfl,fun j v p h=>by simp at h⟩,fun v h=>by simp at h⟩
theorem TA(hS:Pf P S=true){t:TypeId}(ht:t∈S):(match P.underlying t with
 | some .bool|some (.int _)|some .string=>P.cellsOf t==1
 | some (.slice e)=>P.cellsOf t==1&&S.contains e&&decide (0<P.cellsOf e)&&(Y7 P e||P.cellsOf e==1)
 | some (.struct fs)=>Q8 P 0 fs.toList (P.cellsOf t)&&fs.toList.all fun f=>S.contains f.type
 | some (.array m e)=>S.contains e&&m*P.cellsOf e==P.cellsOf t
 | _=>false)=true:=List.all_eq_true.1 hS t ht
theorem a4s{e:TypeId}{q:List PV}(h:Y7 P e=true∨P.cellsOf e=1)(hl:q.length=P.cellsOf e)(h1:Y7 P e=false-> ∀ p∈q,p.cells=[p]):(Kn P e q).cells=q:=by
 unfold Kn
 cases ha:Y7 P e with
 | true=>rfl
 | false=>
  rcases h with h|h
  ·rw[h]at ha;cases ha
  ·rw[h]at hl
   match q,hl with
   | [p],_=>exact h1 ha p (by simp)
theorem a9s{n:Nat}{e:TypeId}{q:List PV}(h:Ud P n e q)(ha:Y7 P e=false): ∀ p∈q,p.cells=[p]:=by
 cases n with
 | zero=>exact h.elim
 | succ n=>
  unfold Ud at h
  unfold Y7 at ha
  split at h
  ·obtain⟨b,rfl⟩:=h;intro p hp;simp at hp;subst hp;rfl
  ·obtain⟨m,rfl,_⟩:=h;intro p hp;simp at hp;subst hp;rfl
  ·obtain⟨s,rfl,_⟩:=h;intro p hp;simp at hp;subst hp;rfl
  ·obtain⟨s,rfl,_⟩:=h;intro p hp;simp at hp;subst hp;rfl
  ·rename_i hu;rw[hu]at ha;cases ha
  ·rename_i hu;rw[hu]at ha;cases ha
  ·exact h.elim
theorem Lu{α:Type}{R:Nat->α->Prop}: ∀ (n:Nat),(∀ i,i<n-> ∃ q,R i q)-> ∃ qs:List α,qs.length=n∧ ∀ (i:Nat) q,qs[i]? = some q->R i q:=by
 intro n
 induction n with
 | zero=>intro _;exact⟨[],rfl,fun i q h=>by simp at h⟩
 | succ n ih=>
  intro h
  obtain⟨qs,h1,h2⟩:=ih fun i hi=>h i (by omega)
  obtain⟨q,hq⟩:=h n (by omega)
  refine⟨qs++[q],by simp[h1],fun i q' hi=> ?_⟩
  by_cases hlt:i<qs.length
  ·rw[List.getElem?_append_left hlt]at hi;exact h2 i q' hi
  ·rw[List.getElem?_append_right (by omega)]at hi
   have:i=n:=by
    have:=(List.getElem?_eq_some_iff.1 hi).1
    simp at this
    omega
   subst this
   rw[h1,Nat.sub_self]at hi
   cases hi
   exact hq
theorem a4b(a:Addr)(i j:Nat):(a.add i).add j=a.add (i+j):=by
 unfold Addr.add
 by_cases hi:i=0 <;> by_cases hj:j=0 <;> simp[hi,hj,Nat.add_assoc]
theorem a5b{base n:Nat}{a:Addr}{cs:List Value}(h:w.cells? base a n=some cs):cs.length=n∧ ∀ (r:Nat) v,cs[r]? = some v->w.cell? (a.add r)=some v:=by
 unfold World.cells? at h
 split at h
 ·obtain⟨h1,h2⟩:=CS h
  refine⟨by simpa using h1,fun r v hv=> ?_⟩
  have hr:=(List.getElem?_eq_some_iff.1 hv).1
  have hr2:r<n:=by rw[h1]at hr;simpa using hr
  exact h2 r r v (by simp[hr2]) hv
 ·cases h
theorem TD{a:Addr}{v:Value}(h:w.cell? a=some v): ∃ b off cs,a=⟨b,off,none⟩∧Sl w b=some cs∧cs[off]? = some v:=by
 obtain⟨b,off,spot⟩:=a
 unfold World.cell? at h
 split at h
 ·rename_i c T fz hb
  split at h
  ·cases h
  ·rename_i hs
   have:spot=none:=by cases spot with|none=>rfl|some=>simp at hs
   subst this
   exact⟨b,off,c,rfl,by simp only[Sl];rw[hb],h⟩
 ·cases h
def Qa(P:Program)(t:TypeId):Option (List (Nat×TypeId)):=match P.underlying t with
 | some (.struct fs)=>some (fs.toList.map fun f=>(f.offset,f.type))
 | _=>none
def c2u(P:Program)(n:Nat)(q:List PV):List (Nat×TypeId)->Prop
 | []=>True
 | (o,t)::r=>Ud P n t ((q.drop o).take (P.cellsOf t))∧c2u P n q r
theorem U6{n c:Nat}{t:TypeId}{q:List PV}{l:List (Nat×TypeId)}(hs:Qa P t=some l)(hc:P.cellsOf t=c)(h:Ud P n t q): ∃ m,n=m+1∧q.length=c∧c2u P m q l:=by
 cases n with
 | zero=>exact h.elim
 | succ m=>
  unfold Qa at hs
  split at hs
  ·rename_i fs hu
   cases hs
   simp only[Ud,hu]at h
   refine⟨m,rfl,by rw[h.1,hc],?_⟩
   have key : ∀ l:List Field,(∀ f∈l,Ud P m f.type ((q.drop f.offset).take (P.cellsOf f.type)))->c2u P m q (l.map fun f=>(f.offset,f.type)):=by
    intro l
    induction l with
    | nil=>intro _;trivial
    | cons f l ih=>intro h;exact⟨h f List.mem_cons_self,ih fun g hg=>h g (List.mem_cons_of_mem _ hg)⟩
   exact key _ h.2
  ·cases hs
theorem L6{n:Nat}{t:TypeId}{k:IntKind}{q:List PV}(hu:P.underlying t=some (.int k))(h:Ud P n t q): ∃ m,q=[.int k m]∧(Lit.int k m).wf=true:=by
 cases n with
 | zero=>exact h.elim
 | succ m=>simpa only[Ud,hu]using h
theorem a6q{n:Nat}{t:TypeId}{q:List PV}(hu:P.underlying t=some .bool)(h:Ud P n t q): ∃ b,q=[.bool b]:=by
 cases n with
 | zero=>exact h.elim
 | succ m=>simpa only[Ud,hu]using h
theorem b0z{n:Nat}{t:TypeId}{q:List PV}(hu:P.underlying t=some .string)(h:Ud P n t q): ∃ s:List UInt8,q=[.str s]∧s.length<=maxLen:=by
 cases n with
 | zero=>exact h.elim
 | succ m=>simpa only[Ud,hu]using h
theorem Br{n c:Nat}{t e:TypeId}{q:List PV}(hu:P.underlying t=some (.slice e))(hc:P.cellsOf e=c)(h:Ud P n t q): ∃ m,n=m+1∧ ∃ qs:List (List PV),q=[.sl c false (qs.map (Kn P e))]∧qs.length<=maxLen∧ ∀ x∈qs,x.length=c∧Ud P m e x:=by
 cases n with
 | zero=>exact h.elim
 | succ m=>
  subst hc
  simp only[Ud,hu]at h
  exact⟨m,rfl,h⟩
theorem b8y{Φ:ZW}:XV Φ (#[]:Array Value).toList []:=⟨rfl,fun j v p h=>by simp at h⟩
theorem c4s{Φ:ZW}{v:Value}{vs:List Value}{p:PV}{ps:List PV}(h:RP Φ v p)(k:XV Φ vs ps):XV Φ (v::vs) (p::ps):=
 ⟨by simp[k.1],fun j u q hu hq=>match j with
  | 0=>by cases hu;cases hq;exact h
  | j+1=>k.2 j u q (by simpa using hu) (by simpa using hq)⟩
theorem a3q{f:Nat}{pre:List PV->Bool}{val:List PV->PV}(h:Vl P f pre val){ps:List PV}(hp:pre ps=true)(hv:val ps = .bool true){vs:Array Value}(hL:GlobOK (Sl w))(hr:XV (Sl w) vs.toList ps):
  Calls P f vs w fun e w'=>e = .returned (.bool true)∧Below w.heap.size w w':=by
 refine(h ps hp (Sl w) w vs hL (c5x w) hr).mono ?_
 rintro e w' ⟨v,Φ',rfl,_,_,h1,h2,_⟩
 rw[hv]at h1
 cases h1
 exact⟨rfl,h2⟩
end
end Go.Pl

namespace Go.Proofs.YtjfgiaooglnomaaGreatDoor
open Go.Pl Go.RowKit Go.ChangeShapes
set_option maxRecDepth 100000
theorem a1b{P:Program}{W:World}{n:String}{g:Nat}{cs:Array Value}(hg:P.globalNamed n=some g)(h:W.var? P n=some cs):Sl W g=some cs:=by
 unfold World.var? at h
 rw[hg]at h
 simp only[Option.bind_some]at h
 unfold Sl
 exact h
theorem c2h:Tryz.prog.globalNamed "internal/strconv.uint64pow10" = some 1:=by kernel_rfl
theorem c7b:Tryz.prog.globalNamed "strconv.ErrRange" = some 3:=by kernel_rfl
theorem c7a:Tryz.prog.globalNamed "strconv.ErrSyntax" = some 2:=by kernel_rfl
theorem a4e:Tryz.prog.underlying 213=some (.interface ((match Tryz.prog.underlying 213 with|some (.interface ms)=>ms|_=>#[]))):=by kernel_rfl
theorem c5q{W:World}{r:List (String×DataW Unit)}(h:laidMet Tryz.prog (("internal/strconv.uint64pow10",Rows.laid_internal_strconv_uint64pow10)::r) W):Sl W 1=some Al:=by
 have h1:Lib.TabIs Tryz.prog W "internal/strconv.uint64pow10" .u64 ((List.range 20).map fun i=>((10 ^ i:Nat):Int)):=Lib.tabIs_of_head (e:=200) (t:=301) c2h (by kernel_rfl) (n:=20) (by kernel_rfl) (by kernel_rfl) (by kernel_rfl) (by kernel_rfl) h
 exact(a1b c2h h1).trans rfl
theorem b4u{W:World}{n:String}{g:Nat}{text:List UInt8}{r:List (String×DataW Unit)}(hg:Tryz.prog.globalNamed n=some g)(ht:(Tryz.prog.globals[g]?).map (·.type)=some 213)(h:laidMet Tryz.prog ((n,.iface "*errors.errorString" (.ptr (.agg [.lit (.string text)])))::r) W): ∃ cs,Sl W g=some cs∧BC cs:=by
 obtain⟨ps,⟨g0,t0,cs0,f0,p0,q0,hg0,ht0,hv0,hd0,_,e0⟩,_,hrows⟩:=h
 obtain rfl:=Option.some.inj (hg.symm.trans hg0)
 obtain rfl:=Option.some.inj (ht.symm.trans ht0)
 subst e0
 refine⟨cs0,a1b hg hv0,?_⟩
 obtain⟨f1,u,v,e,_⟩:=iface_of_trod a4e hd0
 obtain⟨l0⟩:=cs0
 have e:l0=[.iface u v]:=e
 subst e
 exact⟨_,rfl,.inr ⟨u,v,rfl⟩⟩
theorem c1b{W:World}{x y:String×DataW Unit}{r:List (String×DataW Unit)}(h:laidMet Tryz.prog (x::y::("internal/strconv.uint64pow10",Rows.laid_internal_strconv_uint64pow10)::("strconv.ErrRange",Rows.laid_strconv_ErrRange)::("strconv.ErrSyntax",Rows.laid_strconv_ErrSyntax)::r) W):GlobOK (Sl W):=
 ⟨b4u c7a (by kernel_rfl) h.tail.tail.tail.tail,b4u c7b (by kernel_rfl) h.tail.tail.tail,c5q h.tail.tail⟩
noncomputable def c9q:DataW Unit->Value
 | .lit (.int k n)=>.int k n
 | _=>.int .i64 0
noncomputable def FQ:DataW Unit->Array Value
 | .agg ds=>(ds.map c9q).toArray
 | _=>#[]
noncomputable def b1h:DataW Unit->ByteArray
 | .iface _ (.ptr (.agg [.lit (.string bs)]))=>⟨bs.toArray⟩
 | _=>⟨#[]⟩
noncomputable def low:Nat:=(World.holding Tryz.prog default ⟨#[],#[],[]⟩).heap.size
noncomputable def b2e(cs:Array Value):Obj->Obj
 | .cells _ t frozen=>.cells cs t frozen
 | o=>o
noncomputable def SY(os:Os):World:=
 let w0:=World.holding Tryz.prog os ⟨#[.cells #[.string (b1h Rows.laid_strconv_ErrRange)] 326,.cells #[.string (b1h Rows.laid_strconv_ErrSyntax)] 326],#[],[]⟩
 {w0 with heap:=((((w0.heap.modify 3 (b2e #[.iface 324 (.pointer (some ⟨low,0,none⟩))])).modify 2 (b2e #[.iface 324 (.pointer (some ⟨low+1,0,none⟩))])).modify 1 (b2e (FQ Rows.laid_internal_strconv_uint64pow10))).modify 6 (b2e (FQ Rows.laid_math_bits_deBruijn32tab))).modify 7 (b2e (FQ Rows.laid_math_bits_deBruijn64tab))}
end Go.Proofs.YtjfgiaooglnomaaGreatDoor

namespace Go.Proofs.YtjfgiaooglnomaaGreatDoor
open Go.Shelf
def Tryz.lays172_ren:Go.Shelf.Ren:=⟨fun|172=>182|244=>242|245=>243|247=>278|279=>279|280=>280|281=>281|282=>282|287=>298|316=>299|171=>76|205=>300|321=>308|322=>309|243=>146|246=>214|283=>260|284=>261|285=>262|286=>263|129=>276|317=>287|318=>288|319=>289|320=>290|337=>301|338=>302|n=>n,fun|9=>9|3=>3|75=>213|76=>214|4=>4|5=>5|167=>290|37=>38|0=>0|85=>291|2=>2|168=>293|53=>200|175=>309|46=>171|210=>313|127=>323|145=>326|143=>324|21=>21|171=>273|173=>275|212=>301|51=>288|20=>20|213=>302|232=>327|233=>328|80=>329|n=>n,fun|15=>2|16=>3|17=>1|18=>6|19=>7|n=>n⟩
theorem Tryz.lays172:Go.Proofs.LaysC.n172 Tryz.prog Tryz.lays172_ren:={
 mixed:=by kernel_rfl
 f129:=Tryz.func276.trans (congrArg some (by kernel_rfl))
 f171:=Tryz.func76.trans (congrArg some (by kernel_rfl))
 f172:=Tryz.func182.trans (congrArg some (by kernel_rfl))
 f205:=Tryz.func300.trans (congrArg some (by kernel_rfl))
 f243:=Tryz.func146.trans (congrArg some (by kernel_rfl))
 f244:=Tryz.func242.trans (congrArg some (by kernel_rfl))
 f245:=Tryz.func243.trans (congrArg some (by kernel_rfl))
 f246:=Tryz.func214.trans (congrArg some (by kernel_rfl))
 f247:=Tryz.func278.trans (congrArg some (by kernel_rfl))
 f279:=Tryz.func279.trans (congrArg some (by kernel_rfl))
 f280:=Tryz.func280.trans (congrArg some (by kernel_rfl))
 f281:=Tryz.func281.trans (congrArg some (by kernel_rfl))
 f282:=Tryz.func282.trans (congrArg some (by kernel_rfl))
 f283:=Tryz.func260.trans (congrArg some (by kernel_rfl))
 f284:=Tryz.func261.trans (congrArg some (by kernel_rfl))
 f285:=Tryz.func262.trans (congrArg some (by kernel_rfl))
 f286:=Tryz.func263.trans (congrArg some (by kernel_rfl))
 f287:=Tryz.func298.trans (congrArg some (by kernel_rfl))
 f316:=Tryz.func299.trans (congrArg some (by kernel_rfl))
 f317:=Tryz.func287.trans (congrArg some (by kernel_rfl))
 f318:=Tryz.func288.trans (congrArg some (by kernel_rfl))
 f319:=Tryz.func289.trans (congrArg some (by kernel_rfl))
 f320:=Tryz.func290.trans (congrArg some (by kernel_rfl))
 f321:=Tryz.func308.trans (congrArg some (by kernel_rfl))
 f322:=Tryz.func309.trans (congrArg some (by kernel_rfl))
 f337:=Tryz.func301.trans (congrArg some (by kernel_rfl))
 f338:=Tryz.func302.trans (congrArg some (by kernel_rfl))
 t0:=Tryz.underlying0
 a0:=Tryz.isAgg0
 z0:=Tryz.sizeOf0
 v0:=Tryz.zeroValue0
 t2:=Tryz.underlying2
 a2:=Tryz.isAgg2
 z2:=Tryz.sizeOf2
 v2:=Tryz.zeroValue2
 t3:=Tryz.underlying3
 a3:=Tryz.isAgg3
 z3:=Tryz.sizeOf3
 v3:=Tryz.zeroValue3
 t4:=Tryz.underlying4
 a4:=Tryz.isAgg4
 z4:=Tryz.sizeOf4
 v4:=Tryz.zeroValue4
 t5:=Tryz.underlying5
 a5:=Tryz.isAgg5
 z5:=Tryz.sizeOf5
 v5:=Tryz.zeroValue5
 t9:=Tryz.underlying9
 a9:=Tryz.isAgg9
 z9:=Tryz.sizeOf9
 v9:=Tryz.zeroValue9
 t20:=Tryz.underlying20
 a20:=Tryz.isAgg20
 z20:=Tryz.sizeOf20
 v20:=Tryz.zeroValue20
 t21:=Tryz.underlying21
 a21:=Tryz.isAgg21
 z21:=Tryz.sizeOf21
 v21:=Tryz.zeroValue21
 t37:=Tryz.underlying38
 a37:=Tryz.isAgg38
 z37:=Tryz.sizeOf38
 v37:=Tryz.zeroValue38
 t46:=Tryz.underlying171
 a46:=Tryz.isAgg171
 z46:=Tryz.sizeOf171
 v46:=Tryz.zeroValue171
 t51:=Tryz.underlying288
 a51:=Tryz.isAgg288
 z51:=Tryz.sizeOf288
 v51:=Tryz.zeroValue288
 t53:=Tryz.underlying200
 a53:=Tryz.isAgg200
 z53:=Tryz.sizeOf200
 v53:=Tryz.zeroValue200
 t75:=Tryz.underlying213
 a75:=Tryz.isAgg213
 z75:=Tryz.sizeOf213
 v75:=Tryz.zeroValue213
 t76:=Tryz.underlying214
 a76:=Tryz.isAgg214
 z76:=Tryz.sizeOf214
 v76:=Tryz.zeroValue214
 t85:=Tryz.underlying291
 a85:=Tryz.isAgg291
 z85:=Tryz.sizeOf291
 v85:=Tryz.zeroValue291
 t127:=Tryz.underlying323
 a127:=Tryz.isAgg323
 z127:=Tryz.sizeOf323
 v127:=Tryz.zeroValue323
 t143:=Tryz.underlying324
 a143:=Tryz.isAgg324
 z143:=Tryz.sizeOf324
 v143:=Tryz.zeroValue324
 t145:=Tryz.underlying326
 a145:=Tryz.isAgg326
 z145:=Tryz.sizeOf326
 v145:=Tryz.zeroValue326
 t167:=Tryz.underlying290
 a167:=Tryz.isAgg290
 z167:=Tryz.sizeOf290
 v167:=Tryz.zeroValue290
 t168:=Tryz.underlying293
 a168:=Tryz.isAgg293
 z168:=Tryz.sizeOf293
 v168:=Tryz.zeroValue293
 t171:=Tryz.underlying273
 a171:=Tryz.isAgg273
 z171:=Tryz.sizeOf273
 v171:=Tryz.zeroValue273
 t173:=Tryz.underlying275
 a173:=Tryz.isAgg275
 z173:=Tryz.sizeOf275
 v173:=Tryz.zeroValue275
 t175:=Tryz.underlying309
 a175:=Tryz.isAgg309
 z175:=Tryz.sizeOf309
 v175:=Tryz.zeroValue309
 t210:=Tryz.underlying313
 a210:=Tryz.isAgg313
 z210:=Tryz.sizeOf313
 v210:=Tryz.zeroValue313
 t212:=Tryz.underlying301
 a212:=Tryz.isAgg301
 z212:=Tryz.sizeOf301
 v212:=Tryz.zeroValue301
 t213:=Tryz.underlying302
 a213:=Tryz.isAgg302
 z213:=Tryz.sizeOf302
 t232:=Tryz.underlying327
 a232:=Tryz.isAgg327
 z232:=Tryz.sizeOf327
 v232:=Tryz.zeroValue327
 t233:=Tryz.underlying328
 a233:=Tryz.isAgg328
 z233:=Tryz.sizeOf328
 v233:=Tryz.zeroValue328
 g15:=by kernel_rfl
 g16:=by kernel_rfl
 g17:=by kernel_rfl
 g18:=by kernel_rfl
 g19:=by kernel_rfl
 t80:=Tryz.underlying329
 a80:=Tryz.isAgg329
 z80:=Tryz.sizeOf329
 v80:=Tryz.zeroValue329
 i0:=by kernel_rfl
 i2:=by kernel_rfl
 i3:=by kernel_rfl
 i4:=by kernel_rfl
 i5:=by kernel_rfl
 i9:=by kernel_rfl
 i20:=by kernel_rfl
 i21:=by kernel_rfl
 i37:=by kernel_rfl
 i46:=by kernel_rfl
 i51:=by kernel_rfl
 i53:=by kernel_rfl
 i75:=by kernel_rfl
 i76:=by kernel_rfl
 i80:=by kernel_rfl
 i85:=by kernel_rfl
 i127:=by kernel_rfl
 i143:=by kernel_rfl
 i145:=by kernel_rfl
 i167:=by kernel_rfl
 i168:=by kernel_rfl
 i171:=by kernel_rfl
 i173:=by kernel_rfl
 i175:=by kernel_rfl
 i210:=by kernel_rfl
 i212:=by kernel_rfl
 i232:=by kernel_rfl
 i233:=by kernel_rfl
 m15:=by kernel_rfl
 m16:=by kernel_rfl
 m17:=by kernel_rfl
 m18:=by kernel_rfl
 m19:=by kernel_rfl
 c0:=by kernel_rfl
 c2:=by kernel_rfl
 c3:=by kernel_rfl
 c4:=by kernel_rfl
 c5:=by kernel_rfl
 c9:=by kernel_rfl
 c20:=by kernel_rfl
 c21:=by kernel_rfl
 c37:=by kernel_rfl
 c46:=by kernel_rfl
 c51:=by kernel_rfl
 c53:=by kernel_rfl
 c75:=by kernel_rfl
 c76:=by kernel_rfl
 c80:=by kernel_rfl
 c85:=by kernel_rfl
 c127:=by kernel_rfl
 c143:=by kernel_rfl
 c145:=by kernel_rfl
 c167:=by kernel_rfl
 c168:=by kernel_rfl
 c171:=by kernel_rfl
 c173:=by kernel_rfl
 c175:=by kernel_rfl
 c210:=by kernel_rfl
 c212:=by kernel_rfl
 c213:=by kernel_rfl
 c232:=by kernel_rfl
 c233:=by kernel_rfl}
def Tryz.lays171_ren:Go.Shelf.Ren:=⟨fun|171=>76|243=>146|246=>214|283=>260|284=>261|285=>262|286=>263|129=>276|317=>287|318=>288|319=>289|320=>290|337=>301|338=>302|n=>n,fun|3=>3|9=>9|2=>2|4=>4|171=>273|0=>0|53=>200|37=>38|5=>5|173=>275|212=>301|51=>288|20=>20|213=>302|46=>171|232=>327|233=>328|n=>n,fun|17=>1|18=>6|19=>7|n=>n⟩
theorem Tryz.lays171:Go.Proofs.LaysM.n171 Tryz.prog Tryz.lays171_ren:={
 mixed:=by kernel_rfl
 f129:=Tryz.func276.trans (congrArg some (by kernel_rfl))
 f171:=Tryz.func76.trans (congrArg some (by kernel_rfl))
 f243:=Tryz.func146.trans (congrArg some (by kernel_rfl))
 f246:=Tryz.func214.trans (congrArg some (by kernel_rfl))
 f283:=Tryz.func260.trans (congrArg some (by kernel_rfl))
 f284:=Tryz.func261.trans (congrArg some (by kernel_rfl))
 f285:=Tryz.func262.trans (congrArg some (by kernel_rfl))
 f286:=Tryz.func263.trans (congrArg some (by kernel_rfl))
 f317:=Tryz.func287.trans (congrArg some (by kernel_rfl))
 f318:=Tryz.func288.trans (congrArg some (by kernel_rfl))
 f319:=Tryz.func289.trans (congrArg some (by kernel_rfl))
 f320:=Tryz.func290.trans (congrArg some (by kernel_rfl))
 f337:=Tryz.func301.trans (congrArg some (by kernel_rfl))
 f338:=Tryz.func302.trans (congrArg some (by kernel_rfl))
 t0:=Tryz.underlying0
 a0:=Tryz.isAgg0
 z0:=Tryz.sizeOf0
 v0:=Tryz.zeroValue0
 t2:=Tryz.underlying2
 a2:=Tryz.isAgg2
 z2:=Tryz.sizeOf2
 v2:=Tryz.zeroValue2
 t3:=Tryz.underlying3
 a3:=Tryz.isAgg3
 z3:=Tryz.sizeOf3
 v3:=Tryz.zeroValue3
 t4:=Tryz.underlying4
 a4:=Tryz.isAgg4
 z4:=Tryz.sizeOf4
 v4:=Tryz.zeroValue4
 t5:=Tryz.underlying5
 a5:=Tryz.isAgg5
 z5:=Tryz.sizeOf5
 v5:=Tryz.zeroValue5
 t9:=Tryz.underlying9
 a9:=Tryz.isAgg9
 z9:=Tryz.sizeOf9
 v9:=Tryz.zeroValue9
 t20:=Tryz.underlying20
 a20:=Tryz.isAgg20
 z20:=Tryz.sizeOf20
 v20:=Tryz.zeroValue20
 t37:=Tryz.underlying38
 a37:=Tryz.isAgg38
 z37:=Tryz.sizeOf38
 v37:=Tryz.zeroValue38
 t46:=Tryz.underlying171
 a46:=Tryz.isAgg171
 z46:=Tryz.sizeOf171
 v46:=Tryz.zeroValue171
 t51:=Tryz.underlying288
 a51:=Tryz.isAgg288
 z51:=Tryz.sizeOf288
 v51:=Tryz.zeroValue288
 t53:=Tryz.underlying200
 a53:=Tryz.isAgg200
 z53:=Tryz.sizeOf200
 v53:=Tryz.zeroValue200
 t171:=Tryz.underlying273
 a171:=Tryz.isAgg273
 z171:=Tryz.sizeOf273
 v171:=Tryz.zeroValue273
 t173:=Tryz.underlying275
 a173:=Tryz.isAgg275
 z173:=Tryz.sizeOf275
 v173:=Tryz.zeroValue275
 t212:=Tryz.underlying301
 a212:=Tryz.isAgg301
 z212:=Tryz.sizeOf301
 v212:=Tryz.zeroValue301
 t213:=Tryz.underlying302
 a213:=Tryz.isAgg302
 z213:=Tryz.sizeOf302
 t232:=Tryz.underlying327
 a232:=Tryz.isAgg327
 z232:=Tryz.sizeOf327
 v232:=Tryz.zeroValue327
 t233:=Tryz.underlying328
 a233:=Tryz.isAgg328
 z233:=Tryz.sizeOf328
 v233:=Tryz.zeroValue328
 g17:=by kernel_rfl
 g18:=by kernel_rfl
 g19:=by kernel_rfl
 i0:=by kernel_rfl
 i2:=by kernel_rfl
 i3:=by kernel_rfl
 i4:=by kernel_rfl
 i5:=by kernel_rfl
 i9:=by kernel_rfl
 i20:=by kernel_rfl
 i37:=by kernel_rfl
 i46:=by kernel_rfl
 i51:=by kernel_rfl
 i53:=by kernel_rfl
 i171:=by kernel_rfl
 i173:=by kernel_rfl
 i212:=by kernel_rfl
 i232:=by kernel_rfl
 i233:=by kernel_rfl
 m17:=by kernel_rfl
 m18:=by kernel_rfl
 m19:=by kernel_rfl}
def Tryz.lays99_ren:Go.Shelf.Ren:=⟨fun|99=>152|206=>221|n=>n,fun|9=>9|4=>4|3=>3|n=>n,fun|n=>n⟩
theorem Tryz.lays99:Go.Proofs.Lays.n99 Tryz.prog Tryz.lays99_ren:={
 mixed:=by kernel_rfl
 f99:=Tryz.func152.trans (congrArg some (by kernel_rfl))
 f206:=Tryz.func221.trans (congrArg some (by kernel_rfl))
 t3:=Tryz.underlying3
 a3:=Tryz.isAgg3
 z3:=Tryz.sizeOf3
 v3:=Tryz.zeroValue3
 t4:=Tryz.underlying4
 a4:=Tryz.isAgg4
 z4:=Tryz.sizeOf4
 v4:=Tryz.zeroValue4
 t9:=Tryz.underlying9
 a9:=Tryz.isAgg9
 z9:=Tryz.sizeOf9
 v9:=Tryz.zeroValue9}
def Tryz.lays190_ren:Go.Shelf.Ren:=⟨fun|190=>154|125=>223|258=>222|128=>275|129=>276|302=>267|303=>268|304=>269|305=>270|306=>271|307=>272|308=>244|309=>273|310=>274|333=>293|329=>294|330=>295|334=>296|335=>297|336=>283|344=>307|n=>n,fun|31=>76|9=>9|3=>3|46=>171|0=>0|51=>288|53=>200|4=>4|183=>282|182=>281|131=>129|5=>5|218=>304|222=>148|228=>321|229=>247|n=>n,fun|n=>n⟩
theorem Tryz.lays190:Go.Proofs.Lays.n190 Tryz.prog Tryz.lays190_ren:={
 mixed:=by kernel_rfl
 f125:=Tryz.func223.trans (congrArg some (by kernel_rfl))
 f128:=Tryz.func275.trans (congrArg some (by kernel_rfl))
 f129:=Tryz.func276.trans (congrArg some (by kernel_rfl))
 f190:=Tryz.func154.trans (congrArg some (by kernel_rfl))
 f258:=Tryz.func222.trans (congrArg some (by kernel_rfl))
 f302:=Tryz.func267.trans (congrArg some (by kernel_rfl))
 f303:=Tryz.func268.trans (congrArg some (by kernel_rfl))
 f304:=Tryz.func269.trans (congrArg some (by kernel_rfl))
 f305:=Tryz.func270.trans (congrArg some (by kernel_rfl))
 f306:=Tryz.func271.trans (congrArg some (by kernel_rfl))
 f307:=Tryz.func272.trans (congrArg some (by kernel_rfl))
 f308:=Tryz.func244.trans (congrArg some (by kernel_rfl))
 f309:=Tryz.func273.trans (congrArg some (by kernel_rfl))
 f310:=Tryz.func274.trans (congrArg some (by kernel_rfl))
 f329:=Tryz.func294.trans (congrArg some (by kernel_rfl))
 f330:=Tryz.func295.trans (congrArg some (by kernel_rfl))
 f333:=Tryz.func293.trans (congrArg some (by kernel_rfl))
 f334:=Tryz.func296.trans (congrArg some (by kernel_rfl))
 f335:=Tryz.func297.trans (congrArg some (by kernel_rfl))
 f336:=Tryz.func283.trans (congrArg some (by kernel_rfl))
 f344:=Tryz.func307.trans (congrArg some (by kernel_rfl))
 t0:=Tryz.underlying0
 a0:=Tryz.isAgg0
 z0:=Tryz.sizeOf0
 v0:=Tryz.zeroValue0
 t3:=Tryz.underlying3
 a3:=Tryz.isAgg3
 z3:=Tryz.sizeOf3
 v3:=Tryz.zeroValue3
 t4:=Tryz.underlying4
 a4:=Tryz.isAgg4
 z4:=Tryz.sizeOf4
 v4:=Tryz.zeroValue4
 t5:=Tryz.underlying5
 a5:=Tryz.isAgg5
 z5:=Tryz.sizeOf5
 v5:=Tryz.zeroValue5
 t9:=Tryz.underlying9
 a9:=Tryz.isAgg9
 z9:=Tryz.sizeOf9
 v9:=Tryz.zeroValue9
 t31:=Tryz.underlying76
 a31:=Tryz.isAgg76
 z31:=Tryz.sizeOf76
 v31:=Tryz.zeroValue76
 t46:=Tryz.underlying171
 a46:=Tryz.isAgg171
 z46:=Tryz.sizeOf171
 v46:=Tryz.zeroValue171
 t51:=Tryz.underlying288
 a51:=Tryz.isAgg288
 z51:=Tryz.sizeOf288
 v51:=Tryz.zeroValue288
 t53:=Tryz.underlying200
 a53:=Tryz.isAgg200
 z53:=Tryz.sizeOf200
 v53:=Tryz.zeroValue200
 t131:=Tryz.underlying129
 a131:=Tryz.isAgg129
 z131:=Tryz.sizeOf129
 v131:=Tryz.zeroValue129
 t182:=Tryz.underlying281
 a182:=Tryz.isAgg281
 z182:=Tryz.sizeOf281
 v182:=Tryz.zeroValue281
 t183:=Tryz.underlying282
 a183:=Tryz.isAgg282
 z183:=Tryz.sizeOf282
 v183:=Tryz.zeroValue282
 t218:=Tryz.underlying304
 a218:=Tryz.isAgg304
 z218:=Tryz.sizeOf304
 v218:=Tryz.zeroValue304
 t222:=Tryz.underlying148
 a222:=Tryz.isAgg148
 z222:=Tryz.sizeOf148
 v222:=Tryz.zeroValue148
 t228:=Tryz.underlying321
 a228:=Tryz.isAgg321
 z228:=Tryz.sizeOf321
 v228:=Tryz.zeroValue321
 t229:=Tryz.underlying247
 a229:=Tryz.isAgg247
 z229:=Tryz.sizeOf247
 v229:=Tryz.zeroValue247}
end Go.Proofs.YtjfgiaooglnomaaGreatDoor

namespace Go.Proofs.YtjfgiaooglnomaaGreatDoor
open Go.Pl Go.RowKit
open Enc (enc dec is)
open EncL (encL decL isL)
set_option maxRecDepth 100000
theorem Jh:Zr Tryz.prog 152 (fun _:Str×Str×Unit=>true) (fun x:Str×Str×Unit=>x.2.1.s.isPrefixOf x.1.s):=Xk (by
  rintro⟨⟨s⟩,⟨p⟩,⟨⟩⟩ hps Φ w vs hL hΦ hv
  obtain⟨u,v,rfl,h1,h2⟩:=c4t hv
  rw[Nf h1,Nf h2]
  refine(Any.strings_HasPrefix Tryz.lays99 ⟨s.toArray⟩ ⟨p.toArray⟩ w).mono ?_
  rintro e w' ⟨rfl,rfl⟩
  exact⟨_,rfl,.bool _,.refl _ _⟩)
theorem b1d:Zr Tryz.prog 182 (fun x:Str×Unit=>decide (x.1.s.length<=1000000)) (fun x:Str×Unit=>Yv x.1):=Xk (by
  rintro⟨⟨s⟩,⟨⟩⟩ hps Φ w vs hL hΦ hv
  have hs:s.length<=1000000:=by simpa using hps
  obtain⟨v,rfl,h1⟩:=b9k hv
  rw[Nf h1]
  have hsz:(⟨s.toArray⟩:ByteArray).size=s.length:=rfl
  cases h:Lib.atoiAll s
  ·rename_i n
   have e1:Yv ⟨s⟩=(n,⟨false⟩):=by simp only[Yv,h]
   rw[e1]
   refine(Any.strconv_Atoi_ok Tryz.lays172 ⟨s.toArray⟩ (by rw[hsz];omega) n h w).mono ?_
   rintro e w' ⟨rfl,hw⟩
   refine⟨_,rfl,.tup _ _ rfl ?_,?_⟩
   ·intro j v x hv hx
    match j with
    | 0=>cases hv;cases hx;exact .int _ _
    | 1=>cases hv;cases hx;exact .nili
    | j+2=>simp at hv
   ·rcases hw with rfl|⟨t,rfl⟩
    ·exact .refl _ _
    ·exact DF _ _ 0 _
  ·skip
   have e1:Yv ⟨s⟩=(0,⟨true⟩):=by simp only[Yv,h]
   rw[e1]
   obtain⟨cs,hc,ev,he,hev⟩:=hL.syn
   refine(Any.strconv_Atoi_syntax Tryz.lays172 ⟨s.toArray⟩ (by rw[hsz];omega) h ev w (KU hΦ hc he) hev).mono ?_
   rintro e w' ⟨N,rfl,_,_,hb⟩
   refine⟨_,rfl,.tup _ _ rfl ?_,hb⟩
   intro j v x hv hx
   match j with
   | 0=>cases hv;cases hx;exact .int _ _
   | 1=>cases hv;cases hx;exact .ifc _ _
   | j+2=>simp at hv
  ·skip
   have e1:Yv ⟨s⟩=(Lib.atoiSat s,⟨true⟩):=by simp only[Yv,h]
   rw[e1]
   obtain⟨cs,hc,ev,he,hev⟩:=hL.rng
   refine(Any.strconv_Atoi_range Tryz.lays172 ⟨s.toArray⟩ (by rw[hsz];omega) h ev w (KU hΦ hc he) hev).mono ?_
   rintro e w' ⟨N,rfl,_,_,hb⟩
   refine⟨_,rfl,.tup _ _ rfl ?_,hb⟩
   intro j v x hv hx
   match j with
   | 0=>cases hv;cases hx;exact .int _ _
   | 1=>cases hv;cases hx;exact .ifc _ _
   | j+2=>simp at hv)
theorem LF:Zr Tryz.prog 76 (fun x:Int×Unit=>decide (-9223372036854775808<=x.1)&&decide (x.1<=9223372036854775807)) (fun x:Int×Unit=>M4 x.1):=Xk (by
  rintro⟨n,⟨⟩⟩ hps Φ w vs hL hΦ hv
  obtain⟨v,rfl,h1⟩:=b9k hv
  have h1:RP Φ v (.int .i64 n):=h1
  rw[Ba h1]
  have hn : -9223372036854775808<=n∧n<=9223372036854775807:=by simpa using hps
  have hg:=hL.pow
  obtain⟨T,fz,hh⟩:=hΦ _ _ hg
  refine(Any.strconv_Itoa Tryz.lays171 n hn.1 hn.2 w ?_).mono ?_
  ·unfold Lib.TabIs World.var?
   rw[show Program.globalNamed Tryz.prog "internal/strconv.uint64pow10" = some 1 by kernel_rfl]
   simp only[Option.bind_some,hh]
   rfl
  ·rintro e w' ⟨rfl,k,os,rfl⟩
   refine⟨_,rfl,.str _,?_⟩
   exact⟨rfl,rfl,rfl,by show w.heap.size<=(w.heap++os).size;simp,fun j hj=>by show(w.heap++os)[j]? = _;rw[Array.getElem?_append_left hj]⟩)
end Go.Proofs.YtjfgiaooglnomaaGreatDoor

namespace Go.Proofs.YtjfgiaooglnomaaGreatDoor
open Go.Pl
open Enc (enc dec is)
open EncL (encL decL isL)
set_option maxRecDepth 100000
theorem ZO:Tryz.prog.follows .mixedOrders=true:=by kernel_rfl
theorem MZ:ZU Tryz.prog 154 XJ QR:=a4h (Any.slices_Sort_string Tryz.lays190) (Any.slices_Sort_string_none Tryz.lays190)
theorem RU:Zr Tryz.prog 155 (fun _:UInt8×Unit=>true) (fun x:UInt8×Unit=>Wn x.1):=Zr.of (T:=Oc) (ic:=RA) (rs:=Nn) Zn ZO Tryz.func155 (by kernel_rfl) (by kernel_rfl) (by kernel_rfl) b4v
theorem SC:Zr Tryz.prog 156 (fun _:UInt8×Unit=>true) (fun x:UInt8×Unit=>WB x.1):=Zr.of (T:=EI) (ic:=Pb) (rs:=Rt) Zn ZO Tryz.func156 (by kernel_rfl) (by kernel_rfl) (by kernel_rfl) b3d
theorem Rv:Zr Tryz.prog 83 (fun _:Int×Unit=>true) (fun x:Int×Unit=>Yp x.1):=Zr.of (T:=CZ) (ic:=Jf) (rs:=GJ) Zn ZO Tryz.func83 (by kernel_rfl) (by kernel_rfl) (by kernel_rfl) Ov
theorem DW:Zr Tryz.prog 84 (fun _:Str×Unit=>true) (fun x:Str×Unit=>ZA x.1):=Zr.of (T:=WG) (ic:=XB) (rs:=XF) (Zb (Yn Tryz.func155 (by kernel_rfl) RU) (Zb (Yn Tryz.func156 (by kernel_rfl) SC) Zn)) ZO Tryz.func84 (by kernel_rfl) (by kernel_rfl) (by kernel_rfl) a5t
theorem RZ:Zr Tryz.prog 20 (fun x:Lin×Unit=>YC x.1) (fun x:Lin×Unit=>Zg x.1):=Zr.of (T:=Ve) (ic:=X6) (rs:=Wq) (Zb (Yn Tryz.func83 (by kernel_rfl) Rv) (Zb (Yn Tryz.func84 (by kernel_rfl) DW) Zn)) ZO Tryz.func20 (by kernel_rfl) (by kernel_rfl) (by kernel_rfl) OW
theorem Bu:Zr Tryz.prog 16 (fun x:Lin×Int×Unit=>YC x.1) (fun x:Lin×Int×Unit=>KG x.1 x.2.1):=Zr.of (T:=JP) (ic:=Q0) (rs:=Q9) Zn ZO Tryz.func16 (by kernel_rfl) (by kernel_rfl) (by kernel_rfl) b2p
theorem FX:Zr Tryz.prog 31 (fun x:List Fact×Int×Unit=>YQ x.1) (fun x:List Fact×Int×Unit=>D5 x.1 x.2.1):=Zr.of (T:=QY) (ic:=UV) (rs:=UL) (Zb (Yn Tryz.func16 (by kernel_rfl) Bu) Zn) ZO Tryz.func31 (by kernel_rfl) (by kernel_rfl) (by kernel_rfl) a3h
theorem a5z:Zr Tryz.prog 91 (fun _:Int×Unit=>true) (fun x:Int×Unit=>(⟨x.1,[]⟩:Lin)):=Zr.of (T:=b4r) (ic:=Oo) (rs:=FL) Zn ZO Tryz.func91 (by kernel_rfl) (by kernel_rfl) (by kernel_rfl) b8l
theorem Ms:ZU Tryz.prog 89 UC UE:=WE (T:=Z6) (ic:=ZM) (rs:=ZL) Zn ZO Tryz.func89 (by kernel_rfl) (by kernel_rfl) (by kernel_rfl) a5s
theorem NF:Zr Tryz.prog 89 (fun x:Lin×Str×Int×Unit=>decide (x.1.t.length<=1000000)) (fun x:Lin×Str×Int×Unit=>WW x.1 x.2.1 x.2.2.1):=a3l Ms
theorem a4t:Zr Tryz.prog 144 (fun _:Int×Unit=>true) (fun x:Int×Unit=>Yp x.1):=Zr.of (T:=a8v) (ic:=EG) (rs:=OA) Zn ZO Tryz.func144 (by kernel_rfl) (by kernel_rfl) (by kernel_rfl) b7p
theorem M5:Zr Tryz.prog 119 (fun x:Str×Unit=>decide (x.1.s.length<=1000000)) (fun x:Str×Unit=>ZA x.1):=Zr.of (T:=WK) (ic:=Xn) (rs:=XI) (Zb (Yn Tryz.func152 (by kernel_rfl) Jh) (Zb (Yn Tryz.func182 (by kernel_rfl) b1d) (Zb (Yn Tryz.func76 (by kernel_rfl) LF) Zn))) ZO Tryz.func119 (by kernel_rfl) (by kernel_rfl) (by kernel_rfl) a3c
theorem Wd:Zr Tryz.prog 73 (fun x:Lin×Unit=>ZP x.1) (fun x:Lin×Unit=>Zg x.1):=Zr.of (T:=Va) (ic:=X7) (rs:=We) (Zb (Yn Tryz.func144 (by kernel_rfl) a4t) (Zb (Yn Tryz.func119 (by kernel_rfl) M5) Zn)) ZO Tryz.func73 (by kernel_rfl) (by kernel_rfl) (by kernel_rfl) OV
theorem c0f:Zr Tryz.prog 162 (fun x:Fact×Unit=>ZP x.1.l) (fun x:Fact×Unit=> !(Zg x.1.l)):=Zr.of (T:=a7z) (ic:=Eg) (rs:=Od) (Zb (Yn Tryz.func73 (by kernel_rfl) Wd) Zn) ZO Tryz.func162 (by kernel_rfl) (by kernel_rfl) (by kernel_rfl) b6r
theorem c2p:Zr Tryz.prog 227 (fun x:List Fact×FnV 162×Unit=>Zp x.1) (fun x:List Fact×FnV 162×Unit=>Zy (fun f:Fact=> !(Zg f.l)) x.1):=Zr.of (T:=BZ) (ic:=KI) (rs:=J5) (Zb (Yn Tryz.func162 (by kernel_rfl) c0f) Zn) ZO Tryz.func227 (by kernel_rfl) (by kernel_rfl) (by kernel_rfl) b6n
theorem c3v:Zr Tryz.prog 161 (fun x:List Fact×FnV 162×Unit=>Zp x.1) (fun x:List Fact×FnV 162×Unit=>x.1.any fun f:Fact=> !(Zg f.l)):=Zr.of (T:=b6i) (ic:=RD) (rs:=Oi) (Zb (Yn Tryz.func227 (by kernel_rfl) c2p) Zn) ZO Tryz.func161 (by kernel_rfl) (by kernel_rfl) (by kernel_rfl) b8o
theorem Hm:Zr Tryz.prog 95 (fun x:List Fact×Unit=>Zp x.1) (fun x:List Fact×Unit=>XN x.1):=Zr.of (T:=BB) (ic:=Da) (rs:=Df) (Zb (Yn Tryz.func161 (by kernel_rfl) c3v) Zn) ZO Tryz.func95 (by kernel_rfl) (by kernel_rfl) (by kernel_rfl) O5
end Go.Proofs.YtjfgiaooglnomaaGreatDoor

namespace Go.Proofs.YtjfgiaooglnomaaGreatDoor
open Go.Shelf
def Tryz.laysC15_ren:Go.Shelf.Ren:=⟨fun|15=>104|n=>n,fun|22=>34|3=>3|4=>4|n=>n,fun|n=>n⟩
theorem Tryz.laysC15:Go.Proofs.Lays2.n15 Tryz.prog Tryz.laysC15_ren:={
 mixed:=by kernel_rfl
 f15:=Tryz.func104.trans (congrArg some (by kernel_rfl))
 t3:=Tryz.underlying3
 a3:=Tryz.isAgg3
 z3:=Tryz.sizeOf3
 v3:=Tryz.zeroValue3
 t4:=Tryz.underlying4
 a4:=Tryz.isAgg4
 z4:=Tryz.sizeOf4
 v4:=Tryz.zeroValue4
 t22:=Tryz.underlying34
 a22:=Tryz.isAgg34
 z22:=Tryz.sizeOf34
 v22:=Tryz.zeroValue34
 i3:=by kernel_rfl}
def Tryz.lays194_ren:Go.Shelf.Ren:=⟨fun|194=>187|n=>n,fun|31=>76|9=>9|3=>3|4=>4|0=>0|n=>n,fun|n=>n⟩
theorem Tryz.lays194:Go.Proofs.Lays.n194 Tryz.prog Tryz.lays194_ren:={
 mixed:=by kernel_rfl
 f194:=Tryz.func187.trans (congrArg some (by kernel_rfl))
 t0:=Tryz.underlying0
 a0:=Tryz.isAgg0
 z0:=Tryz.sizeOf0
 v0:=Tryz.zeroValue0
 t3:=Tryz.underlying3
 a3:=Tryz.isAgg3
 z3:=Tryz.sizeOf3
 v3:=Tryz.zeroValue3
 t4:=Tryz.underlying4
 a4:=Tryz.isAgg4
 z4:=Tryz.sizeOf4
 v4:=Tryz.zeroValue4
 t9:=Tryz.underlying9
 a9:=Tryz.isAgg9
 z9:=Tryz.sizeOf9
 v9:=Tryz.zeroValue9
 t31:=Tryz.underlying76
 a31:=Tryz.isAgg76
 z31:=Tryz.sizeOf76
 v31:=Tryz.zeroValue76}
end Go.Proofs.YtjfgiaooglnomaaGreatDoor

namespace Go.Proofs.YtjfgiaooglnomaaGreatDoor
open Go.Pl
open Enc (enc dec is)
open EncL (encL decL isL)
set_option maxRecDepth 100000
theorem a4w:Zr Tryz.prog 182 (fun x:Str×Unit=>decide (x.1.s.length<=281474976710656)) (fun x:Str×Unit=>Yv x.1):=Xk (by
  rintro⟨⟨s⟩,⟨⟩⟩ hps Φ w vs hL hΦ hv
  have hs:s.length<=281474976710656:=by simpa using hps
  obtain⟨v,rfl,h1⟩:=b9k hv
  rw[Nf h1]
  have hsz:(⟨s.toArray⟩:ByteArray).size=s.length:=rfl
  cases h:Lib.atoiAll s
  ·rename_i n
   have e1:Yv ⟨s⟩=(n,⟨false⟩):=by simp only[Yv,h]
   rw[e1]
   refine(Any.strconv_Atoi_ok Tryz.lays172 ⟨s.toArray⟩ (by rw[hsz];omega) n h w).mono ?_
   rintro e w' ⟨rfl,hw⟩
   refine⟨_,rfl,.tup _ _ rfl ?_,?_⟩
   ·intro j v x hv hx
    match j with
    | 0=>cases hv;cases hx;exact .int _ _
    | 1=>cases hv;cases hx;exact .nili
    | j+2=>simp at hv
   ·rcases hw with rfl|⟨t,rfl⟩
    ·exact .refl _ _
    ·exact DF _ _ 0 _
  ·skip
   have e1:Yv ⟨s⟩=(0,⟨true⟩):=by simp only[Yv,h]
   rw[e1]
   obtain⟨cs,hc,ev,he,hev⟩:=hL.syn
   refine(Any.strconv_Atoi_syntax Tryz.lays172 ⟨s.toArray⟩ (by rw[hsz];omega) h ev w (KU hΦ hc he) hev).mono ?_
   rintro e w' ⟨N,rfl,_,_,hb⟩
   refine⟨_,rfl,.tup _ _ rfl ?_,hb⟩
   intro j v x hv hx
   match j with
   | 0=>cases hv;cases hx;exact .int _ _
   | 1=>cases hv;cases hx;exact .ifc _ _
   | j+2=>simp at hv
  ·skip
   have e1:Yv ⟨s⟩=(Lib.atoiSat s,⟨true⟩):=by simp only[Yv,h]
   rw[e1]
   obtain⟨cs,hc,ev,he,hev⟩:=hL.rng
   refine(Any.strconv_Atoi_range Tryz.lays172 ⟨s.toArray⟩ (by rw[hsz];omega) h ev w (KU hΦ hc he) hev).mono ?_
   rintro e w' ⟨N,rfl,_,_,hb⟩
   refine⟨_,rfl,.tup _ _ rfl ?_,hb⟩
   intro j v x hv hx
   match j with
   | 0=>cases hv;cases hx;exact .int _ _
   | 1=>cases hv;cases hx;exact .ifc _ _
   | j+2=>simp at hv)
theorem DL:Zr Tryz.prog 119 (fun x:Str×Unit=>decide (x.1.s.length<=281474976710656)) (fun x:Str×Unit=>ZA x.1):=Zr.of (T:=XD) (ic:=Y5) (rs:=Y6) (Zb (Yn Tryz.func152 (by kernel_rfl) Jh) (Zb (Yn Tryz.func182 (by kernel_rfl) a4w) (Zb (Yn Tryz.func76 (by kernel_rfl) LF) Zn))) ZO Tryz.func119 (by kernel_rfl) (by kernel_rfl) (by kernel_rfl) OE
theorem a6s:Zr Tryz.prog 183 (fun x:List Str×Str×Unit=>Zx x.1) (fun x:List Str×Str×Unit=>Zy (fun s:Str=>decide (s=x.2.1)) x.1):=Zr.of (T:=UQ) (ic:=VA) (rs:=VF) Zn ZO Tryz.func183 (by kernel_rfl) (by kernel_rfl) (by kernel_rfl) OG
theorem Gd:Zr Tryz.prog 120 (fun x:List Str×Str×Unit=>Zx x.1) (fun x:List Str×Str×Unit=>x.1.contains x.2.1):=Zr.of (T:=Pg) (ic:=Bd) (rs:=Ap) (Zb (Yn Tryz.func183 (by kernel_rfl) a6s) Zn) ZO Tryz.func120 (by kernel_rfl) (by kernel_rfl) (by kernel_rfl) a2x
theorem Kw:Zr Tryz.prog 50 (fun x:BoxT×Unit=>ZT x.1) (fun x:BoxT×Unit=>Xy x.1):=Zr.of (T:=UT) (ic:=VC) (rs:=VK) (Zb (Yn Tryz.func119 (by kernel_rfl) DL) (Zb (Yn Tryz.func120 (by kernel_rfl) Gd) Zn)) ZO Tryz.func50 (by kernel_rfl) (by kernel_rfl) (by kernel_rfl) EJ
theorem c3g:ZU Tryz.prog 48 Kh KT:=c5u (T:=Vi) (ic:=Wm) (rs:=Wp) Zn ZO Tryz.func48 (by kernel_rfl) (by kernel_rfl) (by kernel_rfl) FC
theorem b5u:ZU Tryz.prog 174 Ux QW:=WE (T:=YI) (ic:=Yt) (rs:=Yq) Zn ZO Tryz.func174 (by kernel_rfl) (by kernel_rfl) (by kernel_rfl) a6j
theorem b0u:ZU Tryz.prog 174 Uw KY:=WE (T:=YI) (ic:=Yt) (rs:=Yq) Zn ZO Tryz.func174 (by kernel_rfl) (by kernel_rfl) (by kernel_rfl) F7
theorem CY:Zr Tryz.prog 174 (fun x:Lin×Unit=>decide (x.1.t.length<=1000000)) (fun x:Lin×Unit=>Ze x.1):=Zr.of (T:=YI) (ic:=Yt) (rs:=Yq) Zn ZO Tryz.func174 (by kernel_rfl) (by kernel_rfl) (by kernel_rfl) FU
theorem c3t:ZU Tryz.prog 176 KX Cn:=WE (T:=F4) (ic:=P7) (rs:=RI) (Zb (Yn Tryz.func120 (by kernel_rfl) Gd) Zn) ZO Tryz.func176 (by kernel_rfl) (by kernel_rfl) (by kernel_rfl) b3m
theorem c4q:ZU Tryz.prog 238 (X9 176) Ce:=WE (T:=Ji) (ic:=UZ) (rs:=Qo) (Zb (Yn Tryz.func176 (by kernel_rfl) c3t) Zn) ZO Tryz.func238 (by kernel_rfl) (by kernel_rfl) (by kernel_rfl) b8x
theorem b3k:ZU Tryz.prog 175 (X9 176) PW:=WE (T:=a0o) (ic:=Ay) (rs:=R6) (Zb (Yn Tryz.func238 (by kernel_rfl) c4q) Zn) ZO Tryz.func175 (by kernel_rfl) (by kernel_rfl) (by kernel_rfl) b7q
theorem Qh:Zr Tryz.prog 116 (fun x:BoxT×List Fact×Bool×NilS×Unit=>ZT x.1&&Zp x.2.1&&decide (x.2.1.length<=100)) (fun x:BoxT×List Fact×Bool×NilS×Unit=>Zo x.1 x.2.1 x.2.2.1 []):=Zr.of (T:=Yr) (ic:=Yh) (rs:=Yi) (Zb (Yn Tryz.func50 (by kernel_rfl) Kw) (Zb (Yn Tryz.func95 (by kernel_rfl) Hm) (Zb (Yn Tryz.func174 (by kernel_rfl) CY) (Zb (Yn Tryz.func175 (by kernel_rfl) b3k) Zn)))) ZO Tryz.func116 (by kernel_rfl) (by kernel_rfl) (by kernel_rfl) Ol
theorem Eo:ZU Tryz.prog 116 WN Uy:=WE (T:=Yr) (ic:=Yh) (rs:=Yi) (Zb (Yn Tryz.func50 (by kernel_rfl) Kw) (Zb (Yn Tryz.func95 (by kernel_rfl) Hm) (Zb (Yn Tryz.func174 (by kernel_rfl) CY) (Zb (Yn Tryz.func175 (by kernel_rfl) b3k) Zn)))) ZO Tryz.func116 (by kernel_rfl) (by kernel_rfl) (by kernel_rfl) Le
end Go.Proofs.YtjfgiaooglnomaaGreatDoor

namespace Go.Proofs.YtjfgiaooglnomaaGreatDoor
open Go.Pl
open Enc (enc dec is)
open EncL (encL decL isL)
set_option maxRecDepth 100000
theorem Mx:Zr Tryz.prog 65 (fun x:Lin×List Coef×Unit=>YC x.1&&decide (x.2.1.length<=9223372036854775807)) (fun x:Lin×List Coef×Unit=>ZX x.1 x.2.1):=Zr.of (T:=XT) (ic:=Xe) (rs:=Xb) (Zb (Yn Tryz.func20 (by kernel_rfl) RZ) Zn) ZO Tryz.func65 (by kernel_rfl) (by kernel_rfl) (by kernel_rfl) a2w
end Go.Proofs.YtjfgiaooglnomaaGreatDoor

namespace Go.Proofs.YtjfgiaooglnomaaGreatDoor
open Go.Pl
open Enc (enc dec is)
open EncL (encL decL isL)
set_option maxRecDepth 100000
theorem b4g:ZU Tryz.prog 89 Qy Ja:=a3z Ms
theorem a3o:ZU Tryz.prog 66 Ke Je:=WE (T:=Uh) (ic:=WT) (rs:=WZ) (Zb (Yn Tryz.func89 (by kernel_rfl) b4g) Zn) ZO Tryz.func66 (by kernel_rfl) (by kernel_rfl) (by kernel_rfl) Eh
theorem PK:Zr Tryz.prog 66 (fun x:Lin×Lin×Int×Unit=>decide (x.1.t.length<=500000)&&decide (x.2.1.t.length<=500000)) (fun x:Lin×Lin×Int×Unit=>Vm x.1 x.2.1 x.2.2.1):=Oh a3o
theorem c1l:ZU Tryz.prog 110 BL R8:=WE (T:=b4n) (ic:=Oj) (rs:=Oa) Zn ZO Tryz.func110 (by kernel_rfl) (by kernel_rfl) (by kernel_rfl) b7o
theorem c3c:ZU Tryz.prog 109 (QX 110) Cg:=WE (T:=BP) (ic:=KE) (rs:=JF) (Zb (Yn Tryz.func110 (by kernel_rfl) c1l) Zn) ZO Tryz.func109 (by kernel_rfl) (by kernel_rfl) (by kernel_rfl) b6o
theorem Ua:Zr Tryz.prog 38 (fun x:Lin×List Coef×Unit=>ZP x.1&&decide (x.2.1.length<=9223372036854775807)) (fun x:Lin×List Coef×Unit=>ZX x.1 x.2.1):=Zr.of (T:=DX) (ic:=KN) (rs:=Kv) (Zb (Yn Tryz.func73 (by kernel_rfl) Wd) (Zb (Yn Tryz.func109 (by kernel_rfl) c3c) Zn)) ZO Tryz.func38 (by kernel_rfl) (by kernel_rfl) (by kernel_rfl) b9u
theorem b6t:ZU Tryz.prog 239 JK GM:=WE (T:=c3k) (ic:=b3e) (rs:=b1c) (Zb (Yn Tryz.func38 (by kernel_rfl) Ua) Zn) ZO Tryz.func239 (by kernel_rfl) (by kernel_rfl) (by kernel_rfl) c6o
theorem c2v:ZU Tryz.prog 227 (WH 239) Cc:=WE (T:=Bb) (ic:=Jy) (rs:=JC) (Zb (Yn Tryz.func239 (by kernel_rfl) b6t) Zn) ZO Tryz.func227 (by kernel_rfl) (by kernel_rfl) (by kernel_rfl) c0p
theorem c5h:ZU Tryz.prog 161 (WH 239) Ci:=WE (T:=a8z) (ic:=Oe) (rs:=FH) (Zb (Yn Tryz.func227 (by kernel_rfl) c2v) Zn) ZO Tryz.func161 (by kernel_rfl) (by kernel_rfl) (by kernel_rfl) b9l
theorem PL:Zr Tryz.prog 178 (fun x:List Fact×List Coef×Unit=>Zp x.1&&decide (x.2.1.length<=9223372036854775807)) (fun x:List Fact×List Coef×Unit=>x.1.all fun f=>YW f x.2.1):=Zr.of (T:=Aq) (ic:=Dq) (rs:=GD) (Zb (Yn Tryz.func161 (by kernel_rfl) c5h) Zn) ZO Tryz.func178 (by kernel_rfl) (by kernel_rfl) (by kernel_rfl) F8
end Go.Proofs.YtjfgiaooglnomaaGreatDoor

namespace Go.Proofs.YtjfgiaooglnomaaGreatDoor
open Go.RowKit
theorem a0d{k:IntKind}{a b:Int}(h:a=b):Ending.returned (.int k a) = .returned (.int k b):=by rw[h]
theorem Aw{a b:Bool}(h:a=b):Ending.returned (.bool a) = .returned (.bool b):=by rw[h]
theorem b0a{W w1:World}(hb:Below W.heap.size W w1):(∀ b o,b<W.heap.size->w1.cell? ⟨b,o,none⟩=W.cell? ⟨b,o,none⟩)∧(∀ b o,b<W.heap.size->w1.frozen? ⟨b,o,none⟩=W.frozen? ⟨b,o,none⟩):=
 ⟨fun b o h=>hb.cell (p:=⟨b,o,none⟩) h,fun b o h=>hb.frozen (p:=⟨b,o,none⟩) h⟩
theorem Px(a:Addr)(n:Nat):(a.add n).block=a.block:=by unfold Addr.add;split <;> rfl
def Y2(w:World)(B size:Nat)(A:Option Addr)(n:Nat)(xs:List Value):Prop:=
 xs.length=n*size∧(0<n-> ∃ ad,A=some ad∧ad.block<B∧ ∀ j u,xs[j]? = some u->w.cell? (ad.add j)=some u)
section
variable {w w':World} {B B' size n:Nat} {A:Option Addr} {xs:List Value}
theorem Y2.at_{k:Nat}(h:Y2 w B 1 A n xs)(hk:k<n): ∃ ad u,A=some ad∧ad.block<B∧xs[k]? = some u∧w.cell? (ad.add k)=some u:=by
 obtain⟨ad,e,hb,hc⟩:=h.2 (by omega)
 have hl:k<xs.length:=by have:=h.1;omega
 exact⟨ad,xs[k],e,hb,List.getElem?_eq_getElem hl,hc k _ (List.getElem?_eq_getElem hl)⟩
theorem Y2.keep(h:Y2 w B size A n xs)(hk : ∀ p:Addr,p.block<B->w'.cell? p=w.cell? p):Y2 w' B size A n xs:=
 ⟨h.1,fun hn=>by
  obtain⟨ad,e,hb,hc⟩:=h.2 hn
  exact⟨ad,e,hb,fun j u hu=>(hk _ (by rw[Px];exact hb)).trans (hc j u hu)⟩⟩
theorem Y2.below(h:Y2 w B size A n xs)(hb:Below B w w'):Y2 w' B size A n xs:=h.keep fun _ hp=>hb.cell hp
theorem Y2.drew(h:Y2 w B size A n xs):Y2 w.drew B size A n xs:=h
theorem Y2.alloc(h:Y2 w B size A n xs)(hB:B<=w.heap.size)(o:Obj):Y2 (w.alloc o) B size A n xs:=h.keep fun p hp=>World.cell?_alloc_lt w o p (by omega)
theorem Y2.setCell(h:Y2 w B size A n xs){p:Addr}(hB:B<=p.block)(u:Value):Y2 (w.setCell p u) B size A n xs:=
 h.keep fun q hq=>World.cell?_setCell_other w p q u (fun e=>by subst e;omega)
theorem Y2.grown(h:Y2 w B size A n xs){row:Option Nat}(hg:w.grownBy w' row)(hB:B<=w.heap.size)(hr : ∀ g,row=some g->B<=g):Y2 w' B size A n xs:=
 h.keep fun p hp=>World.cell?_of_block (hg.block p.block (by omega) (fun e=>by have:=hr _ e.symm;omega))
theorem Y2.of_own{base:Nat}{e:TypeId}{c:Nat}(h:w.ownsRow base e size (.slice A n c) n xs):Y2 w w.heap.size size A n xs:=by
 refine⟨h.1,fun hn=> ?_⟩
 obtain⟨g,cap,hv,_,hlt⟩:=h.form hn
 have hA:A=some ⟨g,0,none⟩:=by injection hv
 subst hA
 exact⟨_,rfl,hlt,h.cells (g:=g) rfl⟩
theorem Y2.of_new(w:World)(e:TypeId)(cs:Array Value):Y2 (w.alloc (.cells cs e)) (w.heap.size+1) 1 (some ⟨w.heap.size,0,none⟩) cs.size cs.toList:=by
 refine⟨by simp,fun _=>⟨_,rfl,by simp,fun j u hu=> ?_⟩⟩
 have hj:j<cs.size:=by
  have:=(List.getElem?_eq_some_iff.1 hu).1
  simpa using this
 have hu':cs[j]? = some u:=by simpa using hu
 have:(⟨w.heap.size,0,none⟩:Addr).add j=⟨w.heap.size,j,none⟩:=by
  unfold Addr.add;by_cases h0:j=0 <;> simp[h0]
 rw[this,cell_of_row (w.alloc (.cells cs e)) w.heap.size j cs e (0,0) (heap_alloc_new w _)]
 exact hu'
end
def Qp(w:World)(g:Nat)(t:TypeId)(cs:Array Value):Prop:=w.heap[g]? = some (.cells cs t (0,0))
section
variable {w w':World} {g:Nat} {t:TypeId} {cs:Array Value}
theorem Qp.lt(h:Qp w g t cs):g<w.heap.size:=by
 rcases Nat.lt_or_ge g w.heap.size with hlt|hge
 ·exact hlt
 ·unfold Qp at h;rw[Array.getElem?_eq_none hge]at h;cases h
theorem Qp.cell(h:Qp w g t cs)(i:Nat):w.cell? ⟨g,i,none⟩=cs[i]? :=cell_of_row w g i cs t (0,0) h
theorem Qp.frozen(h:Qp w g t cs)(i:Nat):w.frozen? ⟨g,i,none⟩=false:=by
 unfold Qp at h
 simp[World.frozen?,h]
theorem Qp.new(w:World)(t:TypeId)(cs:Array Value):Qp (w.alloc (.cells cs t)) w.heap.size t cs:=heap_alloc_new w _
theorem Qp.drew(h:Qp w g t cs):Qp w.drew g t cs:=h
theorem Qp.alloc(h:Qp w g t cs)(o:Obj):Qp (w.alloc o) g t cs:=(Below.heap_alloc w o g h.lt).trans h
theorem Qp.set_(h:Qp w g t cs)(i:Nat)(u:Value):Qp (w.setCell ⟨g,i,none⟩ u) g t (cs.setIfInBounds i u):=by
 unfold Qp at h ⊢
 simp[World.setCell,Array.getElem?_modify,h]
theorem Qp.below{B:Nat}(h:Qp w g t cs)(hb:Below B w w')(hg:g<B):Qp w' g t cs:=(hb.block g hg).trans h
theorem Qp.grown{row:Option Nat}(h:Qp w g t cs)(hb:w.grownBy w' row)(hg:some g≠row):Qp w' g t cs:=(hb.block g h.lt hg).trans h
end
theorem SN(w:World)(row:Option Nat):w.grownBy w row:=World.grownBy.refl w row
theorem Uz{a w:World}{row:Option Nat}(h:a.grownBy w row):a.grownBy w.drew row:=⟨h.os,h.tape,h.output,h.size,h.block⟩
theorem X8{a w:World}{g:Nat}(h:a.grownBy w (some g)){p:Addr}(hp:p.block=g∨a.heap.size<=p.block)(u:Value):a.grownBy (w.setCell p u) (some g):=
 ⟨h.os,h.tape,h.output,by simpa [World.setCell]using h.size,fun i hi hne=>(Below.heap_setCell w p u i (by
  rintro rfl
  rcases hp with hp|hp
  ·exact hne (by rw[hp])
  ·omega)).trans (h.block i hi hne)⟩
end Go.Proofs.YtjfgiaooglnomaaGreatDoor
namespace Go.Proofs.YtjfgiaooglnomaaGreatDoor
open Go.RowKit
def rng(n:Int):Bool:=decide (-4611686018427387904<=n∧n<=4611686018427387904)
theorem Pm{n:Int}(h:rng n=true): -4611686018427387904<=n∧n<=4611686018427387904:=by simpa [rng]using h
theorem b3v{n:Int}(h : -4611686018427387904<=n∧n<=4611686018427387904):rng n=true:=by simpa [rng]using h
theorem Ut{n:Int}(h : ¬ (-4611686018427387904<=n∧n<=4611686018427387904)):rng n=false:=by simpa [rng]using h
def vR(n:Int):Int:=bif rng n then n else 0
def eR(n:Int):Int:=bif rng n then 0 else 2
theorem b5g(zs:List Int)(k:Nat)(x:Int)(hx:zs[k]? = some x):(zs.take (k+1)).all rng=((zs.take k).all rng&&rng x):=by
 have hk:k<zs.length:=(List.getElem?_eq_some_iff.1 hx).1
 rw[List.take_succ_eq_append_getElem hk]
 have:zs[k]=x:=by rw[List.getElem?_eq_getElem hk]at hx;exact Option.some.inj hx
 simp[this]
theorem a1m(zs:List Int)(k:Nat)(x:Int)(hx:zs[k]? = some x)(hr:rng x=false):zs.all rng=false:=by
 have hk:k<zs.length:=(List.getElem?_eq_some_iff.1 hx).1
 rw[List.all_eq_false]
 refine⟨x,List.mem_of_getElem? hx,by simp[hr]⟩
set_option maxHeartbeats 400000 in
theorem Bw(A:Option Addr)(n c:Nat)(zs:List Int)(w:World)(B:Nat)(hr:Y2 w B 1 A n (zs.map (Value.int .i64)))(hn:n<=9223372036854775807):
  Calls Tryz.prog 191 #[.slice A n c] w fun e w'=>e = .returned (.bool (zs.all rng))∧w=w':=by
 have hlen:=Lib.hid (show zs.length=n by have:=hr.1;simpa using this)
 go_enter Tryz.func191,Tryz.ntmps191
 go_wp2
 go_loop [7] (fun i=> ∃ k:Nat,k<=n∧i = .int .i64 k∧Hid ((zs.take k).all rng=true)) (fun i=>n - (intOf i).toNat)
 case atStart=>exact⟨0,Nat.zero_le _,rfl,Lib.hid (by simp)⟩
 case round=>
  obtain⟨k,hk,rfl,ha⟩:=hrel
  by_cases hlt:k<n
  ·obtain⟨ad,u,rfl,_,hu,hc⟩:=hr.at_ hlt
   rw[List.getElem?_map]at hu
   obtain⟨x,hx,rfl⟩:=Option.map_eq_some_iff.1 hu
   have HX:=Lib.hid hx
   clear hx hu
   by_cases h1 : -4611686018427387904<=x
   ·by_cases h2:x<=4611686018427387904
    ·have HA:Hid ((zs.take (k+1)).all rng=true):=Lib.hid (by rw[b5g zs k x HX.out,ha.out,b3v ⟨h1,h2⟩];rfl)
     go_wp2
     go_round
     case rel=>exact⟨k+1,by omega,by go_num,HA⟩
     case measure=>simp[intOf];omega
    ·go_wp2
     go_ret
     exact⟨Aw (by rw[a1m zs k x HX.out (Ut (by omega))]),rfl⟩
   ·go_wp2
    go_ret
    exact⟨Aw (by rw[a1m zs k x HX.out (Ut (by omega))]),rfl⟩
  ·go_wp2
   go_ret
   exact⟨Aw (by have:=ha.out;rw[List.take_of_length_le (by rw[hlen.out];omega)]at this;rw[this]),rfl⟩
set_option maxHeartbeats 400000 in
theorem Dr(n:Int)(w:World):
  Calls Tryz.prog 253 #[.int .i64 n] w fun e w'=>e = .returned (.tuple #[.int .i64 (vR n),.int .i64 (eR n)])∧Below w.heap.size w w':=by
 have H1:=fun c=>Bw (some ⟨w.heap.size,0,none⟩) 1 c [n] (w.alloc (.cells #[.int .i64 n] 3)) (w.heap.size+1) (Y2.of_new w 3 #[.int .i64 n]) (by omega)
 cases hr:rng n
 all_goals
  simp only[List.all_cons,List.all_nil,hr,Bool.and_true]at H1
  have H2:=Lib.hid H1
  clear H1
  go_enter Tryz.func253,Tryz.ntmps253
  go_wp2_with (go_at_call 191;refine(H2.out _).mono ?_;rintro e w' ⟨rfl,rfl⟩)
  go_ret2
  exact⟨by simp[vR,eR,hr],(Below.refl _ _).alloc (Nat.le_refl _) _⟩
end Go.Proofs.YtjfgiaooglnomaaGreatDoor
namespace Go.Proofs.YtjfgiaooglnomaaGreatDoor
open Go.RowKit
set_option maxHeartbeats 400000 in
theorem Gc(n:Int)(w:World)(h : -4611686018427387904<=n∧n<=4611686018427387904):
  Calls Tryz.prog 249 #[.int .i64 n] w fun e w'=>e = .returned (.int .i64 (n.natAbs:Int))∧w=w':=by
 obtain⟨h1,h2⟩:=h
 by_cases h0:n<0
 ·go_enter Tryz.func249,Tryz.ntmps249
  go_wp2
  go_ret
  exact⟨a0d (by omega),rfl⟩
 ·go_enter Tryz.func249,Tryz.ntmps249
  go_wp2
  go_ret
  exact⟨a0d (by omega),rfl⟩
end Go.Proofs.YtjfgiaooglnomaaGreatDoor
namespace Go.Proofs.YtjfgiaooglnomaaGreatDoor
open Go.RowKit
def Pv(a b:Int):Int:=bif rng a&&rng b&&rng (a*b)then a*b else 0
def Ro(a b:Int):Int:=bif rng a&&rng b&&rng (a*b)then 0 else 2
theorem Pp(a b:Int)(w:World):
  Calls Tryz.prog 191 #[.slice (some ⟨w.heap.size,0,none⟩) 2 2] (w.alloc (.cells #[.int .i64 a,.int .i64 b] 3)) fun e w'=>e = .returned (.bool (rng a&&rng b))∧w.alloc (.cells #[.int .i64 a,.int .i64 b] 3)=w':=by
 have h:=Bw (some ⟨w.heap.size,0,none⟩) 2 2 [a,b] (w.alloc (.cells #[.int .i64 a,.int .i64 b] 3)) (w.heap.size+1) (Y2.of_new w 3 #[.int .i64 a,.int .i64 b]) (by omega)
 simpa using h
theorem b9n{a b:Int}(h:(rng a&&rng b)=true):(-4611686018427387904<=a∧a<=4611686018427387904)∧(-4611686018427387904<=b∧b<=4611686018427387904):=by
 rw[Bool.and_eq_true]at h
 exact⟨Pm h.1,Pm h.2⟩
end Go.Proofs.YtjfgiaooglnomaaGreatDoor
namespace Go.Proofs.YtjfgiaooglnomaaGreatDoor
open Go.RowKit
theorem Fx(x y c:Nat)(hc:c<=1)(w:World):
  (callFunc 250 #[.int .u64 x,.int .u64 y,.int .u64 c]).run Tryz.prog w =
   .ok (.value (.tuple #[.int .u64 (((x+y+c) % 18446744073709551616:Nat):Int),.int .u64 (((x+y+c) / 18446744073709551616:Nat):Int)])) w:=by
 rw[run_callFunc_extern Tryz.func250 (by kernel_rfl) (by kernel_rfl) (by kernel_rfl) (e:=add64Entry) (by kernel_rfl),run_add64 x y c (by omega) (by omega) (by omega) (by omega)]
 simp only[Result.andThen]
 congr 5 <;> omega
end Go.Proofs.YtjfgiaooglnomaaGreatDoor
namespace Go.Proofs.YtjfgiaooglnomaaGreatDoor
open Go.RowKit
theorem Y9{k l:IntKind}{a b c d:Int}(h1:a=c)(h2:b=d):Ending.returned (.tuple #[.int k a,.int l b]) = .returned (.tuple #[.int k c,.int l d]):=by rw[h1,h2]
theorem a9i(a:Nat)(ha:a<18446744073709551616):bits .and .u64 (a:Int) 4294967295=((a % 4294967296:Nat):Int):=by
 have h:=bits_and_u64_nat a 4294967295 ha (by omega)
 have e:a &&& 4294967295=a % 4294967296:=Nat.and_two_pow_sub_one_eq_mod a 32
 rw[e]at h
 exact h
theorem c9y(a:Nat):(a:Int) / 4294967296=((a / 4294967296:Nat):Int):=by omega
theorem c9p(a b:Nat):(a:Int)*(b:Int)=((a*b:Nat):Int):=(Int.natCast_mul a b).symm
theorem c9g(a b:Nat):(a:Int)+(b:Int)=((a+b:Nat):Int):=(Int.natCast_add a b).symm
theorem DI(a:Nat)(ha:a<18446744073709551616):IntKind.u64.wrap (a:Int)=(a:Int):=by rw[IntKind.wrap_u64];omega
theorem c8k(a:Nat):IntKind.u64.wrap (a:Int)=((a % 18446744073709551616:Nat):Int):=by rw[IntKind.wrap_u64];omega
set_option maxHeartbeats 1000000 in
theorem b5x(x y:Nat)(hx:x<18446744073709551616)(hy:y<18446744073709551616)(w:World):
  Calls Tryz.prog 248 #[.int .u64 x,.int .u64 y] w fun e w'=>e = .returned (.tuple #[.int .u64 ((x*y / 18446744073709551616:Nat):Int),.int .u64 ((x*y % 18446744073709551616:Nat):Int)])∧w'=w:=by
 obtain⟨bd,bt,bw,hhi⟩:=Lib.mul64_hi x y hx hy
 have ba:=Lib.half_mul_le (a:=x / 4294967296) (b:=y / 4294967296) (by omega) (by omega)
 have bb:=Lib.half_mul_le (a:=x / 4294967296) (b:=y % 4294967296) (by omega) (by omega)
 have bc:=Lib.half_mul_le (a:=x % 4294967296) (b:=y / 4294967296) (by omega) (by omega)
 have ba':x / 4294967296*(y / 4294967296)<18446744073709551616:=by omega
 have bb':x / 4294967296*(y % 4294967296)<18446744073709551616:=by omega
 have bc':x % 4294967296*(y / 4294967296)<18446744073709551616:=by omega
 have bh1:x / 4294967296*(y / 4294967296)+(x / 4294967296*(y % 4294967296)+x % 4294967296*(y % 4294967296) / 4294967296) / 4294967296<18446744073709551616:=by omega
 have bh:x / 4294967296*(y / 4294967296)+(x / 4294967296*(y % 4294967296)+x % 4294967296*(y % 4294967296) / 4294967296) / 4294967296+((x / 4294967296*(y % 4294967296)+x % 4294967296*(y % 4294967296) / 4294967296) % 4294967296+x % 4294967296*(y / 4294967296)) / 4294967296<18446744073709551616:=by omega
 have HH:=Lib.hid hhi
 clear hhi
 go_enter Tryz.func248,Tryz.ntmps248
 go_wp2
 simp only[a9i x hx,a9i y hy,c9y,c9p,c9g,DI _ bd,DI _ bb',DI _ bt,a9i _ bt,DI _ bc',DI _ bw,DI _ ba',DI _ bh1,DI _ bh,c8k (x*y)]
 rw[HH.out]
 go_ret2
 exact⟨rfl,rfl⟩
end Go.Proofs.YtjfgiaooglnomaaGreatDoor
namespace Go.Proofs.YtjfgiaooglnomaaGreatDoor
open Go.RowKit
theorem LD(x y:Nat)(hx:x<=4611686018427387904)(hy:y<=4611686018427387904)(w:World):
  (x*y<=4611686018427387904∧Calls Tryz.prog 248 #[.int .u64 x,.int .u64 y] w fun e w'=>e = .returned (.tuple #[.int .u64 0,.int .u64 ((x*y:Nat):Int)])∧w=w') ∨
  (4611686018427387904<x*y∧ ∃ h l:Nat,0<h∧Calls Tryz.prog 248 #[.int .u64 x,.int .u64 y] w fun e w'=>e = .returned (.tuple #[.int .u64 (h:Int),.int .u64 (l:Int)])∧w=w') ∨
  (4611686018427387904<x*y∧ ∃ l:Nat,4611686018427387904<l∧Calls Tryz.prog 248 #[.int .u64 x,.int .u64 y] w fun e w'=>e = .returned (.tuple #[.int .u64 0,.int .u64 (l:Int)])∧w=w'):=by
 have h:=b5x x y (by omega) (by omega) w
 generalize x*y=p at *
 by_cases hp:p<=4611686018427387904
 ·refine .inl ⟨hp,h.mono ?_⟩
  rintro e w' ⟨rfl,rfl⟩
  exact⟨Y9 (by omega) (by omega),rfl⟩
 ·by_cases hh:p<18446744073709551616
  ·refine .inr (.inr ⟨by omega,p,by omega,h.mono ?_⟩)
   rintro e w' ⟨rfl,rfl⟩
   exact⟨Y9 (by omega) (by omega),rfl⟩
  ·refine .inr (.inl ⟨by omega,p / 18446744073709551616,p % 18446744073709551616,by omega,h.mono ?_⟩)
   rintro e w' ⟨rfl,rfl⟩
   exact⟨rfl,rfl⟩
theorem b7x(a b:Int):(a.natAbs*b.natAbs:Nat)=(a*b).natAbs:=(Int.natAbs_mul a b).symm
theorem Jo(a b:Int)(h:(!decide (a<0)==decide (b<0))=true):a*b = -((a.natAbs*b.natAbs:Nat):Int):=by
 rw[Int.natCast_mul]
 by_cases ha:a<0 <;> by_cases hb:b<0
 ·simp[ha,hb]at h
 ·rw[Int.ofNat_natAbs_of_nonpos (by omega),Int.natAbs_of_nonneg (by omega),Int.neg_mul,Int.neg_neg]
 ·rw[Int.ofNat_natAbs_of_nonpos (a:=b) (by omega),Int.natAbs_of_nonneg (a:=a) (by omega),Int.mul_neg,Int.neg_neg]
 ·simp[ha,hb]at h
theorem Jm(a b:Int)(h:(!decide (a<0)==decide (b<0))=false):a*b=((a.natAbs*b.natAbs:Nat):Int):=by
 rw[Int.natCast_mul]
 by_cases ha:a<0 <;> by_cases hb:b<0
 ·rw[Int.ofNat_natAbs_of_nonpos (by omega),Int.ofNat_natAbs_of_nonpos (by omega),Int.neg_mul_neg]
 ·simp[ha,hb]at h
 ·simp[ha,hb]at h
 ·rw[Int.natAbs_of_nonneg (by omega),Int.natAbs_of_nonneg (by omega)]
set_option maxRecDepth 20000 in
set_option maxHeartbeats 400000 in
theorem b8k(a b:Int)(w:World):
  Calls Tryz.prog 247 #[.int .i64 a,.int .i64 b] w fun e w'=>e = .returned (.tuple #[.int .i64 (Pv a b),.int .i64 (Ro a b)])∧Below w.heap.size w w':=by
 cases hr:(rng a&&rng b)
 ·have he:Ro a b=2:=by simp[Ro,hr]
  have hv:Pv a b=0:=by simp[Pv,hr]
  rw[he,hv]
  clear he hv
  go_enter Tryz.func247,Tryz.ntmps247
  go_wp2_with (go_at_call 191;refine(Pp _ _ _).mono ?_;rintro e w' ⟨rfl,rfl⟩)
  go_ret2
  exact⟨rfl,(Below.refl _ _).alloc (Nat.le_refl _) _⟩
 ·obtain⟨ha,hb⟩:=b9n hr
  have hspec:(a.natAbs*b.natAbs<=4611686018427387904->Pv a b=a*b∧Ro a b=0)∧(4611686018427387904<a.natAbs*b.natAbs->Pv a b=0∧Ro a b=2):=by
   rw[b7x]
   constructor
   ·intro h
    have h1:rng (a*b)=true:=b3v (by omega)
    simp[Pv,Ro,hr,h1]
   ·intro h
    have h1:rng (a*b)=false:=Ut (by omega)
    simp[Pv,Ro,hr,h1]
  have HS:=Lib.hid hspec
  clear hspec
  have hsg:=Lib.hid (And.intro (Jo a b) (Jm a b))
  have hc:=LD a.natAbs b.natAbs (by omega) (by omega) (w.alloc (.cells #[.int .i64 a,.int .i64 b] 3))
  have hna:(a.natAbs:Int)<=4611686018427387904:=by omega
  have hnb:(b.natAbs:Int)<=4611686018427387904:=by omega
  have HA:=Lib.hid ha
  have HB:=Lib.hid hb
  have hza:(0:Int)<=(a.natAbs:Int):=by omega
  have hzb:(0:Int)<=(b.natAbs:Int):=by omega
  clear ha hb
  rcases hc with ⟨hp,h⟩|⟨hp,h,l,hh,h2⟩|⟨hp,l,hl,h2⟩
  ·generalize a.natAbs*b.natAbs=p at *
   have H:=Lib.hid h
   clear h
   obtain⟨e1,e2⟩:=HS.out.1 hp
   rw[e1,e2]
   clear e1 e2 HS
   have hp1:(p:Int)<=4611686018427387904:=by omega
   clear hp
   go_enter Tryz.func247,Tryz.ntmps247
   go_wp2_with (first
    | (go_at_call 191;refine(Pp _ _ _).mono ?_;rintro e w' ⟨rfl,rfl⟩)
    | (go_at_call 249;refine(Gc _ _ (by first|exact HA.out|exact HB.out)).mono ?_;rintro e w' ⟨rfl,rfl⟩)
    | (go_at_call 248;refine H.out.mono ?_;rintro e w' ⟨rfl,rfl⟩))
   all_goals go_ret2
   all_goals first
    | exact⟨Y9 (hsg.out.1 ‹_›).symm rfl,(Below.refl _ _).alloc (Nat.le_refl _) _⟩
    | exact⟨Y9 (hsg.out.2 ‹_›).symm rfl,(Below.refl _ _).alloc (Nat.le_refl _) _⟩
  ·generalize a.natAbs*b.natAbs=p at *
   have H:=Lib.hid h2
   clear h2
   obtain⟨e1,e2⟩:=HS.out.2 hp
   rw[e1,e2]
   clear e1 e2 HS
   have hh1:(0:Int)<(h:Int):=by omega
   clear hp hh
   go_enter Tryz.func247,Tryz.ntmps247
   go_wp2_with (first
    | (go_at_call 191;refine(Pp _ _ _).mono ?_;rintro e w' ⟨rfl,rfl⟩)
    | (go_at_call 249;refine(Gc _ _ (by first|exact HA.out|exact HB.out)).mono ?_;rintro e w' ⟨rfl,rfl⟩)
    | (go_at_call 248;refine H.out.mono ?_;rintro e w' ⟨rfl,rfl⟩))
   go_ret2
   exact⟨rfl,(Below.refl _ _).alloc (Nat.le_refl _) _⟩
  ·generalize a.natAbs*b.natAbs=p at *
   have H:=Lib.hid h2
   clear h2
   obtain⟨e1,e2⟩:=HS.out.2 hp
   rw[e1,e2]
   clear e1 e2 HS
   have hh1:(4611686018427387904:Int)<(l:Int):=by omega
   clear hp hl
   go_enter Tryz.func247,Tryz.ntmps247
   go_wp2_with (first
    | (go_at_call 191;refine(Pp _ _ _).mono ?_;rintro e w' ⟨rfl,rfl⟩)
    | (go_at_call 249;refine(Gc _ _ (by first|exact HA.out|exact HB.out)).mono ?_;rintro e w' ⟨rfl,rfl⟩)
    | (go_at_call 248;refine H.out.mono ?_;rintro e w' ⟨rfl,rfl⟩))
   go_ret2
   exact⟨rfl,(Below.refl _ _).alloc (Nat.le_refl _) _⟩
end Go.Proofs.YtjfgiaooglnomaaGreatDoor
namespace Go.Proofs.YtjfgiaooglnomaaGreatDoor
open Go.RowKit
end Go.Proofs.YtjfgiaooglnomaaGreatDoor
namespace Go.Proofs.YtjfgiaooglnomaaGreatDoor
open Go.RowKit
def XW(n:Nat):Nat:=n % 18446744073709551616
def Ws(n:Nat):Nat:=n / 18446744073709551616 % 18446744073709551616
def WU(n:Nat):Nat:=n / 340282366920938463463374607431768211456
def KM(P N:Nat):Array Value:=#[.int .u64 (XW P:Int),.int .u64 (Ws P:Int),.int .u64 (WU P:Int),.int .u64 (XW N:Int),.int .u64 (Ws N:Int),.int .u64 (WU N:Int)]
theorem a2n(P x:Nat)(hx:x<340282366920938463463374607431768211456)(h:P+x<6277101735386680763835789423207666416102355444464034512896):
  ∃ c0 c1 c2:Nat,
   (∀ w,(callFunc 250 #[.int .u64 (XW P:Int),.int .u64 ((x % 18446744073709551616:Nat):Int),.int .u64 0]).run Tryz.prog w = .ok (.value (.tuple #[.int .u64 (XW (P+x):Int),.int .u64 (c0:Int)])) w) ∧
   (∀ w,(callFunc 250 #[.int .u64 (Ws P:Int),.int .u64 ((x / 18446744073709551616:Nat):Int),.int .u64 (c0:Int)]).run Tryz.prog w = .ok (.value (.tuple #[.int .u64 (Ws (P+x):Int),.int .u64 (c1:Int)])) w) ∧
   (∀ w,(callFunc 250 #[.int .u64 (WU P:Int),.int .u64 0,.int .u64 (c1:Int)]).run Tryz.prog w = .ok (.value (.tuple #[.int .u64 (WU (P+x):Int),.int .u64 (c2:Int)])) w):=by
 have e1:=fun c (hc:c<=1) w=>Fx (XW P) (x % 18446744073709551616) c hc w
 have e2:=fun c (hc:c<=1) w=>Fx (Ws P) (x / 18446744073709551616) c hc w
 have e3:=fun c (hc:c<=1) w=>Fx (WU P) 0 c hc w
 refine⟨(XW P+x % 18446744073709551616+0) / 18446744073709551616,(Ws P+x / 18446744073709551616+(XW P+x % 18446744073709551616+0) / 18446744073709551616) / 18446744073709551616,
  (WU P+0+(Ws P+x / 18446744073709551616+(XW P+x % 18446744073709551616+0) / 18446744073709551616) / 18446744073709551616) / 18446744073709551616,fun w=> ?_,fun w=> ?_,fun w=> ?_⟩
 ·refine(e1 0 (by omega) w).trans ?_
  congr 7
  unfold XW;omega
 ·refine(e2 _ (by unfold XW;omega) w).trans ?_
  congr 7
  unfold XW Ws;omega
 ·refine(e3 _ (by unfold XW Ws;omega) w).trans ?_
  congr 7
  unfold XW Ws WU;omega
theorem NL(P:Nat)(a b:Int)(ha : -4611686018427387904<=a∧a<=4611686018427387904)(hb : -4611686018427387904<=b∧b<=4611686018427387904)
  (h:P+a.natAbs*b.natAbs<6277101735386680763835789423207666416102355444464034512896) :
  ∃ lo hi c0 c1 c2:Nat,
   (∀ w,Calls Tryz.prog 248 #[.int .u64 (a.natAbs:Int),.int .u64 (b.natAbs:Int)] w fun e w'=>e = .returned (.tuple #[.int .u64 (hi:Int),.int .u64 (lo:Int)])∧w=w') ∧
   (∀ w,(callFunc 250 #[.int .u64 (XW P:Int),.int .u64 (lo:Int),.int .u64 0]).run Tryz.prog w = .ok (.value (.tuple #[.int .u64 (XW (P+a.natAbs*b.natAbs):Int),.int .u64 (c0:Int)])) w) ∧
   (∀ w,(callFunc 250 #[.int .u64 (Ws P:Int),.int .u64 (hi:Int),.int .u64 (c0:Int)]).run Tryz.prog w = .ok (.value (.tuple #[.int .u64 (Ws (P+a.natAbs*b.natAbs):Int),.int .u64 (c1:Int)])) w) ∧
   (∀ w,(callFunc 250 #[.int .u64 (WU P:Int),.int .u64 0,.int .u64 (c1:Int)]).run Tryz.prog w = .ok (.value (.tuple #[.int .u64 (WU (P+a.natAbs*b.natAbs):Int),.int .u64 (c2:Int)])) w):=by
 have hm:=fun w=>b5x a.natAbs b.natAbs (by omega) (by omega) w
 have hx:a.natAbs*b.natAbs<340282366920938463463374607431768211456:=by
  have:=Nat.mul_le_mul (show a.natAbs<=4611686018427387904 by omega) (show b.natAbs<=4611686018427387904 by omega)
  omega
 generalize a.natAbs*b.natAbs=x at *
 obtain⟨c0,c1,c2,h0,h1,h2⟩:=a2n P x hx h
 exact⟨_,_,c0,c1,c2,fun w=>(hm w).mono fun e w' ⟨he,hw⟩=>⟨he,hw.symm⟩,h0,h1,h2⟩
theorem a8a(P N Q:Nat):(((KM P N).setIfInBounds 0 (.int .u64 (XW Q:Int))).setIfInBounds 1 (.int .u64 (Ws Q:Int))).setIfInBounds 2 (.int .u64 (WU Q:Int))=KM Q N:=by simp[KM]
theorem b6d(P N Q:Nat):(((KM P N).setIfInBounds 3 (.int .u64 (XW Q:Int))).setIfInBounds 4 (.int .u64 (Ws Q:Int))).setIfInBounds 5 (.int .u64 (WU Q:Int))=KM P Q:=by simp[KM]
theorem b4c(x0 x1 x2:Value)(w:World):(Instr.index 221 (.agg #[x0,x1,x2]) (.int .i64 0)).run Tryz.prog w = .ok x0 w:=by kernel_rfl
theorem b2o(x0 x1 x2:Value)(w:World):(Instr.index 221 (.agg #[x0,x1,x2]) (.int .i64 1)).run Tryz.prog w = .ok x1 w:=by kernel_rfl
theorem b1j(x0 x1 x2:Value)(w:World):(Instr.index 221 (.agg #[x0,x1,x2]) (.int .i64 2)).run Tryz.prog w = .ok x2 w:=by kernel_rfl
set_option maxRecDepth 20000 in
set_option maxHeartbeats 1000000 in
theorem a2o(g P N:Nat)(a b:Int)(w:World)(ha : -4611686018427387904<=a∧a<=4611686018427387904)(hb : -4611686018427387904<=b∧b<=4611686018427387904)
  (h:P+a.natAbs*b.natAbs<6277101735386680763835789423207666416102355444464034512896) (hs:(!decide (a<0)==decide (b<0))=false) (hw:Qp w g 223 (KM P N)) :
  Calls Tryz.prog 192 #[.pointer (some ⟨g,0,none⟩),.int .i64 a,.int .i64 b] w fun e w'=>e = .returned (.tuple #[])∧Qp w' g 223 (KM (P+a.natAbs*b.natAbs) N)∧w.grownBy w' (some g):=by
 obtain⟨lo,hi,c0,c1,c2,hm,r0,r1,r2⟩:=NL P a b ha hb h
 generalize P+a.natAbs*b.natAbs=Q at *
 have HM:=Lib.hid hm
 have HA:=Lib.hid ha
 have HB:=Lib.hid hb
 have hna:(a.natAbs:Int)<=4611686018427387904:=by omega
 have hnb:(b.natAbs:Int)<=4611686018427387904:=by omega
 have k0:w.cell? ⟨g,0,none⟩=some (.int .u64 (XW P:Int)):=hw.cell 0
 have k1:w.cell? ⟨g,1,none⟩=some (.int .u64 (Ws P:Int)):=hw.cell 1
 have k2:w.cell? ⟨g,2,none⟩=some (.int .u64 (WU P:Int)):=hw.cell 2
 have f0:=hw.frozen 0
 have f1:=hw.frozen 1
 have f2:=hw.frozen 2
 have HW:=Lib.hid hw
 clear hm ha hb h hw
 go_enter Tryz.func192,Tryz.ntmps192
 go_wp2_with (first
  | (go_at_call 249;refine(Gc _ _ (by first|exact HA.out|exact HB.out)).mono ?_;rintro e w' ⟨rfl,rfl⟩)
  | (go_at_call 248;refine(HM.out _).mono ?_;rintro e w' ⟨rfl,rfl⟩))
 have i0:=b4c
 have i1:=b2o
 have i2:=b1j
 refine wp_loop_rounds 4 ?_
 rw[rounds_succ]
 go_wp2
 go_region
 all_goals go_wp2
 all_goals rw[rounds_succ]
 all_goals go_wp2
 all_goals go_region
 all_goals go_wp2
 all_goals rw[rounds_succ]
 all_goals go_wp2
 all_goals go_region
 all_goals go_wp2
 all_goals rw[rounds_succ]
 all_goals go_wp2
 go_end0
 refine⟨rfl,?_,?_⟩
 ·have h:=((HW.out.set_ 0 (.int .u64 (XW Q:Int))).set_ 1 (.int .u64 (Ws Q:Int))).set_ 2 (.int .u64 (WU Q:Int))
  rw[a8a]at h
  exact h.drew.drew.drew
 ·exact Uz (Uz (Uz (X8 (p:=⟨g,2,none⟩) (X8 (p:=⟨g,1,none⟩) (X8 (p:=⟨g,0,none⟩) (SN w (some g)) (.inl rfl) _) (.inl rfl) _) (.inl rfl) _)))
set_option maxRecDepth 20000 in
set_option maxHeartbeats 1000000 in
theorem a2p(g P N:Nat)(a b:Int)(w:World)(ha : -4611686018427387904<=a∧a<=4611686018427387904)(hb : -4611686018427387904<=b∧b<=4611686018427387904)
  (h:N+a.natAbs*b.natAbs<6277101735386680763835789423207666416102355444464034512896) (hs:(!decide (a<0)==decide (b<0))=true) (hw:Qp w g 223 (KM P N)) :
  Calls Tryz.prog 192 #[.pointer (some ⟨g,0,none⟩),.int .i64 a,.int .i64 b] w fun e w'=>e = .returned (.tuple #[])∧Qp w' g 223 (KM P (N+a.natAbs*b.natAbs))∧w.grownBy w' (some g):=by
 obtain⟨lo,hi,c0,c1,c2,hm,r0,r1,r2⟩:=NL N a b ha hb h
 generalize N+a.natAbs*b.natAbs=Q at *
 have HM:=Lib.hid hm
 have HA:=Lib.hid ha
 have HB:=Lib.hid hb
 have hna:(a.natAbs:Int)<=4611686018427387904:=by omega
 have hnb:(b.natAbs:Int)<=4611686018427387904:=by omega
 have k0:w.cell? ⟨g,3,none⟩=some (.int .u64 (XW N:Int)):=hw.cell 3
 have k1:w.cell? ⟨g,4,none⟩=some (.int .u64 (Ws N:Int)):=hw.cell 4
 have k2:w.cell? ⟨g,5,none⟩=some (.int .u64 (WU N:Int)):=hw.cell 5
 have f0:=hw.frozen 3
 have f1:=hw.frozen 4
 have f2:=hw.frozen 5
 have HW:=Lib.hid hw
 clear hm ha hb h hw
 go_enter Tryz.func192,Tryz.ntmps192
 go_wp2_with (first
  | (go_at_call 249;refine(Gc _ _ (by first|exact HA.out|exact HB.out)).mono ?_;rintro e w' ⟨rfl,rfl⟩)
  | (go_at_call 248;refine(HM.out _).mono ?_;rintro e w' ⟨rfl,rfl⟩))
 have i0:=b4c
 have i1:=b2o
 have i2:=b1j
 refine wp_loop_rounds 4 ?_
 rw[rounds_succ]
 go_wp2
 go_region
 all_goals go_wp2
 all_goals rw[rounds_succ]
 all_goals go_wp2
 all_goals go_region
 all_goals go_wp2
 all_goals rw[rounds_succ]
 all_goals go_wp2
 all_goals go_region
 all_goals go_wp2
 all_goals rw[rounds_succ]
 all_goals go_wp2
 go_end0
 refine⟨rfl,?_,?_⟩
 ·have h:=((HW.out.set_ 3 (.int .u64 (XW Q:Int))).set_ 4 (.int .u64 (Ws Q:Int))).set_ 5 (.int .u64 (WU Q:Int))
  rw[b6d]at h
  exact h.drew.drew.drew
 ·exact Uz (Uz (Uz (X8 (p:=⟨g,5,none⟩) (X8 (p:=⟨g,4,none⟩) (X8 (p:=⟨g,3,none⟩) (SN w (some g)) (.inl rfl) _) (.inl rfl) _) (.inl rfl) _)))
end Go.Proofs.YtjfgiaooglnomaaGreatDoor
namespace Go.Proofs.YtjfgiaooglnomaaGreatDoor
open Go.RowKit
def MP:Array Value->Sem Value:=fun args=>do
 let (x,y,b) <- Extern.MathBitsCarry.three "Sub64" args
 pure (Extern.MathBitsCarry.pair ((x+Extern.MathBitsCarry.m64 - y - b) % Extern.MathBitsCarry.m64) (if x<y+b then 1 else 0))
theorem Pt{P:Program}(x y b:Nat)(hb:b<=1)(w:World):
  (MP #[.int .u64 x,.int .u64 y,.int .u64 b]).run P w =
   .ok (.tuple #[.int .u64 (((x+18446744073709551616 - y - b) % 18446744073709551616:Nat):Int),.int .u64 ((if x<y+b then 1 else 0:Nat):Int)]) w:=by
 have:b=0∨b=1:=by omega
 rcases this with rfl|rfl <;> rfl
theorem O4(x y b:Nat)(hb:b<=1)(w:World):
  (callFunc 252 #[.int .u64 x,.int .u64 y,.int .u64 b]).run Tryz.prog w =
   .ok (.value (.tuple #[.int .u64 (((x+18446744073709551616 - y - b) % 18446744073709551616:Nat):Int),.int .u64 ((if x<y+b then 1 else 0:Nat):Int)])) w:=by
 rw[run_callFunc_extern Tryz.func252 (by kernel_rfl) (by kernel_rfl) (by kernel_rfl) (e:=MP) (by kernel_rfl),Pt x y b hb]
 rfl
theorem Rf(A B:Nat)(hA:A<6277101735386680763835789423207666416102355444464034512896)(hB:B<6277101735386680763835789423207666416102355444464034512896):
  ∃ d0 d1 d2 c0 c1 c2:Nat,
   (∀ w,(callFunc 252 #[.int .u64 (XW A:Int),.int .u64 (XW B:Int),.int .u64 0]).run Tryz.prog w = .ok (.value (.tuple #[.int .u64 (d0:Int),.int .u64 (c0:Int)])) w) ∧
   (∀ w,(callFunc 252 #[.int .u64 (Ws A:Int),.int .u64 (Ws B:Int),.int .u64 (c0:Int)]).run Tryz.prog w = .ok (.value (.tuple #[.int .u64 (d1:Int),.int .u64 (c1:Int)])) w) ∧
   (∀ w,(callFunc 252 #[.int .u64 (WU A:Int),.int .u64 (WU B:Int),.int .u64 (c1:Int)]).run Tryz.prog w = .ok (.value (.tuple #[.int .u64 (d2:Int),.int .u64 (c2:Int)])) w) ∧
   ((B<=A∧c2=0∧d0=XW (A - B)∧d1=Ws (A - B)∧d2=WU (A - B))∨(A<B∧c2=1)):=by
 have e1:=fun c (hc:c<=1) w=>O4 (XW A) (XW B) c hc w
 have e2:=fun c (hc:c<=1) w=>O4 (Ws A) (Ws B) c hc w
 have e3:=fun c (hc:c<=1) w=>O4 (WU A) (WU B) c hc w
 have q0:(if XW A<XW B+0 then 1 else 0)<=1:=by split <;> omega
 generalize h0:(if XW A<XW B+0 then 1 else 0)=c0 at q0
 have q1:(if Ws A<Ws B+c0 then 1 else 0)<=1:=by split <;> omega
 generalize h1:(if Ws A<Ws B+c0 then 1 else 0)=c1 at q1
 generalize h2:(if WU A<WU B+c1 then 1 else 0)=c2
 refine⟨(XW A+18446744073709551616 - XW B - 0) % 18446744073709551616,(Ws A+18446744073709551616 - Ws B - c0) % 18446744073709551616,(WU A+18446744073709551616 - WU B - c1) % 18446744073709551616,c0,c1,c2,fun w=> ?_,fun w=> ?_,fun w=> ?_,?_⟩
 ·rw[<- h0];exact e1 0 (by omega) w
 ·rw[<- h1];exact e2 c0 q0 w
 ·rw[<- h2];exact e3 c1 q1 w
 ·clear e1 e2 e3
  unfold XW at h0
  unfold Ws at h1
  unfold WU at h2
  by_cases hle:B<=A
  ·refine .inl ⟨hle,?_⟩
   unfold XW Ws WU
   split at h0 <;> split at h1 <;> split at h2 <;> omega
  ·refine .inr ⟨by omega,?_⟩
   split at h0 <;> split at h1 <;> split at h2 <;> omega
set_option maxRecDepth 20000 in
set_option maxHeartbeats 1000000 in
theorem Tw(A B:Nat)(d0 d1 d2 c0 c1 c2:Nat)(w:World)
  (r0 : ∀ w,(callFunc 252 #[.int .u64 (XW A:Int),.int .u64 (XW B:Int),.int .u64 0]).run Tryz.prog w = .ok (.value (.tuple #[.int .u64 (d0:Int),.int .u64 (c0:Int)])) w)
  (r1 : ∀ w,(callFunc 252 #[.int .u64 (Ws A:Int),.int .u64 (Ws B:Int),.int .u64 (c0:Int)]).run Tryz.prog w = .ok (.value (.tuple #[.int .u64 (d1:Int),.int .u64 (c1:Int)])) w)
  (r2 : ∀ w,(callFunc 252 #[.int .u64 (WU A:Int),.int .u64 (WU B:Int),.int .u64 (c1:Int)]).run Tryz.prog w = .ok (.value (.tuple #[.int .u64 (d2:Int),.int .u64 (c2:Int)])) w) :
  Calls Tryz.prog 251 #[.agg #[.int .u64 (XW A:Int),.int .u64 (Ws A:Int),.int .u64 (WU A:Int)],.agg #[.int .u64 (XW B:Int),.int .u64 (Ws B:Int),.int .u64 (WU B:Int)]] w fun e w'=>e = .returned (.tuple #[.agg #[.int .u64 (d0:Int),.int .u64 (d1:Int),.int .u64 (d2:Int)],.bool ((c2:Int)==0)])∧Below w.heap.size w w':=by
 go_enter Tryz.func251,Tryz.ntmps251
 go_wp2
 refine wp_loop_rounds 4 ?_
 rw[rounds_succ]
 go_wp2
 go_region
 all_goals go_wp2
 all_goals rw[rounds_succ]
 all_goals go_wp2
 all_goals go_region
 all_goals go_wp2
 all_goals rw[rounds_succ]
 all_goals go_wp2
 all_goals go_region
 all_goals go_wp2
 all_goals rw[rounds_succ]
 all_goals go_wp2
 all_goals exact bodyPost_ret (v:=.tuple #[.agg #[.int .u64 (d0:Int),.int .u64 (d1:Int),.int .u64 (d2:Int)],.bool ((c2:Int)==0)]) (by simp[results,Tryz.results251,go_sem]) rfl ⟨rfl,(((((Below.refl _ _).alloc (Nat.le_refl _) _).alloc (by simp) _).alloc (by simp;omega) _).alloc (by simp;omega) _).drew.drew.drew⟩
theorem a0a(A B:Nat)(hA:A<6277101735386680763835789423207666416102355444464034512896)(hB:B<6277101735386680763835789423207666416102355444464034512896)(h:B<=A)(w:World):
  Calls Tryz.prog 251 #[.agg #[.int .u64 (XW A:Int),.int .u64 (Ws A:Int),.int .u64 (WU A:Int)],.agg #[.int .u64 (XW B:Int),.int .u64 (Ws B:Int),.int .u64 (WU B:Int)]] w fun e w'=>e = .returned (.tuple #[.agg #[.int .u64 (XW (A - B):Int),.int .u64 (Ws (A - B):Int),.int .u64 (WU (A - B):Int)],.bool true])∧Below w.heap.size w w':=by
 obtain⟨d0,d1,d2,c0,c1,c2,r0,r1,r2,hc⟩:=Rf A B hA hB
 rcases hc with ⟨-,rfl,rfl,rfl,rfl⟩|⟨h1,-⟩
 ·exact Tw A B _ _ _ _ _ _ w r0 r1 r2
 ·omega
theorem a9a(x0 x1:Value)(w:World):(Instr.index 267 (.agg #[x0,x1]) (.int .i64 0)).run Tryz.prog w = .ok x0 w:=by kernel_rfl
theorem c5r(x0 x1:Value)(w:World):(Instr.index 267 (.agg #[x0,x1]) (.int .i64 1)).run Tryz.prog w = .ok x1 w:=by kernel_rfl
theorem BA(d:Nat)(hd:d<6277101735386680763835789423207666416102355444464034512896):
  (d<=4611686018427387904∧Ws d=0∧WU d=0∧XW d<=4611686018427387904∧XW d=d) ∨
  (4611686018427387904<d∧0<Ws d) ∨
  (4611686018427387904<d∧Ws d=0∧0<WU d) ∨
  (4611686018427387904<d∧Ws d=0∧WU d=0∧4611686018427387904<XW d):=by
 by_cases h1:0<Ws d
 ·by_cases hle:d<=4611686018427387904
  ·exfalso;unfold Ws at h1;omega
  ·exact .inr (.inl ⟨by omega,h1⟩)
 ·have e1:Ws d=0:=by omega
  by_cases h2:0<WU d
  ·by_cases hle:d<=4611686018427387904
   ·exfalso;unfold WU at h2;omega
   ·exact .inr (.inr (.inl ⟨by omega,e1,h2⟩))
  ·have e2:WU d=0:=by omega
   by_cases h0:4611686018427387904<XW d
   ·refine .inr (.inr (.inr ⟨?_,e1,e2,h0⟩))
    unfold XW at h0;omega
   ·refine .inl ⟨?_,e1,e2,by omega,?_⟩ <;> (unfold XW at *;unfold Ws at h1;unfold WU at h2;omega)
theorem Dp(n:Int)(h:rng n=false):vR n=0∧eR n=2:=by simp[vR,eR,h]
def b5t(w:World)(x y z:Value)(q:Bool)(s7 s8:Value)(wx:World):Prop:=
 ∃ b:Nat,s7 = .pointer (some ⟨b,0,none⟩)∧s8 = .bool q∧wx.cell? ⟨b,0,none⟩=some x∧wx.cell? ⟨b,1,none⟩=some y∧wx.cell? ⟨b,2,none⟩=some z∧Below w.heap.size w wx
theorem KJ{w w1:World}(t:TypeId)(x y z:Value)(q:Bool)(hb:Below w.drew.heap.size w.drew w1):
  b5t w x y z q (.pointer (some ⟨w1.heap.size,0,none⟩)) (.bool q) (w1.alloc (.cells #[x,y,z] t)):=
 ⟨_,rfl,rfl,(Qp.new _ _ _).cell 0,(Qp.new _ _ _).cell 1,(Qp.new _ _ _).cell 2,(((Below.refl w.heap.size w).drew).trans hb).alloc hb.size _⟩
theorem JQ{w w1:World}(t:TypeId)(x y z a b c:Value)(q:Bool)(hb:Below (w.alloc (.cells #[a,b,c] t)).drew.heap.size (w.alloc (.cells #[a,b,c] t)).drew w1):
  b5t w x y z q (.pointer (some ⟨w.heap.size,0,none⟩)) (.bool q) (((w1.setCell ⟨w.heap.size,0,none⟩ x).setCell ⟨w.heap.size,1,none⟩ y).setCell ⟨w.heap.size,2,none⟩ z):=by
 have hs:(w.alloc (.cells #[a,b,c] t)).drew.heap.size=w.heap.size+1:=World.size_alloc w _
 have h:=(((((Qp.new w t #[a,b,c]).drew).below hb (by rw[hs];omega)).set_ 0 x).set_ 1 y).set_ 2 z
 refine⟨_,rfl,rfl,(h.cell 0).trans (by simp),(h.cell 1).trans (by simp),(h.cell 2).trans (by simp),?_⟩
 exact((((((Below.refl w.heap.size w).alloc (Nat.le_refl _) _).drew).trans (hb.mono (by rw[hs];omega))).setCell (p:=⟨w.heap.size,0,none⟩) (Nat.le_refl _) x).setCell (p:=⟨w.heap.size,1,none⟩) (Nat.le_refl _) y).setCell (p:=⟨w.heap.size,2,none⟩) (Nat.le_refl _) z
set_option maxRecDepth 20000 in
set_option maxHeartbeats 2000000 in
theorem a9h(g P N d:Nat)(w:World)(hw:Qp w g 223 (KM P N))(hd:d<6277101735386680763835789423207666416102355444464034512896)
  (hH : ∀ w,Calls Tryz.prog 251 #[.agg #[.int .u64 (XW P:Int),.int .u64 (Ws P:Int),.int .u64 (WU P:Int)],.agg #[.int .u64 (XW N:Int),.int .u64 (Ws N:Int),.int .u64 (WU N:Int)]] w fun e w'=>e = .returned (.tuple #[.agg #[.int .u64 (XW d:Int),.int .u64 (Ws d:Int),.int .u64 (WU d:Int)],.bool true])∧Below w.heap.size w w') :
  Calls Tryz.prog 193 #[.pointer (some ⟨g,0,none⟩)] w fun e w'=>e = .returned (.tuple #[.int .i64 (vR d),.int .i64 (eR d)])∧Below w.heap.size w w':=by
 have k0:w.cell? ⟨g,0,none⟩=some (.int .u64 (XW P:Int)):=hw.cell 0
 have k1:w.cell? ⟨g,1,none⟩=some (.int .u64 (Ws P:Int)):=hw.cell 1
 have k2:w.cell? ⟨g,2,none⟩=some (.int .u64 (WU P:Int)):=hw.cell 2
 have k3:w.cell? ⟨g,3,none⟩=some (.int .u64 (XW N:Int)):=hw.cell 3
 have k4:w.cell? ⟨g,4,none⟩=some (.int .u64 (Ws N:Int)):=hw.cell 4
 have k5:w.cell? ⟨g,5,none⟩=some (.int .u64 (WU N:Int)):=hw.cell 5
 have hlt:=hw.lt
 have i0:=a9a
 have n0:=World.new_ne w _ k0
 have hwr:IntKind.i64.wrap 1=1:=IntWalk.i64_in _ (by omega)
 have H:=Lib.hid hH
 have HC:=Lib.hid (BA d hd)
 clear hw hH hd
 go_enter Tryz.func193,Tryz.ntmps193
 go_wp2
 refine wp_loop_rounds 3 ?_
 rw[rounds_succ]
 go_upto_region 5 with fail
 go_cut [7,8] (fun s7 s8 wx=>b5t w (.int .u64 (XW d:Int)) (.int .u64 (Ws d:Int)) (.int .u64 (WU d:Int)) true s7 s8 wx)
 case first=>
  go_region_held3 (fun w'=>w'.cell? ⟨g,0,none⟩=some (.int .u64 (XW P:Int))∧w'.cell? ⟨g,1,none⟩=some (.int .u64 (Ws P:Int))∧w'.cell? ⟨g,2,none⟩=some (.int .u64 (WU P:Int))∧w'.cell? ⟨g,3,none⟩=some (.int .u64 (XW N:Int))∧w'.cell? ⟨g,4,none⟩=some (.int .u64 (Ws N:Int))∧w'.cell? ⟨g,5,none⟩=some (.int .u64 (WU N:Int)))
   (first|go_keep|(refine⟨?_,?_,?_,?_,?_,?_⟩ <;> (refine(hb.cell (by simp;omega)).trans ?_;simp[*]))|(refine⟨?_,?_,?_,?_,?_,?_⟩ <;> (refine(World.cell?_alloc_lt _ _ _ (Nat.lt_of_lt_of_le hlt hb.size)).trans ?_;refine(hb.cell (by simp;omega)).trans ?_;simp[*])))
   (first|(go_at_call 251;refine(H.out _).mono ?_;rintro e w1 ⟨rfl,hb⟩;obtain⟨hc,hf⟩:=b0a hb;have hz:=hb.size;(try simp only[World.size_alloc]at hz)))
  all_goals go_wp2_with fail
  all_goals go_meet
  all_goals first|exact KJ _ _ _ _ _ hb|exact JQ _ _ _ _ _ _ _ _ hb
 case rest=>
  obtain⟨b,rfl,rfl,h0,h1,h2,hbl⟩:=hcut
  rcases HC.out with ⟨hin,t1,t2,t3,hd0⟩|⟨hout,t1⟩|⟨hout,t1,t2⟩|⟨hout,t1,t2,t3⟩
  ·have HR:=Lib.hid hd0
   have hb1:(XW d:Int)<=4611686018427387904:=by omega
   clear hin hd0 HC
   go_wp2_with (go_at_call 253;refine(Dr _ _).mono ?_;rintro e w2 ⟨rfl,hb2⟩)
   go_ret2
   exact⟨Y9 (by rw[HR.out]) (by rw[HR.out]),hbl.trans (hb2.mono hbl.size)⟩
  ·have HR:=Lib.hid (Dp d (Ut (by omega)))
   clear hout HC
   go_wp2
   all_goals go_ret2
   all_goals exact⟨Y9 HR.out.1.symm HR.out.2.symm,hbl⟩
  ·have HR:=Lib.hid (Dp d (Ut (by omega)))
   clear hout HC
   go_wp2
   all_goals go_ret2
   all_goals exact⟨Y9 HR.out.1.symm HR.out.2.symm,hbl⟩
  ·have HR:=Lib.hid (Dp d (Ut (by omega)))
   clear hout HC
   go_wp2
   all_goals go_ret2
   all_goals exact⟨Y9 HR.out.1.symm HR.out.2.symm,hbl⟩
end Go.Proofs.YtjfgiaooglnomaaGreatDoor
namespace Go.Proofs.YtjfgiaooglnomaaGreatDoor
open Go.RowKit
set_option maxRecDepth 20000 in
set_option maxHeartbeats 2000000 in
theorem b4w(g P N d:Nat)(w:World)(hw:Qp w g 223 (KM P N))(hd:d<6277101735386680763835789423207666416102355444464034512896)
  (d0 d1 d2:Nat)
  (hF : ∀ w,Calls Tryz.prog 251 #[.agg #[.int .u64 (XW P:Int),.int .u64 (Ws P:Int),.int .u64 (WU P:Int)],.agg #[.int .u64 (XW N:Int),.int .u64 (Ws N:Int),.int .u64 (WU N:Int)]] w fun e w'=>e = .returned (.tuple #[.agg #[.int .u64 (d0:Int),.int .u64 (d1:Int),.int .u64 (d2:Int)],.bool false])∧Below w.heap.size w w')
  (hH : ∀ w,Calls Tryz.prog 251 #[.agg #[.int .u64 (XW N:Int),.int .u64 (Ws N:Int),.int .u64 (WU N:Int)],.agg #[.int .u64 (XW P:Int),.int .u64 (Ws P:Int),.int .u64 (WU P:Int)]] w fun e w'=>e = .returned (.tuple #[.agg #[.int .u64 (XW d:Int),.int .u64 (Ws d:Int),.int .u64 (WU d:Int)],.bool true])∧Below w.heap.size w w') :
  Calls Tryz.prog 193 #[.pointer (some ⟨g,0,none⟩)] w fun e w'=>e = .returned (.tuple #[.int .i64 (vR (-d)),.int .i64 (eR (-d))])∧Below w.heap.size w w':=by
 have k0:w.cell? ⟨g,0,none⟩=some (.int .u64 (XW P:Int)):=hw.cell 0
 have k1:w.cell? ⟨g,1,none⟩=some (.int .u64 (Ws P:Int)):=hw.cell 1
 have k2:w.cell? ⟨g,2,none⟩=some (.int .u64 (WU P:Int)):=hw.cell 2
 have k3:w.cell? ⟨g,3,none⟩=some (.int .u64 (XW N:Int)):=hw.cell 3
 have k4:w.cell? ⟨g,4,none⟩=some (.int .u64 (Ws N:Int)):=hw.cell 4
 have k5:w.cell? ⟨g,5,none⟩=some (.int .u64 (WU N:Int)):=hw.cell 5
 have hlt:=hw.lt
 have i0:=a9a
 have i1:=c5r
 have n0:=World.new_ne w _ k0
 have hwr:IntKind.i64.wrap 1=1:=IntWalk.i64_in _ (by omega)
 have hwr0:IntKind.i64.wrap 0=0:=IntWalk.i64_in _ (by omega)
 have H:=Lib.hid hH
 have F:=Lib.hid hF
 have HC:=Lib.hid (BA d hd)
 clear hw hH hF hd
 go_enter Tryz.func193,Tryz.ntmps193
 go_wp2
 refine wp_loop_rounds 3 ?_
 rw[rounds_succ]
 go_upto_region 5 with fail
 go_cut [7,8] (fun s7 s8 wx=>b5t w (.int .u64 (d0:Int)) (.int .u64 (d1:Int)) (.int .u64 (d2:Int)) false s7 s8 wx)
 case first=>
  go_region_held3 (fun w'=>w'.cell? ⟨g,0,none⟩=some (.int .u64 (XW P:Int))∧w'.cell? ⟨g,1,none⟩=some (.int .u64 (Ws P:Int))∧w'.cell? ⟨g,2,none⟩=some (.int .u64 (WU P:Int))∧w'.cell? ⟨g,3,none⟩=some (.int .u64 (XW N:Int))∧w'.cell? ⟨g,4,none⟩=some (.int .u64 (Ws N:Int))∧w'.cell? ⟨g,5,none⟩=some (.int .u64 (WU N:Int)))
   (first|go_keep|(refine⟨?_,?_,?_,?_,?_,?_⟩ <;> (refine(hb.cell (by simp;omega)).trans ?_;simp[*]))|(refine⟨?_,?_,?_,?_,?_,?_⟩ <;> (refine(World.cell?_alloc_lt _ _ _ (Nat.lt_of_lt_of_le hlt hb.size)).trans ?_;refine(hb.cell (by simp;omega)).trans ?_;simp[*])))
   (first|(go_at_call 251;refine(F.out _).mono ?_;rintro e w1 ⟨rfl,hb⟩;obtain⟨hc,hf⟩:=b0a hb;have hz:=hb.size;(try simp only[World.size_alloc]at hz)))
  all_goals go_wp2_with fail
  all_goals go_meet
  all_goals first|exact KJ _ _ _ _ _ hb|exact JQ _ _ _ _ _ _ _ _ hb
 case rest=>
  obtain⟨b,rfl,rfl,-,-,-,hbl⟩:=hcut
  obtain⟨wq,rfl⟩ : ∃ wq:World,wq=wc:=⟨_,rfl⟩
  have hlq:g<wq.heap.size:=Nat.lt_of_lt_of_le hlt hbl.size
  have q0:=(hbl.cell (p:=⟨g,0,none⟩) hlt).trans k0
  have q1:=(hbl.cell (p:=⟨g,1,none⟩) hlt).trans k1
  have q2:=(hbl.cell (p:=⟨g,2,none⟩) hlt).trans k2
  have q3:=(hbl.cell (p:=⟨g,3,none⟩) hlt).trans k3
  have q4:=(hbl.cell (p:=⟨g,4,none⟩) hlt).trans k4
  have q5:=(hbl.cell (p:=⟨g,5,none⟩) hlt).trans k5
  have n1:=World.new_ne wq _ q0
  have HBL:=Lib.hid hbl
  clear k0 k1 k2 k3 k4 k5 hlt n0 F hbl
  go_wp2
  rw[rounds_succ]
  go_upto_region 5 with fail
  go_cut [7,8] (fun s7 s8 wx=>b5t wq (.int .u64 (XW d:Int)) (.int .u64 (Ws d:Int)) (.int .u64 (WU d:Int)) true s7 s8 wx)
  case first=>
   go_region_held3 (fun w'=>w'.cell? ⟨g,0,none⟩=some (.int .u64 (XW P:Int))∧w'.cell? ⟨g,1,none⟩=some (.int .u64 (Ws P:Int))∧w'.cell? ⟨g,2,none⟩=some (.int .u64 (WU P:Int))∧w'.cell? ⟨g,3,none⟩=some (.int .u64 (XW N:Int))∧w'.cell? ⟨g,4,none⟩=some (.int .u64 (Ws N:Int))∧w'.cell? ⟨g,5,none⟩=some (.int .u64 (WU N:Int)))
    (first|go_keep|(refine⟨?_,?_,?_,?_,?_,?_⟩ <;> (refine(hb.cell (by simp;omega)).trans ?_;simp[*]))|(refine⟨?_,?_,?_,?_,?_,?_⟩ <;> (refine(World.cell?_alloc_lt _ _ _ (Nat.lt_of_lt_of_le hlq hb.size)).trans ?_;refine(hb.cell (by simp;omega)).trans ?_;simp[*])))
    (first|(go_at_call 251;refine(H.out _).mono ?_;rintro e w1 ⟨rfl,hb⟩;obtain⟨hc,hf⟩:=b0a hb;have hz:=hb.size;(try simp only[World.size_alloc]at hz)))
   all_goals go_wp2_with fail
   all_goals go_meet
   all_goals first|exact KJ _ _ _ _ _ hb|exact JQ _ _ _ _ _ _ _ _ hb
  case rest=>
   obtain⟨b,rfl,rfl,h0,h1,h2,hb2l⟩:=hcut
   have hbl:=HBL.out.trans (hb2l.mono HBL.out.size)
   rcases HC.out with ⟨hin,t1,t2,t3,hd0⟩|⟨hout,t1⟩|⟨hout,t1,t2⟩|⟨hout,t1,t2,t3⟩
   ·have HR:=Lib.hid (show((XW d:Nat):Int)=d by rw[hd0])
    have hb1:(XW d:Int)<=4611686018427387904:=by omega
    clear hin hd0 HC
    go_wp2_with (go_at_call 253;refine(Dr _ _).mono ?_;rintro e w2 ⟨rfl,hb2⟩)
    go_ret2
    exact⟨Y9 (by first|rw[HR.out]|(rw[<- HR.out];simp)) (by first|rw[HR.out]|(rw[<- HR.out];simp)),hbl.trans (hb2.mono hbl.size)⟩
   ·have HR:=Lib.hid (Dp (-d) (Ut (by omega)))
    clear hout HC
    go_wp2
    all_goals go_ret2
    all_goals exact⟨Y9 HR.out.1.symm HR.out.2.symm,hbl⟩
   ·have HR:=Lib.hid (Dp (-d) (Ut (by omega)))
    clear hout HC
    go_wp2
    all_goals go_ret2
    all_goals exact⟨Y9 HR.out.1.symm HR.out.2.symm,hbl⟩
   ·have HR:=Lib.hid (Dp (-d) (Ut (by omega)))
    clear hout HC
    go_wp2
    all_goals go_ret2
    all_goals exact⟨Y9 HR.out.1.symm HR.out.2.symm,hbl⟩
theorem AU(g P N:Nat)(w:World)(hP:P<6277101735386680763835789423207666416102355444464034512896)(hN:N<6277101735386680763835789423207666416102355444464034512896)
  (hw:Qp w g 223 (KM P N)) :
  Calls Tryz.prog 193 #[.pointer (some ⟨g,0,none⟩)] w fun e w'=>e = .returned (.tuple #[.int .i64 (vR ((P:Int) - N)),.int .i64 (eR ((P:Int) - N))])∧Below w.heap.size w w':=by
 by_cases h:N<=P
 ·have e:(P:Int) - N=((P - N:Nat):Int):=by omega
  rw[e]
  exact a9h g P N (P - N) w hw (by omega) (fun w=>a0a P N hP hN h w)
 ·have e:(P:Int) - N = -((N - P:Nat):Int):=by omega
  rw[e]
  obtain⟨d0,d1,d2,r0⟩ : ∃ d0 d1 d2:Nat,∀ w,Calls Tryz.prog 251 #[.agg #[.int .u64 (XW P:Int),.int .u64 (Ws P:Int),.int .u64 (WU P:Int)],.agg #[.int .u64 (XW N:Int),.int .u64 (Ws N:Int),.int .u64 (WU N:Int)]] w fun e w'=>e = .returned (.tuple #[.agg #[.int .u64 (d0:Int),.int .u64 (d1:Int),.int .u64 (d2:Int)],.bool false])∧Below w.heap.size w w':=by
   obtain⟨d0,d1,d2,c0,c1,c2,r0,r1,r2,hc⟩:=Rf P N hP hN
   rcases hc with ⟨h1,-⟩|⟨-,rfl⟩
   ·omega
   ·exact⟨d0,d1,d2,fun w=>Tw P N _ _ _ _ _ _ w r0 r1 r2⟩
  exact b4w g P N (N - P) w hw (by omega) d0 d1 d2 r0 (fun w=>a0a N P hN hP (by omega) w)
end Go.Proofs.YtjfgiaooglnomaaGreatDoor
namespace Go.Proofs.YtjfgiaooglnomaaGreatDoor
open Go.RowKit
theorem LH(g P N:Nat)(a b:Int)(w:World)(ha : -4611686018427387904<=a∧a<=4611686018427387904)(hb : -4611686018427387904<=b∧b<=4611686018427387904)
  (h:P+N+a.natAbs*b.natAbs<6277101735386680763835789423207666416102355444464034512896) (hw:Qp w g 223 (KM P N)) :
  Calls Tryz.prog 192 #[.pointer (some ⟨g,0,none⟩),.int .i64 a,.int .i64 b] w fun e w'=>e = .returned (.tuple #[]) ∧
   ∃ P' N':Nat,Qp w' g 223 (KM P' N')∧Hid ((P':Int) - N'=(P:Int) - N+a*b)∧Hid (P'+N'=P+N+a.natAbs*b.natAbs)∧w.grownBy w' (some g):=by
 cases hs:(!decide (a<0)==decide (b<0))
 ·refine(a2o g P N a b w ha hb (by omega) hs hw).mono ?_
  rintro e w' ⟨rfl,h1,h2⟩
  refine⟨rfl,_,_,h1,Lib.hid ?_,Lib.hid (by omega),h2⟩
  rw[Jm a b hs]
  omega
 ·refine(a2p g P N a b w ha hb (by omega) hs hw).mono ?_
  rintro e w' ⟨rfl,h1,h2⟩
  refine⟨rfl,_,_,h1,Lib.hid ?_,Lib.hid (by omega),h2⟩
  rw[Jo a b hs]
  omega
def dot:List Int->List Int->Int
 | a::l,b::m=>a*b+dot l m
 | _,_=>0
theorem a8g(k:Nat)(xs ys:List Int)(x y:Int)(hx:xs[k]? = some x)(hy:ys[k]? = some y):dot (xs.take (k+1)) (ys.take (k+1))=dot (xs.take k) (ys.take k)+x*y:=by
 induction k generalizing xs ys with
 | zero=>
  cases xs <;> cases ys <;> simp_all[dot]
 | succ k ih=>
  cases xs with
  | nil=>simp at hx
  | cons a l=>
   cases ys with
   | nil=>simp at hy
   | cons b m=>
    have:=ih l m (by simpa using hx) (by simpa using hy)
    simp only[List.take_succ_cons,dot]at this ⊢
    rw[this]
    omega
theorem b0f(k:Nat)(zs:List Int)(x:Int)(hx:zs[k]? = some x):(zs.take (k+1)).sum=(zs.take k).sum+x:=by
 have hk:k<zs.length:=(List.getElem?_eq_some_iff.1 hx).1
 have e:zs[k]=x:=by rw[List.getElem?_eq_getElem hk]at hx;exact Option.some.inj hx
 rw[List.take_succ_eq_append_getElem hk,List.sum_append,e]
 simp
def Oy(zs:List Int):Int:=bif zs.all rng then vR zs.sum else 0
def EH(zs:List Int):Int:=bif zs.all rng then eR zs.sum else 2
theorem FK{zs:List Int}(h:zs.all rng=true){k:Nat}{x:Int}(hx:zs[k]? = some x): -4611686018427387904<=x∧x<=4611686018427387904:=
 Pm (List.all_eq_true.1 h x (List.mem_of_getElem? hx))
theorem Cy{a b:Int}(ha : -4611686018427387904<=a∧a<=4611686018427387904)(hb : -4611686018427387904<=b∧b<=4611686018427387904):a.natAbs*b.natAbs<=21267647932558653966460912964485513216:=by
 have:=Nat.mul_le_mul (show a.natAbs<=4611686018427387904 by omega) (show b.natAbs<=4611686018427387904 by omega)
 omega
set_option maxRecDepth 20000 in
set_option maxHeartbeats 1000000 in
theorem c0g(A:Option Addr)(n c:Nat)(zs:List Int)(w:World)(hr:Y2 w w.heap.size 1 A n (zs.map (Value.int .i64)))(hn:n<=10000):
  Calls Tryz.prog 190 #[.slice A n c] w fun e w'=>e = .returned (.tuple #[.int .i64 (Oy zs),.int .i64 (EH zs)])∧Below w.heap.size w w':=by
 have H1:=Lib.hid (Bw A n c zs w w.heap.size hr (by omega))
 have hlen:=Lib.hid (show zs.length=n by have:=hr.1;simpa using this)
 cases ha:zs.all rng
 ·have he:EH zs=2:=by simp only[EH,ha,cond_false]
  have hv:Oy zs=0:=by simp only[Oy,ha,cond_false]
  rw[ha]at H1
  rw[he,hv]
  clear he hv ha
  go_enter Tryz.func190,Tryz.ntmps190
  go_wp2_with (go_at_call 191;refine H1.out.mono ?_;rintro e w' ⟨rfl,rfl⟩)
  go_ret2
  exact⟨rfl,Below.refl _ _⟩
 ·have he:EH zs=eR zs.sum:=by simp only[EH,ha,cond_true]
  have hv:Oy zs=vR zs.sum:=by simp only[Oy,ha,cond_true]
  rw[ha]at H1
  rw[he,hv]
  have HA:=Lib.hid ha
  clear he hv ha
  go_enter Tryz.func190,Tryz.ntmps190
  go_wp2_with (go_at_call 191;refine H1.out.mono ?_;rintro e w' ⟨rfl,rfl⟩)
  go_loopw [15] (fun i wr=> ∃ k P N:Nat,k<=n∧i = .int .i64 k∧Qp wr w.heap.size 223 (KM P N)∧Hid ((P:Int) - N=(zs.take k).sum)∧Hid (P+N<=k*21267647932558653966460912964485513216)∧Below w.heap.size w wr) (fun i _=>n - (intOf i).toNat)
  case atStart=>exact⟨0,0,0,Nat.zero_le _,rfl,Qp.new _ _ _,Lib.hid (by simp),Lib.hid (by omega),(Below.refl _ _).alloc (Nat.le_refl _) _⟩
  case round=>
   obtain⟨k,P,N,hk,rfl,hblk,hs,hbd,hbl⟩:=hrel
   by_cases hlt:k<n
   ·obtain⟨ad,u,rfl,hB,hu,hc⟩:=(hr.below hbl).at_ hlt
    rw[List.getElem?_map]at hu
    obtain⟨x,hx,rfl⟩:=Option.map_eq_some_iff.1 hu
    have hxr:=FK HA.out hx
    have HC:=Lib.hid (LH w.heap.size P N x 1 wr hxr (by omega) (by have:=hbd.out;have h2:=Cy hxr (b:=1) (by omega);omega) hblk)
    have HX:=Lib.hid hx
    have HP:=Lib.hid (Cy hxr (b:=1) (by omega))
    clear hx hu hxr hblk
    go_wp2_with (go_at_call 192;refine HC.out.mono ?_;rintro e w' ⟨rfl,P',N',hblk',hs',hbd',hg⟩)
    go_roundw
    case rel=>exact⟨k+1,P',N',by omega,by go_num,hblk',Lib.hid (by have h1:=hs'.out;have h2:=hs.out;rw[b0f k zs x HX.out];omega),Lib.hid (by have h1:=hbd'.out;have h2:=hbd.out;have h3:=HP.out;omega),hbl.grown hg hbl.size (by rintro _ ⟨⟩;exact Nat.le_refl _)⟩
    case measure=>simp[intOf];omega
   ·have hkn:k=n:=by omega
    subst hkn
    have HT:=Lib.hid (AU w.heap.size P N wr (by have:=hbd.out;omega) (by have:=hbd.out;omega) hblk)
    have HZ:Hid ((P:Int) - N=zs.sum):=Lib.hid (by have:=hs.out;rw[List.take_of_length_le (by rw[hlen.out];omega)]at this;exact this)
    clear hblk
    go_wp2_with (go_at_call 193;refine HT.out.mono ?_;rintro e w' ⟨rfl,hb⟩)
    go_ret2
    exact⟨Y9 (by rw[HZ.out]) (by rw[HZ.out]),hbl.trans (hb.mono hbl.size)⟩
def Ak(xs ys:List Int):Int:=bif xs.length==ys.length&&xs.all rng&&ys.all rng then vR (dot xs ys)else 0
def Az(xs ys:List Int):Int:=bif xs.length==ys.length then(bif xs.all rng&&ys.all rng then eR (dot xs ys)else 2)else 1
set_option maxRecDepth 20000 in
set_option maxHeartbeats 1000000 in
theorem b9e(A B:Option Addr)(n m c d:Nat)(xs ys:List Int)(w:World)(hr:Y2 w w.heap.size 1 A n (xs.map (Value.int .i64)))(hq:Y2 w w.heap.size 1 B m (ys.map (Value.int .i64)))(hn:n<=10000)(hm:m<=10000):
  Calls Tryz.prog 126 #[.slice A n c,.slice B m d] w fun e w'=>e = .returned (.tuple #[.int .i64 (Ak xs ys),.int .i64 (Az xs ys)])∧Below w.heap.size w w':=by
 have H1:=Lib.hid (Bw A n c xs w w.heap.size hr (by omega))
 have H2:=Lib.hid (Bw B m d ys w w.heap.size hq (by omega))
 have hl1:=Lib.hid (show xs.length=n by have:=hr.1;simpa using this)
 have hl2:=Lib.hid (show ys.length=m by have:=hq.1;simpa using this)
 by_cases hnm:n=m
 ·subst hnm
  have hll:(xs.length==ys.length)=true:=by rw[hl1.out,hl2.out];simp
  have hnn:((n:Int)==n)=true:=by simp
  have hnn':((n:Int) != n)=false:=by simp
  cases ha:xs.all rng
  ·have he:Az xs ys=2:=by simp only[Az,hll,ha,cond_true,Bool.false_and,cond_false]
   have hv:Ak xs ys=0:=by simp only[Ak,hll,ha,Bool.and_false,Bool.false_and,cond_false]
   rw[ha]at H1
   rw[he,hv]
   clear he hv ha hll H2
   go_enter Tryz.func126,Tryz.ntmps126
   go_wp2_with (go_at_call 191;refine H1.out.mono ?_;rintro e w' ⟨rfl,rfl⟩)
   go_ret2
   exact⟨rfl,Below.refl _ _⟩
  ·cases hb:ys.all rng
   ·have he:Az xs ys=2:=by simp only[Az,hll,ha,hb,cond_true,Bool.and_false,cond_false]
    have hv:Ak xs ys=0:=by simp only[Ak,hll,ha,hb,Bool.and_false,cond_false]
    rw[ha]at H1
    rw[hb]at H2
    rw[he,hv]
    clear he hv ha hb hll
    go_enter Tryz.func126,Tryz.ntmps126
    go_wp2_with fail
    refine H1.out.mono ?_
    rintro e w' ⟨rfl,rfl⟩
    go_wp2_with fail
    refine H2.out.mono ?_
    rintro e w' ⟨rfl,rfl⟩
    go_wp2
    go_ret2
    exact⟨rfl,Below.refl _ _⟩
   ·have he:Az xs ys=eR (dot xs ys):=by simp only[Az,hll,ha,hb,cond_true,Bool.and_self]
    have hv:Ak xs ys=vR (dot xs ys):=by simp only[Ak,hll,ha,hb,cond_true,Bool.and_self]
    rw[ha]at H1
    rw[hb]at H2
    rw[he,hv]
    have HA:=Lib.hid ha
    have HB:=Lib.hid hb
    clear he hv ha hb hll
    go_enter Tryz.func126,Tryz.ntmps126
    go_wp2_with fail
    refine H1.out.mono ?_
    rintro e w' ⟨rfl,rfl⟩
    go_wp2_with fail
    refine H2.out.mono ?_
    rintro e w' ⟨rfl,rfl⟩
    go_wp2
    go_loopw [30] (fun i wr=> ∃ k P N:Nat,k<=n∧i = .int .i64 k∧Qp wr w.heap.size 223 (KM P N)∧Hid ((P:Int) - N=dot (xs.take k) (ys.take k))∧Hid (P+N<=k*21267647932558653966460912964485513216)∧Below w.heap.size w wr) (fun i _=>n - (intOf i).toNat)
    case atStart=>exact⟨0,0,0,Nat.zero_le _,rfl,Qp.new _ _ _,Lib.hid (by simp[dot]),Lib.hid (by omega),(Below.refl _ _).alloc (Nat.le_refl _) _⟩
    case round=>
     obtain⟨k,P,N,hk,rfl,hblk,hs,hbd,hbl⟩:=hrel
     by_cases hlt:k<n
     ·obtain⟨ad,u,rfl,hB,hu,hc⟩:=(hr.below hbl).at_ hlt
      rw[List.getElem?_map]at hu
      obtain⟨x,hx,rfl⟩:=Option.map_eq_some_iff.1 hu
      obtain⟨ae,v,rfl,hB',hv,hc'⟩:=(hq.below hbl).at_ hlt
      rw[List.getElem?_map]at hv
      obtain⟨y,hy,rfl⟩:=Option.map_eq_some_iff.1 hv
      have hxr:=FK HA.out hx
      have hyr:=FK HB.out hy
      have HC:=Lib.hid (LH w.heap.size P N x y wr hxr hyr (by have:=hbd.out;have h2:=Cy hxr hyr;omega) hblk)
      have HX:=Lib.hid hx
      have HY:=Lib.hid hy
      have HP:=Lib.hid (Cy hxr hyr)
      clear hx hu hxr hy hv hyr hblk
      go_wp2_with (go_at_call 192;refine HC.out.mono ?_;rintro e w' ⟨rfl,P',N',hblk',hs',hbd',hg⟩)
      go_roundw
      case rel=>exact⟨k+1,P',N',by omega,by go_num,hblk',Lib.hid (by have h1:=hs'.out;have h2:=hs.out;rw[a8g k xs ys x y HX.out HY.out];omega),Lib.hid (by have h1:=hbd'.out;have h2:=hbd.out;have h3:=HP.out;omega),hbl.grown hg hbl.size (by rintro _ ⟨⟩;exact Nat.le_refl _)⟩
      case measure=>simp[intOf];omega
     ·have hkn:k=n:=by omega
      subst hkn
      have HT:=Lib.hid (AU w.heap.size P N wr (by have:=hbd.out;omega) (by have:=hbd.out;omega) hblk)
      have HZ:Hid ((P:Int) - N=dot xs ys):=Lib.hid (by have:=hs.out;rw[List.take_of_length_le (by rw[hl1.out];omega),List.take_of_length_le (by rw[hl2.out];omega)]at this;exact this)
      clear hblk
      go_wp2_with (go_at_call 193;refine HT.out.mono ?_;rintro e w' ⟨rfl,hb⟩)
      go_ret2
      exact⟨Y9 (by rw[HZ.out]) (by rw[HZ.out]),hbl.trans (hb.mono hbl.size)⟩
 ·have hll:(xs.length==ys.length)=false:=by rw[hl1.out,hl2.out];simpa using hnm
  have he:Az xs ys=1:=by simp only[Az,hll,cond_false]
  have hv:Ak xs ys=0:=by simp only[Ak,hll,Bool.false_and,cond_false]
  have hnn:((n:Int)==m)=false:=by simpa using (show ¬ (n:Int)=m by omega)
  rw[he,hv]
  clear he hv hll
  go_enter Tryz.func126,Tryz.ntmps126
  go_wp2
  go_ret2
  exact⟨rfl,Below.refl _ _⟩
end Go.Proofs.YtjfgiaooglnomaaGreatDoor
namespace Go.Proofs.YtjfgiaooglnomaaGreatDoor
end Go.Proofs.YtjfgiaooglnomaaGreatDoor
namespace Go.Proofs.YtjfgiaooglnomaaGreatDoor
open Go.RowKit
end Go.Proofs.YtjfgiaooglnomaaGreatDoor
namespace Go.Proofs.YtjfgiaooglnomaaGreatDoor
open Go.RowKit
end Go.Proofs.YtjfgiaooglnomaaGreatDoor
namespace Go.Proofs.YtjfgiaooglnomaaGreatDoor
open Go.RowKit
end Go.Proofs.YtjfgiaooglnomaaGreatDoor
namespace Go.Proofs.YtjfgiaooglnomaaGreatDoor
def val:List Int->Int
 | []=>0
 | c::l=>c+2097152*val l
end Go.Proofs.YtjfgiaooglnomaaGreatDoor
namespace Go.Proofs.YtjfgiaooglnomaaGreatDoor
open Go.RowKit
def AP(L:List Int)(b:Nat):Prop:= ∀ (m:Nat) (c:Int),L[m]? = some c->c.natAbs<=b
def cellsOf(L:List Int):Array Value:=(L.map (Value.int .i64)).toArray
theorem AP.set_{L:List Int}{b b':Nat}(h:AP L b)(hb:b<=b')(m:Nat)(c:Int)(hc:c.natAbs<=b'):AP (L.set m c) b':=by
 intro j d hj
 rcases Nat.lt_or_ge j L.length with hl|hl
 ·by_cases e:m=j
  ·subst e
   rw[List.getElem?_set_self hl]at hj
   cases hj
   exact hc
  ·rw[List.getElem?_set_ne e]at hj
   exact Nat.le_trans (h j d hj) hb
 ·rw[List.getElem?_eq_none (by simpa using hl)]at hj
  cases hj
theorem AP.mono{L:List Int}{b b':Nat}(h:AP L b)(hb:b=b'):AP L b':=hb▸h
@[irreducible] def Sj (k j m : Nat) : Nat := k * 39582418599936 + j * 13194139533312 + m * 4398046511104
def Dig(i:Nat)(L:List Int):Prop:= ∀ (j:Nat) (c:Int),L[j]? = some c->(j<i->0<=c∧c<=2097151)∧(j=i->c.natAbs<=9007199254740992)∧(i<j->c.natAbs<=2374945115996160)
theorem Dig.zero{L:List Int}{b:Nat}(h:AP L b)(hb:b<=2374945115996160):Dig 0 L:=by
 intro j c hc
 have:=h j c hc
 refine⟨fun h=>absurd h (by omega),fun _=>by omega,fun _=>by omega⟩
theorem Dig.step{i:Nat}{L:List Int}(h:Dig i L)(hl:L.length=8){c d:Int}(hc:L[i]? = some c)(hd:L[i+1]? = some d):Dig (i+1) ((L.set i (c - c / 2097152*2097152)).set (i+1) (d+c / 2097152)):=by
 intro j z hz
 have h1:=(h i c hc).2.1 rfl
 have h2:=(h (i+1) d hd).2.2 (by omega)
 have hi1:i+1<L.length:=(List.getElem?_eq_some_iff.1 hd).1
 by_cases ej:i+1=j
 ·subst ej
  rw[List.getElem?_set_self (by simpa using hi1)]at hz
  cases hz
  refine⟨fun h=>absurd h (by omega),fun _=>by omega,fun h=>absurd h (by omega)⟩
 ·rw[List.getElem?_set_ne ej]at hz
  by_cases ei:i=j
  ·subst ei
   rw[List.getElem?_set_self (by omega)]at hz
   cases hz
   refine⟨fun _=>by omega,fun h=>absurd h (by omega),fun h=>absurd h (by omega)⟩
  ·rw[List.getElem?_set_ne ei]at hz
   have:=h j z hz
   refine⟨fun _=>this.1 (by omega),fun h=>absurd h (by omega),fun _=>this.2.2 (by omega)⟩
end Go.Proofs.YtjfgiaooglnomaaGreatDoor
namespace Go.Proofs.YtjfgiaooglnomaaGreatDoor
open Go.RowKit
end Go.Proofs.YtjfgiaooglnomaaGreatDoor
namespace Go.Proofs.YtjfgiaooglnomaaGreatDoor
open Go.RowKit
end Go.Proofs.YtjfgiaooglnomaaGreatDoor

namespace Go.Proofs.YtjfgiaooglnomaaGreatDoor
open Go.Pl Go.RowKit
open Enc (enc dec is)
open EncL (encL decL isL)
set_option maxRecDepth 100000
theorem Ou(l:List Int):flat (l.map (enc:Int->PV))=l.map enc:=by
 induction l with
 | nil=>rfl
 | cons s ss ih=>simp only[flat,List.map_cons,List.flatMap_cons]at ih ⊢;rw[ih];rfl
theorem Sd{Φ:ZW}{w:World}{v:Value}{l:List Int}(hΦ:YN Φ w)(h:RP Φ v (enc l)): ∃ A c,v = .slice A l.length c∧Y2 w w.heap.size 1 A l.length (l.map (Value.int .i64)):=by
 have e:(enc l:PV) = .sl 1 false (l.map enc):=rfl
 rw[e]at h
 generalize hx:l.map (enc:Int->PV)=xs at h
 generalize hq:PV.sl 1 false xs=q at h
 cases h with
 | sl0 a c sz t h=>
  cases hq
  have:l=[]:=List.map_eq_nil_iff.1 hx
  subst this
  exact⟨a,c,rfl,by simp,fun h=>absurd h (by simp)⟩
 | sl b off cs c sz t ys u hb hc ht hs hu hr=>
  cases hq
  subst hx
  refine⟨some ⟨b,off,none⟩,c,by rw[List.length_map],by simp,fun h0=> ?_⟩
  obtain⟨T,fz,hh⟩:=hΦ b cs hb
  refine⟨_,rfl,(Array.getElem?_eq_some_iff.1 hh).1,fun j x hx=> ?_⟩
  rw[Ou]at hu hr
  rw[List.getElem?_map]at hx
  obtain⟨n,hn,rfl⟩:=Option.map_eq_some_iff.1 hx
  have hp:(l.map (enc:Int->PV))[j]? = some (.int .i64 n):=by rw[List.getElem?_map,hn];rfl
  have h1:=(hu j _ hp).1
  have h2:=Ba (hr j _ hp)
  rw[h2]at h1
  have ha:(⟨b,off,none⟩:Addr).add j=⟨b,off+j,none⟩:=by
   unfold Addr.add
   split
   ·rename_i h0;subst h0;rfl
   ·rfl
  rw[ha]
  simp[World.cell?,hh,h1]
 | _=>cases hq
theorem FD{Φ:ZW}{a b:Int}:RP Φ (.tuple #[.int .i64 a,.int .i64 b]) (enc (a,b)):=by
 refine .tup _ _ rfl ?_
 intro j v x hv hx
 match j with
 | 0=>cases hv;cases hx;exact .int _ _
 | 1=>cases hv;cases hx;exact .int _ _
 | j+2=>simp at hv
theorem R7(n:Int):rng n=U1 n:=by
 unfold rng U1
 by_cases h1 : -4611686018427387904<=n <;> by_cases h2:n<=4611686018427387904 <;> simp[h1,h2]
theorem b4b:rng=U1:=funext R7
theorem c3a(a b:Int):(Pv a b,Ro a b)=Ai a b:=by
 unfold Pv Ro Ai
 rw[R7,R7,R7]
 cases (U1 a&&U1 b&&U1 (a*b)) <;> rfl
theorem c4b(l:List Int):(Oy l,EH l)=VB l:=by
 unfold Oy EH VB vR eR
 rw[b4b]
 cases l.all U1 <;> cases U1 l.sum <;> rfl
theorem b0j: ∀ a b:List Int,dot a b=FT a b
 | [],b=>by cases b <;> rfl
 | _::_,[]=>rfl
 | x::a,y::b=>by show x*y+dot a b=x*y+FT a b;rw[b0j]
theorem c0l(a b:List Int):(Ak a b,Az a b)=Dn a b:=by
 unfold Ak Az Dn vR eR
 rw[b4b,b0j]
 by_cases h:a.length=b.length
 ·have e:(a.length==b.length)=true:=beq_iff_eq.2 h
  rw[e,if_pos h]
  cases a.all U1 <;> cases b.all U1 <;> cases U1 (FT a b) <;> rfl
 ·have e:(a.length==b.length)=false:=beq_eq_false_iff_ne.2 h
  rw[e,if_neg h];rfl
theorem OJ:Zr Tryz.prog 247 (fun _:Int×Int×Unit=>true) (fun x:Int×Int×Unit=>Ai x.1 x.2.1):=Xk (by
  rintro⟨a,b,⟨⟩⟩ _ Φ w vs hL hΦ hv
  obtain⟨u,v,rfl,h1,h2⟩:=c4t hv
  rw[Ba h1,Ba h2]
  refine(b8k a b w).mono ?_
  rintro e w' ⟨rfl,hb⟩
  exact⟨_,rfl,by rw[<- c3a];exact FD,hb⟩)
theorem Ef:Zr Tryz.prog 190 (fun x:List Int×Unit=>decide (x.1.length<=10000)) (fun x:List Int×Unit=>VB x.1):=Xk (by
  rintro⟨l,⟨⟩⟩ hp Φ w vs hL hΦ hv
  have hp:l.length<=10000:=of_decide_eq_true hp
  obtain⟨u,rfl,h1⟩:=b9k hv
  obtain⟨A,c,rfl,hr⟩:=Sd hΦ h1
  refine(c0g A l.length c l w hr hp).mono ?_
  rintro e w' ⟨rfl,hb⟩
  exact⟨_,rfl,by rw[<- c4b];exact FD,hb⟩)
theorem AY:Zr Tryz.prog 126 (fun x:List Int×List Int×Unit=>decide (x.1.length<=10000)&&decide (x.2.1.length<=10000)) (fun x:List Int×List Int×Unit=>Dn x.1 x.2.1):=Xk (by
  rintro⟨l,m,⟨⟩⟩ hp Φ w vs hL hΦ hv
  simp only[Bool.and_eq_true,decide_eq_true_eq]at hp
  obtain⟨u,v,rfl,h1,h2⟩:=c4t hv
  obtain⟨A,c,rfl,hr⟩:=Sd hΦ h1
  obtain⟨B,d,rfl,hq⟩:=Sd hΦ h2
  refine(b9e A B l.length m.length c d l m w hr hq hp.1 hp.2).mono ?_
  rintro e w' ⟨rfl,hb⟩
  exact⟨_,rfl,by rw[<- c0l];exact FD,hb⟩)
end Go.Proofs.YtjfgiaooglnomaaGreatDoor

namespace Go.Proofs.YtjfgiaooglnomaaGreatDoor
open Go.RowKit Go.Shelf Go.Pl
open Enc (enc dec is)
open EncL (encL decL isL)
attribute [local go_sem] Oper.semAt_some
set_option maxRecDepth 100000
theorem c2i{Φ:ZW}{v u:Value}{p q:PV}(h:RP Φ v p)(k:RP Φ u q):XV Φ (#[v,u]:Array Value).toList [p,q]:=⟨rfl,fun j x r hx hr=>match j with
 | 0=>by cases hx;cases hr;exact h
 | 1=>by cases hx;cases hr;exact k
 | j+2=>by simp at hx⟩
theorem b6v{Φ:ZW}{v:Value}{b:Bool}(h:RP Φ v (.bool b)):v = .bool b:=by cases h;rfl
theorem GX(zs:List Int):flat (zs.map (enc:Int->PV))=zs.map enc:=by
 induction zs with
 | nil=>rfl
 | cons z zs ih=>exact congrArg (_:: ·) ih
theorem Fu{Φ:ZW}{w w':World}{v:Value}{zs:List Int}(hΦ:YN Φ w)(hb:Below w.heap.size w w')(h:w'.ownsRow w.heap.size 3 1 v zs.length (zs.map (Value.int .i64))):
  ∃ Φ',ZW.le Φ Φ'∧YN Φ' w'∧RP Φ' v (enc zs)∧ ∀ b cs,Φ' b=some cs->Φ b=some cs∨w.heap.size<=b:=by
 have hok:YN Φ w':=hΦ.below hb
 rcases h.2 with ⟨rfl,h0⟩|⟨g,cap,cur,rfl,hg,hh,h1,h2,h3,h4⟩
 ·have:zs=[]:=List.length_eq_zero_iff.1 h0
  subst this
  exact⟨Φ,ZW.le.refl _,hok,.sl0 _ _ _ _ (fun e=>by cases e),fun b cs hc=>.inl hc⟩
 ·have hne : ∀ b cs,Φ b=some cs->b≠g:=by
   rintro b cs hc rfl
   obtain⟨T,fz,hh'⟩:=hΦ _ cs hc
   have:=(Array.getElem?_eq_some_iff.1 hh').1
   omega
  have hat : ∀ (j:Nat) z,zs[j]? = some z->cur[j]? = some (.int .i64 z):=by
   intro j z hz
   have hj:=(List.getElem?_eq_some_iff.1 hz).1
   have:(cur.toList.take (zs.length*1))[j]? = some (.int .i64 z):=by rw[h4,List.getElem?_map,hz];rfl
   rw[List.getElem?_take,if_pos (by omega)]at this
   simpa using this
  have hget : ∀ (j:Nat) p,(zs.map (enc:Int->PV))[j]? = some p-> ∃ z,zs[j]? = some z∧p = .int .i64 z:=by
   intro j p hp
   rw[List.getElem?_map]at hp
   obtain⟨z,hz,rfl⟩:=Option.map_eq_some_iff.1 hp
   exact⟨z,hz,rfl⟩
  refine⟨fun b=>if b=g then some cur else Φ b,fun b cs hc=> ?_,fun b cs hc=> ?_,?_,fun b cs hc=> ?_⟩
  ·simp only[if_neg (hne b cs hc)];exact hc
  ·simp only at hc
   split at hc
   ·rename_i e;subst e;cases hc;exact⟨_,_,hh⟩
   ·exact hok b cs hc
  ·have:=RP.sl (Φ:=fun b=>if b=g then some cur else Φ b) g 0 cur cap 1 false (zs.map (enc:Int->PV)) (fun j=>.int .i64 (zs.getD j 0)) (by simp) (by rw[List.length_map];omega) (by intro e;cases e)
    (by intro x hx;obtain⟨z,_,rfl⟩:=List.mem_map.1 hx;rfl)
    (by
     intro j p hp
     rw[GX]at hp
     obtain⟨z,hz,rfl⟩:=hget j p hp
     refine⟨?_,rfl⟩
     rw[Nat.zero_add,hat j z hz]
     simp[List.getD,hz])
    (by
     intro j p hp
     rw[GX]at hp
     obtain⟨z,hz,rfl⟩:=hget j p hp
     simp only[List.getD,hz,Option.getD_some]
     exact .int _ _)
   rwa [List.length_map]at this
  ·simp only at hc
   split at hc
   ·rename_i e;subst e;exact .inr hg
   ·exact .inl hc
theorem a7b{μ:Mu}{Φ:ZW}{w:World}{c:Ctx}{p:List Int}{v:Value}(hg:Go.Pl.Good c μ Φ (YF p) w)(hv:R μ Φ v (.row 0 p.length 0 p.length))(hn:p.length<=1000):
  Calls Tryz.prog 104 #[v] w fun e w'=> ∃ v' Φ',e = .returned v'∧ZW.le Φ Φ'∧YN Φ' w'∧RP Φ' v' (enc p)∧Below w.heap.size w w'∧ ∀ b cs,Φ' b=some cs->Φ b=some cs∨w.heap.size<=b:=by
 obtain⟨B,C,cs,e1,e2,e3,e4,e5,e6,e7,e8,e9,e10⟩:=hg.obj 0 (.row false 3 1 (p.map enc)) rfl
 cases hv with
 | row l n lo hi B' C' S a h k1 k2 k3 ha=>
  rw[List.length_map]at e1
  rw[e1]at h
  cases h
  have ha:=ha (.inr rfl)
  rw[Nat.zero_mul]at ha
  subst ha
  rw[Nat.sub_zero]
  rw[List.length_map,GX]at e8
  have hcell : ∀ j,j<p.length->w.cell? ⟨B,0+j,none⟩=some (.int .i64 (p.getD j 0)):=by
   intro j hj
   have hj2:j<(cs.toList.take (p.length*1)).length:=by rw[e8.1,List.length_map];exact hj
   have h1:(p.map (enc:Int->PV))[j]? = some (.int .i64 p[j]):=by rw[List.getElem?_map,List.getElem?_eq_getElem hj];rfl
   have h2:=e8.2 j _ _ (List.getElem?_eq_getElem hj2) h1
   have h3:=Ba h2
   have h4:cs[j]? = some (.int .i64 p[j]):=by
    have h5:(cs.toList.take (p.length*1))[j]? = some (.int .i64 p[j]):=by rw[List.getElem?_eq_getElem hj2,h3]
    rw[List.getElem?_take,if_pos (by omega)]at h5
    simpa using h5
   rw[Nat.zero_add]
   simp[World.cell?,e3,h4,List.getD,hj]
  refine(Any.slices_Clone_int Tryz.laysC15 B 0 p.length (C - 0) p w (Nat.le_refl _) (by omega) hcell).mono ?_
  rintro e w' ⟨v',rfl,h1,_,h2⟩
  rw[List.take_of_length_le (Nat.le_refl _)]at h1
  obtain⟨Φ',a1,a2,a3,a4⟩:=Fu hg.phi h2 h1
  exact⟨v',Φ',rfl,a1,a2,a3,h2,a4⟩
theorem FV{Φ:ZW}{w:World}{fv vv:Value}{fs:List Fact}{vs:List Coef}(hL:GlobOK Φ)(hΦ:YN Φ w)(hf:RP Φ fv (enc fs))(hv:RP Φ vv (enc vs))(hs:Zp fs=true)(hl:vs.length<=9223372036854775807):
  Calls Tryz.prog 178 #[fv,vv] w fun e w'=>e = .returned (.bool (fs.all fun f=>YW f vs))∧Below w.heap.size w w':=by
 refine(PL [enc fs,enc vs] (Zl (fs,vs,()) rfl (by show(Zp fs&&decide (vs.length<=9223372036854775807))=true;rw[hs,decide_eq_true hl];rfl)) Φ w #[fv,vv] hL hΦ (c2i hf hv)).mono ?_
 rintro e w' ⟨v,Φ',rfl,_,_,hr,hb,_⟩
 have ev:Zf (fun x:List Fact×List Coef×Unit=>x.1.all fun f=>YW f x.2.1) [enc fs,enc vs] = .bool (fs.all fun f=>YW f vs):=by
  show enc ((fun x:List Fact×List Coef×Unit=>x.1.all fun f=>YW f x.2.1) (decL (encL (fs,vs,()))))=_
  rw[EncL.dec_encL];rfl
 rw[ev]at hr
 rw[b6v hr]
 exact⟨rfl,hb⟩
end Go.Proofs.YtjfgiaooglnomaaGreatDoor

namespace Go.Proofs.YtjfgiaooglnomaaGreatDoor
open Go.RowKit Go.Shelf Go.Pl
open Enc (enc dec is)
open EncL (encL decL isL)
attribute [local go_sem] Oper.semAt_some
set_option maxRecDepth 100000
theorem c4y{l:List Value}(hl:l.length=52): ∃ t0 t1 t2 t3 t4 t5 t6 t7 t8 t9 t10 t11 t12 t13 t14 t15 t16 t17 t18 t19 t20 t21 t22 t23 t24 t25 t26 t27 t28 t29 t30 t31 t32 t33 t34 t35 t36 t37 t38 t39 t40 t41 t42 t43 t44 t45 t46 t47 t48 t49 t50 t51,l=[t0,t1,t2,t3,t4,t5,t6,t7,t8,t9,t10,t11,t12,t13,t14,t15,t16,t17,t18,t19,t20,t21,t22,t23,t24,t25,t26,t27,t28,t29,t30,t31,t32,t33,t34,t35,t36,t37,t38,t39,t40,t41,t42,t43,t44,t45,t46,t47,t48,t49,t50,t51]:=by
 obtain⟨t0,r0,e0,hl0⟩:=YG hl
 subst e0
 obtain⟨t1,r1,e1,hl1⟩:=YG hl0
 subst e1
 obtain⟨t2,r2,e2,hl2⟩:=YG hl1
 subst e2
 obtain⟨t3,r3,e3,hl3⟩:=YG hl2
 subst e3
 obtain⟨t4,r4,e4,hl4⟩:=YG hl3
 subst e4
 obtain⟨t5,r5,e5,hl5⟩:=YG hl4
 subst e5
 obtain⟨t6,r6,e6,hl6⟩:=YG hl5
 subst e6
 obtain⟨t7,r7,e7,hl7⟩:=YG hl6
 subst e7
 obtain⟨t8,r8,e8,hl8⟩:=YG hl7
 subst e8
 obtain⟨t9,r9,e9,hl9⟩:=YG hl8
 subst e9
 obtain⟨t10,r10,e10,hl10⟩:=YG hl9
 subst e10
 obtain⟨t11,r11,e11,hl11⟩:=YG hl10
 subst e11
 obtain⟨t12,r12,e12,hl12⟩:=YG hl11
 subst e12
 obtain⟨t13,r13,e13,hl13⟩:=YG hl12
 subst e13
 obtain⟨t14,r14,e14,hl14⟩:=YG hl13
 subst e14
 obtain⟨t15,r15,e15,hl15⟩:=YG hl14
 subst e15
 obtain⟨t16,r16,e16,hl16⟩:=YG hl15
 subst e16
 obtain⟨t17,r17,e17,hl17⟩:=YG hl16
 subst e17
 obtain⟨t18,r18,e18,hl18⟩:=YG hl17
 subst e18
 obtain⟨t19,r19,e19,hl19⟩:=YG hl18
 subst e19
 obtain⟨t20,r20,e20,hl20⟩:=YG hl19
 subst e20
 obtain⟨t21,r21,e21,hl21⟩:=YG hl20
 subst e21
 obtain⟨t22,r22,e22,hl22⟩:=YG hl21
 subst e22
 obtain⟨t23,r23,e23,hl23⟩:=YG hl22
 subst e23
 obtain⟨t24,r24,e24,hl24⟩:=YG hl23
 subst e24
 obtain⟨t25,r25,e25,hl25⟩:=YG hl24
 subst e25
 obtain⟨t26,r26,e26,hl26⟩:=YG hl25
 subst e26
 obtain⟨t27,r27,e27,hl27⟩:=YG hl26
 subst e27
 obtain⟨t28,r28,e28,hl28⟩:=YG hl27
 subst e28
 obtain⟨t29,r29,e29,hl29⟩:=YG hl28
 subst e29
 obtain⟨t30,r30,e30,hl30⟩:=YG hl29
 subst e30
 obtain⟨t31,r31,e31,hl31⟩:=YG hl30
 subst e31
 obtain⟨t32,r32,e32,hl32⟩:=YG hl31
 subst e32
 obtain⟨t33,r33,e33,hl33⟩:=YG hl32
 subst e33
 obtain⟨t34,r34,e34,hl34⟩:=YG hl33
 subst e34
 obtain⟨t35,r35,e35,hl35⟩:=YG hl34
 subst e35
 obtain⟨t36,r36,e36,hl36⟩:=YG hl35
 subst e36
 obtain⟨t37,r37,e37,hl37⟩:=YG hl36
 subst e37
 obtain⟨t38,r38,e38,hl38⟩:=YG hl37
 subst e38
 obtain⟨t39,r39,e39,hl39⟩:=YG hl38
 subst e39
 obtain⟨t40,r40,e40,hl40⟩:=YG hl39
 subst e40
 obtain⟨t41,r41,e41,hl41⟩:=YG hl40
 subst e41
 obtain⟨t42,r42,e42,hl42⟩:=YG hl41
 subst e42
 obtain⟨t43,r43,e43,hl43⟩:=YG hl42
 subst e43
 obtain⟨t44,r44,e44,hl44⟩:=YG hl43
 subst e44
 obtain⟨t45,r45,e45,hl45⟩:=YG hl44
 subst e45
 obtain⟨t46,r46,e46,hl46⟩:=YG hl45
 subst e46
 obtain⟨t47,r47,e47,hl47⟩:=YG hl46
 subst e47
 obtain⟨t48,r48,e48,hl48⟩:=YG hl47
 subst e48
 obtain⟨t49,r49,e49,hl49⟩:=YG hl48
 subst e49
 obtain⟨t50,r50,e50,hl50⟩:=YG hl49
 subst e50
 obtain⟨t51,r51,e51,hl51⟩:=YG hl50
 subst e51
 obtain rfl:r51=[]:=List.length_eq_zero_iff.1 hl51
 exact⟨t0,t1,t2,t3,t4,t5,t6,t7,t8,t9,t10,t11,t12,t13,t14,t15,t16,t17,t18,t19,t20,t21,t22,t23,t24,t25,t26,t27,t28,t29,t30,t31,t32,t33,t34,t35,t36,t37,t38,t39,t40,t41,t42,t43,t44,t45,t46,t47,t48,t49,t50,t51,rfl⟩
def c8m:Code->Option Code
 | .seq _ (.block _ (.loop (.block _ (.seq _ (.seq m _)))))=>some m
 | _=>none
theorem c6h: ∃ cA b0 b1 cB cM cC,Option.bind Tryz.f177.body c8m=some cM∧Tryz.f177.body=some (.seq cA (.block b0 (.loop (.block b1 (.seq cB (.seq cM cC)))))) ∧
  XG Tryz.prog cA=some RQ∧Xr cA=true∧XG Tryz.prog cB=some PD∧Xr cB=true∧(XG Tryz.prog cC).map (fun x=>(QA [] [] x [4,1,2,0]).1)=some Qj∧Xr cC=true:=by
 refine⟨_,_,_,_,_,_,rfl,rfl,?_,?_,?_,?_,?_,?_⟩ <;> kernel_rfl
theorem Ca(p:List Int):c6m (YF p):=by
 intro l o h ty sz xs e
 subst e
 match l,h with
 | 0,h=>cases h
 | l+1,h=>simp[YF]at h
theorem c3b{μ:Mu}{Φ:ZW}{l:Nat}{b:BoxT}{fs:List Fact}{n:Nat}{t:Array Value}{v0 v1 v2 v4:Value}(h0:R μ Φ v0 (.yld l))(h1:R μ Φ v1 (.pv (.rptr [enc b.v,.int .i64 b.m])))(h2:R μ Φ v2 (.pv (.rptr [enc fs])))(h4:R μ Φ v4 (.row 0 n 0 n))
  (e0:t[0]? = some v0:=by rfl) (e1:t[1]? = some v1:=by rfl) (e2:t[2]? = some v2:=by rfl) (e4:t[4]? = some v4:=by rfl) :
  ∀ p∈[(0,AV.yld l),(1,.pv (.rptr [enc b.v,.int .i64 b.m])),(2,.pv (.rptr [enc fs])),(4,.row 0 n 0 n)],∀ v,t[p.1]? = some v->R μ Φ v p.2:=by
 intro p hp v hv
 simp only[List.mem_cons,List.not_mem_nil,or_false]at hp
 rcases hp with rfl|rfl|rfl|rfl
 ·rw[e0]at hv;cases hv;exact h0
 ·rw[e1]at hv;cases hv;exact h1
 ·rw[e2]at hv;cases hv;exact h2
 ·rw[e4]at hv;cases hv;exact h4
set_option maxHeartbeats 4000000 in
theorem c5l {n l : Nat} {b : BoxT} {fs : List Fact} {p : List Int} {μ : Mu} {Φ : ZW} {w : World} {a : Act} {k : Nat} {J : Nat -> ZW -> (Nat -> Prop) -> World -> Prop} {Jx : ZW -> (Nat -> Prop) -> World -> Prop} {cM : Code}
    (hM:Option.bind Tryz.f177.body c8m=some cM) (hJok : ∀ k,JOK (J k)) (hJxok:JOK Jx) (hfs:Zp fs=true) (hp:p.length<=1000) (hvl:b.v.length<=1000)
    (hj:J k Φ (Ho μ (YF p)) w) (hg:Go.Pl.Good (entry μ Φ (YF p) w) μ Φ (YF p) w) (he:Xv μ Φ a.tmps (b2z l b fs p.length p)) (hd:a.defers=[])
    (hY:VM b.v fs p=true-> ∀ Φ X W1 (vs:Array Value),J k Φ X W1->XV Φ vs.toList (Uq (p,Zd b.v p))->YieldAt Fence.wide (n - 1) Tryz.prog l vs W1 (SH (J (k+1)) Jx Φ X W1)) :
    cM.wpIn Fence.wide n Tryz.prog (fun e a' w'=>a'.defers=[]∧(∃ Φ',Φ.le Φ'∧Xv μ Φ' a'.tmps (Jn l b fs p.length) ∧
      ((e = .normal∧Go.Pl.Good (entry μ Φ' (YF p) w') μ Φ' (YF p) w'∧J (if VM b.v fs p then k+1 else k) Φ' (Ho μ (YF p)) w')∨(e = .ret∧ ∃ X,Jx Φ' X w')))) a w:=by
  obtain⟨tm,ds⟩:=a
  obtain⟨l0⟩:=tm
  simp only at hd
  subst hd
  obtain⟨hsz,hat⟩:=c4f he
  obtain⟨t0,t1,t2,t3,t4,t5,t6,t7,t8,t9,t10,t11,t12,t13,t14,t15,t16,t17,t18,t19,t20,t21,t22,t23,t24,t25,t26,t27,t28,t29,t30,t31,t32,t33,t34,t35,t36,t37,t38,t39,t40,t41,t42,t43,t44,t45,t46,t47,t48,t49,t50,t51,rfl⟩:=c4y (l:=l0) (by simpa using hsz)
  obtain⟨_,q0,k0⟩:=hat 0 _ (by decide) rfl
  obtain⟨_,q1,k1⟩:=hat 1 _ (by decide) rfl
  obtain⟨_,q2,k2⟩:=hat 2 _ (by decide) rfl
  obtain⟨_,q4,k4⟩:=hat 4 _ (by decide) rfl
  obtain⟨_,q5,k5⟩:=hat 5 _ (by decide) rfl
  cases q0;cases q1;cases q2;cases q4;cases q5
  cases k0
  have k2':RP Φ t2 (.rptr [enc fs]):=Yu k2
  have k5':RP Φ t5 (enc (Zd b.v p)):=Yu k5
  obtain⟨B2,o2,fv,rfl,hf,hone,hcell⟩:=a6m k2' hg.phi
  have hH:=FV hg.laid hg.phi hf k5' hfs (by unfold Zd;rw[List.length_zipWith];omega)
  cases hM
  cases hin:VM b.v fs p
  · have hin':(fs.all fun f=>YW f (Zd b.v p))=false:=hin
    gi_wp2_with (first
      | (refine⟨trivial,(fun h=>by simp[Fence.wide]at h),?_⟩;gi_at_call 178;refine(callsIn_wide.2 hH).mono ?_;rintro e w1 ⟨rfl,hb1⟩;rw[hin'])
      | (refine⟨trivial,?_⟩)
      | (refine⟨(fun(f:FuncId) (h:none=some f)=>by cases h),?_⟩)
      | fail)
    have hXb : ∀ x,Ho μ (YF p) x->x<w.heap.size∧Φ x=none:=fun x hx=>(hJok k).out hj hx
    have hg1:=hg.below hb1 (.refl _) (Jb hg.phi hb1) (fun b cs h=>.inl h)
    have hj1:=(hJok k).step hj (KA hb1 (.refl _) (Jb hg.phi hb1) (fun b cs h=>.inl h) hXb)
    exact⟨Φ,.refl _,Pn rfl (c3b (.yld l) k1 k2 k4),hg1.rebase,hj1⟩
  · have hin':(fs.all fun f=>YW f (Zd b.v p))=true:=hin
    have hXb : ∀ x,Ho μ (YF p) x->x<w.heap.size∧Φ x=none:=fun x hx=>(hJok k).out hj hx
    gi_wp2_with (first
      | (refine ⟨trivial, (fun h => by simp [Fence.wide] at h), ?_⟩; gi_at_call 178; refine (callsIn_wide.2 hH).mono ?_; rintro e w1 ⟨rfl, hb1⟩; rw [hin']
         have hg1:=hg.below hb1 (.refl _) (Jb hg.phi hb1) (fun b cs h=>.inl h)
         have hj1:=(hJok k).step hj (KA hb1 (.refl _) (Jb hg.phi hb1) (fun b cs h=>.inl h) hXb))
      | (refine ⟨trivial, (fun h => by simp [Fence.wide] at h), ?_⟩; gi_at_call 104; refine (callsIn_wide.2 (a7b hg1 k4 hp)).mono ?_; rintro e w2 ⟨v2, Φ2, rfl, hle2, hφ2, hv2, hb2, hd2⟩
         have hg2:=hg1.below hb2 hle2 hφ2 hd2
         have hj2:=(hJok k).step hj1 (KA hb2 hle2 hφ2 hd2 (fun x hx=>(hJok k).out hj1 hx))
         obtain⟨fn,tmps,assign,body,hy,hR⟩:=hY hin Φ2 _ w2 #[v2,t5] hj2 (c2i hv2 (k5'.mono hle2)))
      | fail)
    refine⟨(fun h=>by simp[Fence.wide]at h),hR.mono ?_⟩
    rintro e w3 ⟨Φ3,hle3,hkeep,⟨rfl,hj3⟩|⟨rfl,hj3⟩⟩
    · gi_wp2
      have hle:=hle2.trans hle3
      exact⟨Φ3,hle,Pn rfl (c3b (.yld l) (k1.mono (.refl _) hle) (k2.mono (.refl _) hle) (k4.mono (.refl _) hle)),hg2.moved ((hJok (k+1)).glob hj3) hle3 ((hJok (k+1)).phi hj3) hkeep (fun b hb=>((hJok (k+1)).out hj3 hb).2) (Ca p),hj3⟩
    · gi_wp2
      have hle:=hle2.trans hle3
      exact⟨Φ3,hle,Pn rfl (c3b (.yld l) (k1.mono (.refl _) hle) (k2.mono (.refl _) hle) (k4.mono (.refl _) hle)),_,hj3⟩
theorem b8j(μ:Mu):Ho μ []=fun _=>False:=by
 funext b
 exact propext ⟨fun⟨l,o,h,_⟩=>by simp at h,fun h=>h.elim⟩
theorem EF:Yc Tryz.prog a1i:=Zb (Yn Tryz.func48 (by kernel_rfl) c3g) Zn
theorem a9p{k:Nat}{rs:List IRes}{st:St}(h:Zk k rs (fun _=>False) st):False:=by
 obtain⟨r,_,h⟩:=h
 exact h
theorem b9s{m:Int}{p:List Int}{l:List (List Int)}(h:Walk m p l): ∃ t,l=p::t:=by
 cases h with
 | last h=>exact⟨[],rfl⟩
 | step h k=>exact⟨_,rfl⟩
theorem OU(x y z:Value)(n:Nat):((#[x]++ #[y,z])++Array.replicate n undef:Array Value)[0]? = some x∧((#[x]++ #[y,z])++Array.replicate n undef:Array Value)[1]? = some y∧((#[x]++ #[y,z])++Array.replicate n undef:Array Value)[2]? = some z:=by
 refine⟨?_,?_,?_⟩ <;> simp[Array.getElem?_append]
set_option maxHeartbeats 1000000 in
theorem VL:a9b Tryz.prog 177 Uq VZ Jl:=by
 refine⟨⟨_,Tryz.func177,rfl,rfl⟩,?_⟩
 intro pss hpre Φ0 lb l J Jx W hcaps hJok hJxok hY h0
 unfold VZ at hpre
 split at hpre
 ·rename_i v m f
  simp only[Bool.and_eq_true,decide_eq_true_eq]at hpre
  obtain⟨⟨⟨⟨hv,hf⟩,hbx⟩,hfs⟩,hvl⟩:=hpre
  obtain⟨vs,rfl⟩:=Ym hv
  obtain⟨fs,rfl⟩:=Ym hf
  rw[Enc.dec_enc]at hbx hvl hfs
  have hF:Jl [[enc vs,.int .i64 m],[enc fs]]=(ZR ⟨vs,m⟩ fs).map fun p=>(p,Zd vs p):=by
   show((ZR ⟨dec (enc vs:PV),m⟩ (dec (enc fs:PV))).map fun p=>(p,Zd (dec (enc vs:PV)) p))=_
   rw[Enc.dec_enc,Enc.dec_enc]
  rw[hF]at hY ⊢
  obtain⟨lb⟩:=lb
  match lb,hcaps.1 with
  | [p1,p2],_=>
   obtain⟨B1,c1,rfl,g1,r1,o1⟩:=hcaps.2 0 p1 _ rfl rfl
   obtain⟨B2,c2,rfl,g2,r2,o2⟩:=hcaps.2 1 p2 _ rfl rfl
   have k1:=SK g1 r1 o1
   have k2:=SK g2 r2 o2
   obtain⟨cA,b0,b1,cB,cM,cC,hM,hbody,hA1,hA2,hB1,hB2,hC1,hC2⟩:=c6h
   obtain⟨xC,hC0,hC3⟩:=Option.map_eq_some_iff.1 hC1
   have htr:Tr Tryz.prog cC Qj:=hC3▸Lv (KL hC0) _ _ _
   refine callsIn_wide.1 (callsIn_of_wp (F:=Fence.wide) (n:=4) Tryz.func177 hbody trivial ?_ rfl)
   have hE:Xv (fun _ _=>none) Φ0 ((#[Value.func (.yield l) #[] #[]]++ #[Value.pointer (some ⟨B1,0,none⟩),Value.pointer (some ⟨B2,0,none⟩)])++Array.replicate 49 undef) (ZF 52 0 [(0,.yld l),(1,.pv (.rptr [enc vs,.int .i64 m])),(2,.pv (.rptr [enc fs]))]):=by
    refine Pn (by simp) ?_
    intro q hq u hu
    simp only[List.mem_cons,List.not_mem_nil,or_false]at hq
    rcases hq with rfl|rfl|rfl
    ·have:=(OU _ _ _ 49).1.symm.trans hu
     injection this with this
     subst this
     exact .yld l
    ·have:=(OU _ _ _ 49).2.1.symm.trans hu
     injection this with this
     subst this
     exact .pv _ _ k1
    ·have:=(OU _ _ _ 49).2.2.symm.trans hu
     injection this with this
     subst this
     exact .pv _ _ k2
   refine wpIn_seq (wpIn_mono (SQ (nn:=4) (st:=⟨ZF 52 0 [(0,.yld l),(1,.pv (.rptr [enc vs,.int .i64 m])),(2,.pv (.rptr [enc fs]))],[]⟩) EF ZO hA1 hA2 (c0u l ⟨vs,m⟩ fs hvl) (UR ((hJok 0).glob h0) ((hJok 0).phi h0)) hE rfl) ?_)
   rintro e a1 w1 (⟨rfl,st',rfl,μ1,Φ1,hg1,he1,hd1⟩|⟨rfl,st',hF,_⟩)
   ·have hsz : ∀ y∈Ha m.toNat vs.length,∀ x∈y,-1<=x∧x<=20000:=by
     intro y hy x hx
     obtain⟨q1,q2⟩:=Hw.1 hy
     have:=q2 x hx
     obtain⟨_,_,h3,h4,_⟩:=Ue.1 hbx
     rcases h3 with h3|h3
     ·have h3:vs=[]:=h3
      subst h3
      rw[List.length_eq_zero_iff.1 q1]at hx
      cases hx
     ·have h3:m<20000:=h3
      have h4:0<=m:=h4
      omega
    have hj1:J 0 Φ1 (Ho μ1 (YF (Uo vs))) w1:=by
     have h0':J 0 Φ0 (Ho (fun _ _=>none) []) W:=by rw[b8j];exact h0
     exact(hJok 0).step h0' (Steps.of_good hg1 (Ca _))
    have hz:Uo vs=List.replicate vs.length 0:=List.map_const' ..
    have hw0:Walk m (Uo vs) (Ha m.toNat vs.length):=by
     have:=TW m.toNat vs.length
     have e:(m.toNat:Int)=m:=by
      have:0<=m:=(Ue.1 hbx).2.2.2.1
      omega
     rw[e,<- hz]at this
     exact this
    have hp0:ZR ⟨vs,m⟩ fs=(Ha m.toNat vs.length).filter (VM vs fs):=by
     unfold ZR
     rw[UA hbx]
    refine wpIn_block (wpIn_loop_ghost (fun n a w=> ∃ (p:List Int) (lst:List (List Int)) (k:Nat) (μ:Mu) (Φ:ZW),n=lst.length∧Walk m p lst∧p.length=vs.length∧(∀ y∈lst,∀ x∈y,-1<=x∧x<=20000) ∧
     (ZR ⟨vs,m⟩ fs).drop k=lst.filter (VM vs fs)∧k<=(ZR ⟨vs,m⟩ fs).length∧J k Φ (Ho μ (YF p)) w∧Go.Pl.Good (entry μ Φ (YF p) w) μ Φ (YF p) w∧Xv μ Φ a.tmps (Jn l ⟨vs,m⟩ fs p.length)∧a.defers=[]) _
     ⟨Uo vs,Ha m.toNat vs.length,0,μ1,Φ1,rfl,hw0,by simp[Uo],hsz,by rw[List.drop_zero,hp0],Nat.zero_le _,hj1,hg1.rebase,by rw[show(Uo vs).length=(⟨vs,m⟩:BoxT).v.length by simp[Uo]];exact he1,hd1⟩ ?_)
    clear hj1 hg1 he1 hd1 hw0 h0 hE
    rintro n a w ⟨p,lst,k,μ,Φ,rfl,hw,hpl,hpx,hdr,hk,hj,hg,he,hd⟩
    have hp:p.length<=1000:=by omega
    obtain⟨rest,rfl⟩:=b9s hw
    refine wpIn_block (wpIn_seq (wpIn_mono (SQ (nn:=4) (st:=⟨Jn l ⟨vs,m⟩ fs p.length,YF p⟩) EF ZO hB1 hB2 (c0h l ⟨vs,m⟩ fs p hvl hp) hg he hd) ?_))
    rintro e a1 w1 (⟨rfl,st',rfl,μ1,Φ1,hg1,he1,hd1⟩|⟨rfl,st',hF,_⟩)
    ·have hj1:J k Φ1 (Ho μ1 (YF p)) w1:=(hJok k).step hj (Steps.of_good hg1 (Ca _))
     have hat:VM vs fs p=true->(ZR ⟨vs,m⟩ fs)[k]? = some p:=by
      intro hin
      have:((ZR ⟨vs,m⟩ fs).drop k)[0]? = some p:=by rw[hdr,List.filter_cons,if_pos hin];rfl
      rwa [List.getElem?_drop]at this
     refine wpIn_seq (wpIn_mono (c5l (n:=4) (b:=⟨vs,m⟩) (fs:=fs) (J:=J) (Jx:=Jx) hM hJok hJxok hfs hp hvl hj1 hg1.rebase he1 hd1 ?_) ?_)
     ·intro hin Φ X W1 us hJ hus
      exact hY 3 k (p,Zd vs p) Φ X W1 us (by rw[List.getElem?_map,hat hin];rfl) hJ hus
     ·rintro e a2 w2 ⟨hd2,Φ2,hle,he2,⟨rfl,hg2,hj2⟩|⟨rfl,X,hjx⟩⟩
      ·refine wpIn_mono (Bi (nn:=4) (st:=⟨Jn l ⟨vs,m⟩ fs p.length,YF p⟩) EF ZO htr hC2 (b8i l ⟨vs,m⟩ fs p hp (hpx p (by simp))) hg2 he2 hd2) ?_
       have hk':(if VM vs fs p then k+1 else k)<=(ZR ⟨vs,m⟩ fs).length∧(ZR ⟨vs,m⟩ fs).drop (if VM vs fs p then k+1 else k)=rest.filter (VM vs fs):=by
        cases hin:VM vs fs p
        ·rw[if_neg (by simp)]
         refine⟨hk,?_⟩
         rw[hdr,List.filter_cons,if_neg (by simp[hin])]
        ·rw[if_pos rfl]
         have:=(List.getElem?_eq_some_iff.1 (hat hin)).1
         refine⟨this,?_⟩
         have e:=congrArg (List.drop 1) hdr
         rw[List.filter_cons,if_pos hin,List.drop_drop]at e
         exact e
       rintro e a3 w3 (⟨rfl,st',⟨q,hq,rfl⟩,μ3,Φ3,hg3,he3,hd3⟩|⟨rfl,st',hF,μ3,Φ3,hg3,he3,hd3⟩)
       ·have hql:q.length=p.length:=SI _ _ _ _ hq
        cases hw with
        | last h=>rw[h]at hq;cases hq
        | step h hw'=>
         rw[h]at hq
         cases hq
         refine⟨rest.length,by simp,q,rest,_,μ3,Φ3,rfl,hw',by rw[hql,hpl],fun y hy=>hpx y (by simp[hy]),hk'.2,hk'.1,(hJok _).step hj2 (Steps.of_good hg3 (Ca q)),hg3.rebase,by rw[hql];exact he3,hd3⟩
       ·obtain⟨_,_,hq⟩:=hF
        cases hw with
        | step h hw'=>rw[h]at hq;cases hq
        | last h=>
         have hkl:(if VM vs fs p then k+1 else k)=(ZR ⟨vs,m⟩ fs).length:=by
          have e:=congrArg List.length hk'.2
          rw[List.length_drop]at e
          have:=hk'.1
          simp at e
          omega
         rw[hkl]at hj2
         simp only[Exit.inBlock,Exit.then]
         refine bodyPost_ret (results_none (fn:=Tryz.f177) rfl _ _ _) hd3 ?_
         refine⟨⟨_,rfl⟩,Φ3,fun _=>False,.inl ?_⟩
         rw[List.length_map]
         exact(hJok _).step hj2 (Steps.of_good0 hg3)
      ·simp only[Exit.inBlock,Exit.then]
       refine bodyPost_ret (results_none (fn:=Tryz.f177) rfl _ _ _) hd2 ?_
       exact⟨⟨_,rfl⟩,Φ2,X,.inr hjx⟩
    ·exact(a9p hF).elim
   ·exact(a9p hF).elim
 ·cases hpre
end Go.Proofs.YtjfgiaooglnomaaGreatDoor

namespace Go.Proofs.YtjfgiaooglnomaaGreatDoor
open Go.Pl
open Enc (enc dec is)
open EncL (encL decL isL)
set_option maxRecDepth 100000
theorem M6:ZU Tryz.prog 187 XJ QP:=RJ (fun blk off cap ss w hH hb hs hc=>((Any.slices_Compact_string Tryz.lays194 blk off cap ss w hH (by omega) hc).mono fun e w' h=>⟨h.1,by obtain⟨q,rfl⟩:=h.2;exact⟨q,#[],by unfold Go.Sort.grow;rw[Array.append_empty];rfl⟩⟩)) (fun p cap w=>Any.slices_Compact_string_empty Tryz.lays194 p cap w)
theorem Jq:ZU Tryz.prog 117 Yx Xm:=WE (T:=Ep) (ic:=RO) (rs:=Po) Zn ZO Tryz.func117 (by kernel_rfl) (by kernel_rfl) (by kernel_rfl) b3n
theorem a5r{cd:Code}(h:XC Tryz.prog Vv Tryz.f45 0=some cd):Xh Tryz.prog cd=some (.t 17,[18,19],[(8,18)],U9):=by
 have:(XC Tryz.prog Vv Tryz.f45 0).bind (Xh Tryz.prog)=some (.t 17,[18,19],[(8,18)],U9):=by kernel_rfl
 rw[h]at this
 exact this
theorem b7c(hT:Yc Tryz.prog Jk): ∀ (B:Nat) (c:Ctx),c.w0.heap.size=B->(∀ i m,0<=i->c.μ0 i m=none)->Sn (UU B 4 hT ZO) (fun n cd=>XC Tryz.prog Vv Tryz.f45 n=some cd) gpE c:=by
 rintro B c hB hk n cd hcd st a w q hr ⟨rfl,hE⟩
 exact VJ hT ZO VL (fun x=>rfl) (a5r hcd) hB hk hr hE
theorem a0f:Yc Tryz.prog Jk:=(Zb (Yn Tryz.func116 (by kernel_rfl) Qh) (Zb (Yn Tryz.func117 (by kernel_rfl) Jq) Zn))
theorem H8:Zr Tryz.prog 45 (fun x:BoxT×List Fact×Unit=>ZT x.1&&Zp x.2.1&&decide (x.2.1.length<=100)&&decide (x.1.v.length<=1000)) (fun x:BoxT×List Fact×Unit=>Xd x.1 x.2.1):=Zr.ofM (T:=Jk) (ic:=GY) (rs:=G8) (E:=gpE) (sel:=Vv) a0f ZO Tryz.func45 (by kernel_rfl) (by kernel_rfl) (by kernel_rfl) (b7c a0f) c0v
theorem La:Zr Tryz.prog 47 (fun x:BoxT×List Fact×Unit=>ZT x.1&&Zp x.2.1&&decide (x.2.1.length<=100)&&decide (x.1.v.length<=1000)) (fun x:BoxT×List Fact×Unit=>Dl x.1 x.2.1):=Zr.of (T:=CW) (ic:=GA) (rs:=Dc) (Zb (Yn Tryz.func45 (by kernel_rfl) H8) Zn) ZO Tryz.func47 (by kernel_rfl) (by kernel_rfl) (by kernel_rfl) O8
theorem b1l:Zr Tryz.prog 128 (fun _:Int×Int×Unit=>true) (fun x:Int×Int×Unit=>decide (x.1<x.2.1)):=Zr.of (T:=b6j) (ic:=OP) (rs:=FN) Zn ZO Tryz.func128 (by kernel_rfl) (by kernel_rfl) (by kernel_rfl) c0k
theorem b4z:Zr Tryz.prog 133 (fun _:Int×Int×Unit=>true) (fun x:Int×Int×Unit=>decide (x.1>x.2.1)):=Zr.of (T:=b6b) (ic:=Es) (rs:=OZ) Zn ZO Tryz.func133 (by kernel_rfl) (by kernel_rfl) (by kernel_rfl) b9x
theorem a1t:ZU Tryz.prog 194 (XP 128) (WI ZH):=WE (T:=Et) (ic:=Cq) (rs:=Rw) (Zb (Yn Tryz.func128 (by kernel_rfl) b1l) Zn) ZO Tryz.func194 (by kernel_rfl) (by kernel_rfl) (by kernel_rfl) b3u
theorem a1a:ZU Tryz.prog 194 (XP 133) (WI Z5):=WE (T:=EC) (ic:=Rz) (rs:=RX) (Zb (Yn Tryz.func133 (by kernel_rfl) b4z) Zn) ZO Tryz.func194 (by kernel_rfl) (by kernel_rfl) (by kernel_rfl) b2k
theorem Mr{cd:Code}(h:XC Tryz.prog Vv Tryz.f127 0=some cd):Xh Tryz.prog cd=some (.t 31,[32,33],[(15,33)],Vs):=by
 have:(XC Tryz.prog Vv Tryz.f127 0).bind (Xh Tryz.prog)=some (.t 31,[32,33],[(15,33)],Vs):=by kernel_rfl
 rw[h]at this
 exact this
theorem a5u(hT:Yc Tryz.prog VU): ∀ (B:Nat) (c:Ctx),c.w0.heap.size=B->(∀ i m,0<=i->c.μ0 i m=none)->Sn (UU B 4 hT ZO) (fun n cd=>XC Tryz.prog Vv Tryz.f127 n=some cd) JS c:=by
 rintro B c hB hk n cd hcd st a w q hr ⟨rfl,hE⟩
 exact VJ hT ZO VL (fun x=>rfl) (Mr hcd) hB hk hr hE
theorem MW{cd:Code}(h:XC Tryz.prog Vv Tryz.f127 0=some cd):Xh Tryz.prog cd=some (.t 31,[32,33],[(15,33)],Qs):=by
 have:(XC Tryz.prog Vv Tryz.f127 0).bind (Xh Tryz.prog)=some (.t 31,[32,33],[(15,33)],Qs):=by kernel_rfl
 rw[h]at this
 exact this
theorem a4i(hT:Yc Tryz.prog VR): ∀ (B:Nat) (c:Ctx),c.w0.heap.size=B->(∀ i m,0<=i->c.μ0 i m=none)->Sn (UU B 4 hT ZO) (fun n cd=>XC Tryz.prog Vv Tryz.f127 n=some cd) JD c:=by
 rintro B c hB hk n cd hcd st a w q hr ⟨rfl,hE⟩
 exact VJ hT ZO VL (fun x=>rfl) (MW hcd) hB hk hr hE
theorem Tf:Yc Tryz.prog VU:=(Zb (Yn Tryz.func73 (by kernel_rfl) Wd) (Zb (Yn Tryz.func174 (by kernel_rfl) b0u) (Zb (Yn Tryz.func116 (by kernel_rfl) Qh) (Zb (Yn Tryz.func117 (by kernel_rfl) Jq) (Zb (Yn Tryz.func38 (by kernel_rfl) Ua) (Zb (Yn Tryz.func194 (by kernel_rfl) a1t) Zn))))))
theorem SL:Yc Tryz.prog VR:=(Zb (Yn Tryz.func73 (by kernel_rfl) Wd) (Zb (Yn Tryz.func174 (by kernel_rfl) b5u) (Zb (Yn Tryz.func116 (by kernel_rfl) Eo) (Zb (Yn Tryz.func117 (by kernel_rfl) Jq) (Zb (Yn Tryz.func38 (by kernel_rfl) Ua) (Zb (Yn Tryz.func194 (by kernel_rfl) a1t) Zn))))))
theorem b2n:Zr Tryz.prog 127 (fun x:BoxT×List Fact×Lin×FnV 128×Unit=>YA x.1 x.2.1 x.2.2.1) (fun x:BoxT×List Fact×Lin×FnV 128×Unit=>Yw ZH x.1 x.2.1 x.2.2.1):=Zr.or (fun x=>x.2.2.1.t.isEmpty)
 (Zr.ofM (T:=VU) (ic:=Vk) (rs:=Qx) (E:=JS) (sel:=Vv) Tf ZO Tryz.func127 (by kernel_rfl) (by kernel_rfl) (by kernel_rfl) (a5u Tf) a6u)
 (Zr.ofM (T:=VR) (ic:=QT) (rs:=QK) (E:=JD) (sel:=Vv) SL ZO Tryz.func127 (by kernel_rfl) (by kernel_rfl) (by kernel_rfl) (a4i SL) a3w)
theorem Dw:Zr Tryz.prog 58 (fun x:BoxT×List Fact×Lin×Unit=>YA x.1 x.2.1 x.2.2.1) (fun x:BoxT×List Fact×Lin×Unit=>Yw ZH x.1 x.2.1 x.2.2.1):=Zr.of (T:=Ew) (ic:=PH) (rs:=P8) (Zb (Yn Tryz.func127 (by kernel_rfl) b2n) Zn) ZO Tryz.func58 (by kernel_rfl) (by kernel_rfl) (by kernel_rfl) a7k
theorem NH{cd:Code}(h:XC Tryz.prog Vv Tryz.f127 0=some cd):Xh Tryz.prog cd=some (.t 31,[32,33],[(15,33)],QD):=by
 have:(XC Tryz.prog Vv Tryz.f127 0).bind (Xh Tryz.prog)=some (.t 31,[32,33],[(15,33)],QD):=by kernel_rfl
 rw[h]at this
 exact this
theorem a3p(hT:Yc Tryz.prog VY): ∀ (B:Nat) (c:Ctx),c.w0.heap.size=B->(∀ i m,0<=i->c.μ0 i m=none)->Sn (UU B 4 hT ZO) (fun n cd=>XC Tryz.prog Vv Tryz.f127 n=some cd) Jt c:=by
 rintro B c hB hk n cd hcd st a w q hr ⟨rfl,hE⟩
 exact VJ hT ZO VL (fun x=>rfl) (NH hcd) hB hk hr hE
theorem LM{cd:Code}(h:XC Tryz.prog Vv Tryz.f127 0=some cd):Xh Tryz.prog cd=some (.t 31,[32,33],[(15,33)],Qw):=by
 have:(XC Tryz.prog Vv Tryz.f127 0).bind (Xh Tryz.prog)=some (.t 31,[32,33],[(15,33)],Qw):=by kernel_rfl
 rw[h]at this
 exact this
theorem a6i(hT:Yc Tryz.prog VX): ∀ (B:Nat) (c:Ctx),c.w0.heap.size=B->(∀ i m,0<=i->c.μ0 i m=none)->Sn (UU B 4 hT ZO) (fun n cd=>XC Tryz.prog Vv Tryz.f127 n=some cd) JN c:=by
 rintro B c hB hk n cd hcd st a w q hr ⟨rfl,hE⟩
 exact VJ hT ZO VL (fun x=>rfl) (LM hcd) hB hk hr hE
theorem Ri:Yc Tryz.prog VY:=(Zb (Yn Tryz.func73 (by kernel_rfl) Wd) (Zb (Yn Tryz.func174 (by kernel_rfl) b0u) (Zb (Yn Tryz.func116 (by kernel_rfl) Qh) (Zb (Yn Tryz.func117 (by kernel_rfl) Jq) (Zb (Yn Tryz.func38 (by kernel_rfl) Ua) (Zb (Yn Tryz.func194 (by kernel_rfl) a1a) Zn))))))
theorem Tc:Yc Tryz.prog VX:=(Zb (Yn Tryz.func73 (by kernel_rfl) Wd) (Zb (Yn Tryz.func174 (by kernel_rfl) b5u) (Zb (Yn Tryz.func116 (by kernel_rfl) Eo) (Zb (Yn Tryz.func117 (by kernel_rfl) Jq) (Zb (Yn Tryz.func38 (by kernel_rfl) Ua) (Zb (Yn Tryz.func194 (by kernel_rfl) a1a) Zn))))))
theorem a8w:Zr Tryz.prog 127 (fun x:BoxT×List Fact×Lin×FnV 133×Unit=>YA x.1 x.2.1 x.2.2.1) (fun x:BoxT×List Fact×Lin×FnV 133×Unit=>Yw Z5 x.1 x.2.1 x.2.2.1):=Zr.or (fun x=>x.2.2.1.t.isEmpty)
 (Zr.ofM (T:=VY) (ic:=QI) (rs:=QE) (E:=Jt) (sel:=Vv) Ri ZO Tryz.func127 (by kernel_rfl) (by kernel_rfl) (by kernel_rfl) (a3p Ri) a7a)
 (Zr.ofM (T:=VX) (ic:=QH) (rs:=QQ) (E:=JN) (sel:=Vv) Tc ZO Tryz.func127 (by kernel_rfl) (by kernel_rfl) (by kernel_rfl) (a6i Tc) a2s)
theorem BF:Zr Tryz.prog 62 (fun x:BoxT×List Fact×Lin×Unit=>YA x.1 x.2.1 x.2.2.1) (fun x:BoxT×List Fact×Lin×Unit=>Yw Z5 x.1 x.2.1 x.2.2.1):=Zr.of (T:=FZ) (ic:=R4) (rs:=PE) (Zb (Yn Tryz.func127 (by kernel_rfl) a8w) Zn) ZO Tryz.func62 (by kernel_rfl) (by kernel_rfl) (by kernel_rfl) b3t
theorem b5y:Zr Tryz.prog 185 (fun x:Str×Unit=>decide (x.1.s.length<=281474976710656)) (fun x:Str×Unit=> !(ZA x.1)):=Zr.of (T:=F5) (ic:=Nc) (rs:=P9) (Zb (Yn Tryz.func119 (by kernel_rfl) DL) Zn) ZO Tryz.func185 (by kernel_rfl) (by kernel_rfl) (by kernel_rfl) a7u
theorem b9c:Zr Tryz.prog 238 (fun x:List Str×FnV 185×Unit=>WF x.1) (fun x:List Str×FnV 185×Unit=>Zy (fun s:Str=> !(ZA s)) x.1):=Zr.of (T:=Af) (ic:=Ju) (rs:=JV) (Zb (Yn Tryz.func185 (by kernel_rfl) b5y) Zn) ZO Tryz.func238 (by kernel_rfl) (by kernel_rfl) (by kernel_rfl) c1d
theorem c1n:Zr Tryz.prog 175 (fun x:List Str×FnV 185×Unit=>WF x.1) (fun x:List Str×FnV 185×Unit=>x.1.any fun s:Str=> !(ZA s)):=Zr.of (T:=b5a) (ic:=Ei) (rs:=F9) (Zb (Yn Tryz.func238 (by kernel_rfl) b9c) Zn) ZO Tryz.func175 (by kernel_rfl) (by kernel_rfl) (by kernel_rfl) c0t
theorem Tk:Zr Tryz.prog 283 (fun _:Str×Unit=>true) (fun _:Str×Unit=>false):=Zr.of (T:=Oq) (ic:=PP) (rs:=PZ) Zn ZO Tryz.func283 (by kernel_rfl) (by kernel_rfl) (by kernel_rfl) a9m
theorem Mv:Zr Tryz.prog 244 (fun _:Str×Str×Unit=>true) (fun x:Str×Str×Unit=>decide (x.1.s<x.2.1.s)):=Zr.of (T:=Pz) (ic:=Ab) (rs:=BU) (Zb (Yn Tryz.func283 (by kernel_rfl) Tk) Zn) ZO Tryz.func244 (by kernel_rfl) (by kernel_rfl) (by kernel_rfl) a3e
theorem Aa:Zr Tryz.prog 245 (fun _:Str×Str×Unit=>true) (fun x:Str×Str×Unit=>Sr x.1 x.2.1):=Zr.of (T:=OT) (ic:=Ps) (rs:=Pd) (Zb (Yn Tryz.func283 (by kernel_rfl) Tk) Zn) ZO Tryz.func245 (by kernel_rfl) (by kernel_rfl) (by kernel_rfl) b5i
theorem PM:Zr Tryz.prog 184 (fun x:List Str×Unit=>Zx x.1) (fun x:List Str×Unit=>Gu x.1):=Zr.of (T:=VP) (ic:=WP) (rs:=WQ) (Zb (Yn Tryz.func244 (by kernel_rfl) Mv) Zn) ZO Tryz.func184 (by kernel_rfl) (by kernel_rfl) (by kernel_rfl) MR
theorem SE:Zr Tryz.prog 186 (fun x:List Str×List Str×Unit=>Zx x.1&&Zx x.2.1) (fun x:List Str×List Str×Unit=>Gx x.1 x.2.1):=Zr.of (T:=UK) (ic:=VE) (rs:=VD) (Zb (Yn Tryz.func245 (by kernel_rfl) Aa) Zn) ZO Tryz.func186 (by kernel_rfl) (by kernel_rfl) (by kernel_rfl) OO
theorem V6:Zr Tryz.prog 122 (fun x:List Mono×Unit=>Yg x.1) (fun x:List Mono×Unit=>Z9 x.1):=Zr.of (T:=Vf) (ic:=WY) (rs:=Wi) (Zb (Yn Tryz.func184 (by kernel_rfl) PM) (Zb (Yn Tryz.func175 (by kernel_rfl) c1n) (Zb (Yn Tryz.func186 (by kernel_rfl) SE) Zn))) ZO Tryz.func122 (by kernel_rfl) (by kernel_rfl) (by kernel_rfl) FJ
theorem c2t:ZU Tryz.prog 123 U8 Na:=WE (T:=XU) (ic:=Xa) (rs:=Xf) (Zb (Yn Tryz.func122 (by kernel_rfl) V6) (Zb (Yn Tryz.func154 (by kernel_rfl) MZ) (Zb (Yn Tryz.func187 (by kernel_rfl) M6) Zn))) ZO Tryz.func123 (by kernel_rfl) (by kernel_rfl) (by kernel_rfl) OX
theorem c3x:ZU Tryz.prog 123 U8 PR:=c2t.trunc fun args os h=>by
 unfold U8 at h
 split at h
 ·rename_i a
  refine⟨rfl,9,(Lib.compact (Y8 (Ui a))).length,Vw (Y8 (Ui a)),?_,?_,?_⟩
  ·rw[GL];exact HV _
  ·show(AV.row 0 (Y8 (Ui a)).length 0 _,_,_)=_
   rw[GL]
  ·have e:(Vw (Y8 (Ui a))).take (Lib.compact (Y8 (Ui a))).length=Lib.compact (Y8 (Ui a)):=by unfold Vw;exact List.take_left ..
   rw[e]
   show Ku (Yy (Ui a))=_
   unfold Ku Yy
   rw[List.length_map,List.map_map];rfl
 ·cases h
theorem c5a:ZU Tryz.prog 123 K7 CG:=WE (T:=XU) (ic:=Xa) (rs:=Xf) (Zb (Yn Tryz.func122 (by kernel_rfl) V6) (Zb (Yn Tryz.func154 (by kernel_rfl) MZ) (Zb (Yn Tryz.func187 (by kernel_rfl) M6) Zn))) ZO Tryz.func123 (by kernel_rfl) (by kernel_rfl) (by kernel_rfl) O6
theorem c2x:ZU Tryz.prog 188 Gt Cz:=WE (T:=a8x) (ic:=Ox) (rs:=FB) Zn ZO Tryz.func188 (by kernel_rfl) (by kernel_rfl) (by kernel_rfl) b9m
theorem c3j:ZU Tryz.prog 109 (VW 188) Ch:=WE (T:=Bh) (ic:=J6) (rs:=Jr) (Zb (Yn Tryz.func188 (by kernel_rfl) c2x) Zn) ZO Tryz.func109 (by kernel_rfl) (by kernel_rfl) (by kernel_rfl) c0q
theorem b6q:Zr Tryz.prog 284 (fun x:List Int×Int×Unit=>Zx x.1) (fun x:List Int×Int×Unit=>Zy (fun n:Int=>decide (x.2.1=n)) x.1):=Zr.of (T:=Jz) (ic:=Kb) (rs:=Kg) Zn ZO Tryz.func284 (by kernel_rfl) (by kernel_rfl) (by kernel_rfl) a9u
theorem a6f:Zr Tryz.prog 246 (fun x:List Int×Int×Unit=>Zx x.1) (fun x:List Int×Int×Unit=>x.1.contains x.2.1):=Zr.of (T:=Bf) (ic:=G5) (rs:=G6) (Zb (Yn Tryz.func284 (by kernel_rfl) b6q) Zn) ZO Tryz.func246 (by kernel_rfl) (by kernel_rfl) (by kernel_rfl) OI
theorem CO:Zr Tryz.prog 189 (fun x:List Int×Unit=>Zx x.1) (fun x:List Int×Unit=>Y3 x.1):=Zr.of (T:=U4) (ic:=UI) (rs:=V5) (Zb (Yn Tryz.func246 (by kernel_rfl) a6f) (Zb (Yn Tryz.func247 (by kernel_rfl) OJ) Zn)) ZO Tryz.func189 (by kernel_rfl) (by kernel_rfl) (by kernel_rfl) a6r
theorem Du:Zr Tryz.prog 125 (fun x:List Mono×List Coef×Unit=>Yg x.1&&Zx x.2.1) (fun x:List Mono×List Coef×Unit=>YR x.1 x.2.1):=Zr.of (T:=ZQ) (ic:=ZG) (rs:=ZC) (Zb (Yn Tryz.func122 (by kernel_rfl) V6) (Zb (Yn Tryz.func109 (by kernel_rfl) c3j) (Zb (Yn Tryz.func189 (by kernel_rfl) CO) (Zb (Yn Tryz.func190 (by kernel_rfl) Ef) Zn)))) ZO Tryz.func125 (by kernel_rfl) (by kernel_rfl) (by kernel_rfl) a4z
theorem b3l:ZU Tryz.prog 124 Uu U7:=WE (T:=PT) (ic:=Cf) (rs:=Cx) Zn ZO Tryz.func124 (by kernel_rfl) (by kernel_rfl) (by kernel_rfl) b7j
theorem Fh{cd:Code}(h:XC Tryz.prog Vv Tryz.f57 0=some cd):Xh Tryz.prog cd=some (.t 32,[33,34],[(13,34)],Vj):=by
 have:(XC Tryz.prog Vv Tryz.f57 0).bind (Xh Tryz.prog)=some (.t 32,[33,34],[(13,34)],Vj):=by kernel_rfl
 rw[h]at this
 exact this
theorem a2v(hT:Yc Tryz.prog YJ): ∀ (B:Nat) (c:Ctx),c.w0.heap.size=B->(∀ i m,0<=i->c.μ0 i m=none)->Sn (UU B 4 hT ZO) (fun n cd=>XC Tryz.prog Vv Tryz.f57 n=some cd) Vb c:=by
 rintro B c hB hk n cd hcd st a w q hr ⟨rfl,hE⟩
 exact VJ hT ZO VL (fun x=>rfl) (Fh hcd) hB hk hr hE
theorem Ll{cd:Code}(h:XC Tryz.prog Vv Tryz.f57 0=some cd):Xh Tryz.prog cd=some (.t 32,[33,34],[(13,34)],Ug):=by
 have:(XC Tryz.prog Vv Tryz.f57 0).bind (Xh Tryz.prog)=some (.t 32,[33,34],[(13,34)],Ug):=by kernel_rfl
 rw[h]at this
 exact this
theorem a6c(hT:Yc Tryz.prog YH): ∀ (B:Nat) (c:Ctx),c.w0.heap.size=B->(∀ i m,0<=i->c.μ0 i m=none)->Sn (UU B 4 hT ZO) (fun n cd=>XC Tryz.prog Vv Tryz.f57 n=some cd) Vq c:=by
 rintro B c hB hk n cd hcd st a w q hr ⟨rfl,hE⟩
 exact VJ hT ZO VL (fun x=>rfl) (Ll hcd) hB hk hr hE
theorem Rm:Yc Tryz.prog YJ:=(Zb (Yn Tryz.func122 (by kernel_rfl) V6) (Zb (Yn Tryz.func123 (by kernel_rfl) c5a) (Zb (Yn Tryz.func116 (by kernel_rfl) Qh) (Zb (Yn Tryz.func117 (by kernel_rfl) Jq) (Zb (Yn Tryz.func125 (by kernel_rfl) Du) (Zb (Yn Tryz.func124 (by kernel_rfl) b3l) (Zb (Yn Tryz.func126 (by kernel_rfl) AY) Zn)))))))
theorem TK:Yc Tryz.prog YH:=(Zb (Yn Tryz.func122 (by kernel_rfl) V6) (Zb (Yn Tryz.func123 (by kernel_rfl) c3x) (Zb (Yn Tryz.func116 (by kernel_rfl) Eo) (Zb (Yn Tryz.func117 (by kernel_rfl) Jq) (Zb (Yn Tryz.func125 (by kernel_rfl) Du) (Zb (Yn Tryz.func124 (by kernel_rfl) b3l) (Zb (Yn Tryz.func126 (by kernel_rfl) AY) Zn)))))))
theorem a4u:Zr Tryz.prog 57 (fun x:BoxT×List Fact×List Mono×Unit=>JJ x.1 x.2.1 x.2.2.1) (fun x:BoxT×List Fact×List Mono×Unit=>Ww x.1 x.2.1 x.2.2.1):=Zr.or (fun x=> !Z9 x.2.2.1||(XA x.2.2.1).isEmpty)
 (Zr.ofM (T:=YJ) (ic:=YK) (rs:=Y1) (E:=Vb) (sel:=Vv) Rm ZO Tryz.func57 (by kernel_rfl) (by kernel_rfl) (by kernel_rfl) (a2v Rm) a4j)
 (Zr.ofM (T:=YH) (ic:=YZ) (rs:=YV) (E:=Vq) (sel:=Vv) TK ZO Tryz.func57 (by kernel_rfl) (by kernel_rfl) (by kernel_rfl) (a6c TK) (fun a h=>a6l a (by
  simp only[Bool.and_eq_true,Bool.not_eq_true',Bool.or_eq_false_iff,Bool.not_eq_false']at h ⊢
  exact h)))
theorem SA:Zr Tryz.prog 51 (fun x:BoxT×Unit=>ZT x.1) (fun x:BoxT×Unit=>Xy x.1):=Zr.of (T:=QO) (ic:=Vz) (rs:=VO) (Zb (Yn Tryz.func84 (by kernel_rfl) DW) Zn) ZO Tryz.func51 (by kernel_rfl) (by kernel_rfl) (by kernel_rfl) b9d
theorem BX:Zr Tryz.prog 49 (fun x:BoxT×List Int×Unit=>decide (x.1.v.length<=1000)&&Zx x.2.1) (fun x:BoxT×List Int×Unit=>Zd x.1.v x.2.1):=Zr.of (T:=Vo) (ic:=Wh) (rs:=Wo) Zn ZO Tryz.func49 (by kernel_rfl) (by kernel_rfl) (by kernel_rfl) Ee
theorem Mg:Zr Tryz.prog 44 (fun x:BoxT×List Fact×Unit=>ZT x.1&&YQ x.2.1) (fun x:BoxT×List Fact×Unit=>Qb x.1 x.2.1):=Zr.of (T:=Vr) (ic:=VG) (rs:=Wj) (Zb (Yn Tryz.func51 (by kernel_rfl) SA) (Zb (Yn Tryz.func31 (by kernel_rfl) FX) Zn)) ZO Tryz.func44 (by kernel_rfl) (by kernel_rfl) (by kernel_rfl) Fs
theorem Pw:Zr Tryz.prog 115 (fun _:Int×Int×Int×Unit=>true) (fun x:Int×Int×Int×Unit=>Kq x.1 x.2.1 x.2.2.1):=Zr.of (T:=G7) (ic:=JR) (rs:=J9) (Zb (Yn Tryz.func91 (by kernel_rfl) a5z) (Zb (Yn Tryz.func89 (by kernel_rfl) NF) Zn)) ZO Tryz.func115 (by kernel_rfl) (by kernel_rfl) (by kernel_rfl) Nv
theorem Mc:Zr Tryz.prog 43 (fun _:Unit=>true) (fun _:Unit=>true):=Zr.of (T:=Dh) (ic:=J8) (rs:=JH) (Zb (Yn Tryz.func115 (by kernel_rfl) Pw) (Zb (Yn Tryz.func47 (by kernel_rfl) La) (Zb (Yn Tryz.func58 (by kernel_rfl) Dw) (Zb (Yn Tryz.func57 (by kernel_rfl) a4u) (Zb (Yn Tryz.func50 (by kernel_rfl) Kw) Zn))))) ZO Tryz.func43 (by kernel_rfl) (by kernel_rfl) (by kernel_rfl) LC
end Go.Proofs.YtjfgiaooglnomaaGreatDoor

namespace Go.Proofs.YtjfgiaooglnomaaGreatDoor
open Go.Pl
open Enc (enc dec is)
open EncL (encL decL isL)
set_option maxRecDepth 100000
theorem a3i:Zr Tryz.prog 12 (fun x:BoxT×List Fact×Lin×Unit=>ZT x.1&&YQ x.2.1&&YC x.2.2.1) (fun _:BoxT×List Fact×Lin×Unit=>true):=Zr.of (T:=Xt) (ic:=YU) (rs:=YT) (Zb (Yn Tryz.func43 (by kernel_rfl) Mc) (Zb (Yn Tryz.func44 (by kernel_rfl) Mg) (Zb (Yn Tryz.func16 (by kernel_rfl) Bu) (Zb (Yn Tryz.func45 (by kernel_rfl) H8) (Zb (Yn Tryz.func58 (by kernel_rfl) Dw) (Zb (Yn Tryz.func62 (by kernel_rfl) BF) (Zb (Yn Tryz.func49 (by kernel_rfl) BX) (Zb (Yn Tryz.func65 (by kernel_rfl) Mx) (Zb (Yn Tryz.func66 (by kernel_rfl) PK) Zn))))))))) ZO Tryz.func12 (by kernel_rfl) (by kernel_rfl) (by kernel_rfl) O3
end Go.Proofs.YtjfgiaooglnomaaGreatDoor

namespace Go.Proofs.YtjfgiaooglnomaaGreatDoor
open Go.Pl
open Enc (enc dec is)
open EncL (encL decL isL)
set_option maxRecDepth 100000
theorem RH:Tryz.prog.underlying 3=some (.int .i64):=by kernel_rfl
theorem c1i:Tryz.prog.underlying 4=some .bool:=by kernel_rfl
theorem a0c:Tryz.prog.underlying 9=some .string:=by kernel_rfl
theorem b5e:Tryz.prog.underlying 22=some (.slice 61):=by kernel_rfl
theorem a7p:Tryz.prog.underlying 52=some (.slice 100):=by kernel_rfl
theorem Nh:Tryz.prog.cellsOf 3=1:=by kernel_rfl
theorem b9v:Tryz.prog.cellsOf 4=1:=by kernel_rfl
theorem a2l:Tryz.prog.cellsOf 9=1:=by kernel_rfl
theorem a7c:Tryz.prog.cellsOf 22=1:=by kernel_rfl
theorem MV:Tryz.prog.cellsOf 61=2:=by kernel_rfl
theorem CR:Tryz.prog.cellsOf 24=2:=by kernel_rfl
theorem NR:Tryz.prog.cellsOf 100=3:=by kernel_rfl
theorem c5v:Y7 Tryz.prog 61=true:=by kernel_rfl
theorem c4n:Y7 Tryz.prog 24=true:=by kernel_rfl
theorem c6l:Y7 Tryz.prog 100=true:=by kernel_rfl
theorem c6d:Y7 Tryz.prog 52=false:=by kernel_rfl
theorem a9c:Qa Tryz.prog 61=some [(0,9),(1,3)]:=by kernel_rfl
theorem NJ:Qa Tryz.prog 24=some [(0,3),(1,22)]:=by kernel_rfl
theorem a9w:Qa Tryz.prog 100=some [(0,4),(1,24)]:=by kernel_rfl
theorem CJ{α:Type}[Enc α]{P:α->Prop}{f:List PV->PV}: ∀ {qs:List (List PV)},(∀ q∈qs,∃ a:α,f q=enc a∧P a)-> ∃ l:List α,qs.map f=l.map enc∧ ∀ a∈l,P a
 | [],_=>⟨[],rfl,fun a h=>by cases h⟩
 | q::qs,h=>by
  obtain⟨a,h1,h2⟩:=h q (by simp)
  obtain⟨l,h3,h4⟩:=CJ (qs:=qs) fun r hr=>h r (by simp[hr])
  refine⟨a::l,by rw[List.map_cons,List.map_cons,h1,h3],fun b hb=> ?_⟩
  rcases List.mem_cons.1 hb with rfl|hb
  ·exact h2
  ·exact h4 b hb
theorem C8{α:Type}[Enc α]{f:List PV->PV}{qs:List (List PV)}{l:List α}(h:qs.map f=l.map enc):l.length=qs.length:=by
 have:=congrArg List.length h
 simpa using this.symm
theorem c0d{n:Nat}{q:List PV}(h:Ud Tryz.prog n 61 q): ∃ t:Coef,Kn Tryz.prog 61 q=enc t∧True:=by
 obtain⟨m,_,hl,h0,h1,_⟩:=U6 a9c MV h
 match q,hl with
 | [a,b],_=>
  rw[a2l]at h0
  rw[Nh]at h1
  obtain⟨o,e0,w0⟩:=b0z a0c h0
  obtain⟨k,e1,w1⟩:=L6 RH h1
  simp at e0 e1
  subst e0 e1
  exact⟨⟨⟨o⟩,k⟩,by rw[Kn,c5v];rfl,trivial⟩
theorem c1p{n:Nat}{q:List PV}(h:Ud Tryz.prog n 22 q): ∃ l:List Coef,q=[enc l]∧l.length<=9223372036854775807:=by
 obtain⟨m,_,qs,rfl,hl,hq⟩:=Br b5e MV h
 obtain⟨l,e,_⟩:=CJ (α:=Coef) (P:=fun _=>True) (f:=Kn Tryz.prog 61) fun x hx=>c0d (hq x hx).2
 have hl:qs.length<=9223372036854775807:=hl
 exact⟨l,by rw[e];rfl,by rw[C8 e];exact hl⟩
theorem a0y{n:Nat}{a b:PV}(h:Ud Tryz.prog n 24 [a,b]): ∃ l:Lin,a=enc l.k∧b=enc l.t∧YC l=true:=by
 obtain⟨m,_,hl,h0,h1,_⟩:=U6 NJ CR h
 rw[Nh]at h0
 rw[a7c]at h1
 obtain⟨o,e0,w0⟩:=L6 RH h0
 obtain⟨t,e1,l1⟩:=c1p h1
 simp at e0 e1
 subst e0 e1
 exact⟨⟨o,t⟩,rfl,rfl,by simp only[YC];exact decide_eq_true l1⟩
theorem b4i{n:Nat}{q:List PV}(h:Ud Tryz.prog n 24 q): ∃ l:Lin,Kn Tryz.prog 24 q=enc l∧YC l=true:=by
 obtain⟨m,_,hl,_⟩:=U6 NJ CR h
 match q,hl with
 | [a,b],_=>
  obtain⟨l,rfl,rfl,h2⟩:=a0y h
  exact⟨l,by rw[Kn,c4n];rfl,h2⟩
theorem a6g{n:Nat}{q:List PV}(h:Ud Tryz.prog n 100 q): ∃ f:Fact,Kn Tryz.prog 100 q=enc f∧YC f.l=true:=by
 obtain⟨m,_,hl,h0,h1,_⟩:=U6 a9w NR h
 match q,hl with
 | [a,b,c],_=>
  rw[b9v]at h0
  rw[CR]at h1
  obtain⟨o,e0⟩:=a6q c1i h0
  obtain⟨l,e1,e2,h2⟩:=a0y (a:=b) (b:=c) h1
  simp at e0
  subst e0 e1 e2
  exact⟨⟨o,l⟩,by rw[Kn,c6l];rfl,h2⟩
theorem EE{n:Nat}{q:List PV}(h:Ud Tryz.prog n 52 q): ∃ l:List Fact,Kn Tryz.prog 52 q=enc l∧l.length<=9223372036854775807∧ ∀ f∈l,YC f.l=true:=by
 obtain⟨m,_,qs,rfl,hl,hq⟩:=Br a7p NR h
 obtain⟨l,e,hk⟩:=CJ (α:=Fact) (P:=fun f=>YC f.l=true) (f:=Kn Tryz.prog 100) fun x hx=>a6g (hq x hx).2
 have hl:qs.length<=9223372036854775807:=hl
 exact⟨l,by rw[Kn,c6d,e];rfl,by rw[C8 e];exact hl,hk⟩
end Go.Proofs.YtjfgiaooglnomaaGreatDoor

namespace Go.Pl
open Go.RowKit Go.WideShapes Go.ChangeShapes
def YL(P:Program):Nat->TypeId->List PV->Prop
 | 0,_,_=>False
 | n+1,t,ps=>match P.underlying t with
  | some .bool=> ∃ b,ps=[.bool b]
  | some (.int k)=> ∃ m,ps=[.int k m]∧(Lit.int k m).wf=true
  | some .string=> ∃ s:List UInt8,ps=[.str s]∧s.length<=reachBytes
  | some (.slice e)=> ∃ qs:List (List PV),ps=[.sl (P.cellsOf e) false (qs.map (Kn P e))]∧qs.length*P.bytesOf e<=reachBytes∧qs.length<=maxLen∧ ∀ q∈qs,q.length=P.cellsOf e∧YL P n e q
  | some (.struct fs)=>ps.length=P.cellsOf t∧ ∀ f∈fs.toList,YL P n f.type ((ps.drop f.offset).take (P.cellsOf f.type))
  | some (.array m e)=>ps.length=P.cellsOf t∧ ∀ i<m,YL P n e ((ps.drop (i*P.cellsOf e)).take (P.cellsOf e))
  | _=>False
theorem Jp{P:Program}: ∀ (n:Nat) (t:TypeId) (ps:List PV),YL P n t ps->Ud P n t ps:=by
 intro n
 induction n with
 | zero=>intro t ps h;exact h
 | succ n ih=>
  intro t ps h
  unfold YL at h
  unfold Ud
  split at h <;> (try rename_i hu) <;> (try simp only[hu]) <;> try (exact h.elim)
  ·exact h
  ·exact h
  ·obtain⟨s,h1,h2⟩:=h
   exact⟨s,h1,Nat.le_trans h2 (by decide)⟩
  ·obtain⟨qs,h1,h2,h3,h4⟩:=h
   exact⟨qs,h1,h3,fun q hq=>⟨(h4 q hq).1,ih _ _ (h4 q hq).2⟩⟩
  ·exact⟨h.1,fun f hf=>ih _ _ (h.2 f hf)⟩
  ·exact⟨h.1,fun i hi=>ih _ _ (h.2 i hi)⟩
def wok{H:Type}(P:Program)(t:TypeId)(d:DataW H):Prop:= ∀ n∈d.weights P t,n<=reachBytes
theorem RB{H:Type}{P:Program}{e:TypeId}: ∀ {l:List (DataW H)},(∀ n∈DataW.weightsAll P e l,n<=reachBytes)-> ∀ d∈l,wok P e d
 | [],_,d,h=>by cases h
 | d::l,hw,x,h=>by
  have h1:DataW.weightsAll P e (d::l)=d.weights P e++DataW.weightsAll P e l:=by rw[DataW.weightsAll]
  rw[h1]at hw
  rcases List.mem_cons.1 h with rfl|h
  ·exact fun n hn=>hw n (List.mem_append_left _ hn)
  ·exact RB (fun n hn=>hw n (List.mem_append_right _ hn)) x h
section
variable {H:Type} {enc:TypeId×Value->H} {P:Program} {w:World} {base:Nat} {sp:Nat->Bool} {held:Bool} {S:List TypeId}
theorem R9{n:Nat}{cs:List Value}(ih : ∀ (t:TypeId) (cs:List Value) (x:DataW H×List MemPlace),t∈S->DataW.trod enc P w base sp held n t cs=some x->wok P t x.1-> ∃ ps,Cl w cs ps∧YL P n t ps):
  ∀ (fs:List Field) (o N:Nat) (xs:List (DataW H×List MemPlace)),Q8 P o fs N=true->(∀ f∈fs,f.type∈S)->cs.length=N->o<=N ->
   fs.mapM (fun f=>DataW.trod enc P w base sp held n f.type ((cs.drop f.offset).take (P.cellsOf f.type)))=some xs->(∀ k∈DataW.weightsEach P (fs.map (·.type)) (xs.map (·.1)),k<=reachBytes) ->
   ∃ ps,Cl w (cs.drop o) ps∧ ∀ qs:List PV,qs.length=o-> ∀ f∈fs,YL P n f.type (((qs++ps).drop f.offset).take (P.cellsOf f.type)):=by
 intro fs
 induction fs with
 | nil=>
  intro o N xs hc _ hl ho _ _
  simp[Q8]at hc
  refine⟨[],?_,fun qs _ f hf=>by simp at hf⟩
  rw[List.drop_of_length_le (by omega)]
  exact Cl.nil
 | cons f fs ihf=>
  intro o N xs hc hm hl ho h hW
  simp only[Q8,Bool.and_eq_true,beq_iff_eq]at hc
  obtain⟨hfo,hc⟩:=hc
  simp only[List.mapM_cons,Option.bind_eq_bind,Option.bind_eq_some_iff]at h
  obtain⟨x,hx,xs',hxs,e⟩:=h
  cases e
  have hE:DataW.weightsEach P ((f::fs).map (·.type)) ((x::xs').map (·.1))=x.1.weights P f.type++DataW.weightsEach P (fs.map (·.type)) (xs'.map (·.1)):=by rw[List.map_cons,List.map_cons,DataW.weightsEach]
  rw[hE]at hW
  obtain⟨p1,k1,k2⟩:=ih _ _ x (hm f List.mem_cons_self) hx (fun k hk=>hW k (List.mem_append_left _ hk))
  have hle:o+P.cellsOf f.type<=N:=by
   have : ∀ (fs:List Field) (a:Nat),Q8 P a fs N=true->a<=N:=by
    intro fs
    induction fs with
    | nil=>intro a h;simp[Q8]at h;omega
    | cons g fs ih=>intro a h;simp only[Q8,Bool.and_eq_true]at h;have:=ih _ h.2;omega
   exact this _ _ hc
  obtain⟨p2,k3,k4⟩:=ihf (o+P.cellsOf f.type) N xs' hc (fun g hg=>hm g (List.mem_cons_of_mem _ hg)) hl hle hxs (fun k hk=>hW k (List.mem_append_right _ hk))
  have hp1:p1.length=P.cellsOf f.type:=by
   rw[<- k1.1.1,List.length_take,List.length_drop,hfo]
   omega
  refine⟨p1++p2,?_,fun qs hq g hg=> ?_⟩
  ·have:=k1.append k3
   rw[hfo]at this
   have e:cs.drop o=(cs.drop o).take (P.cellsOf f.type)++cs.drop (o+P.cellsOf f.type):=by rw[<- List.drop_drop,List.take_append_drop]
   rw[e]
   exact this
  ·rcases List.mem_cons.1 hg with rfl|hg
   ·rw[hfo,<- hq,List.drop_left,<- hp1,List.take_left]
    exact k2
   ·have:=k4 (qs++p1) (by simp[hq,hp1]) g hg
    rwa [List.append_assoc]at this
theorem Rs{n m sz:Nat}{e:TypeId}(he:P.cellsOf e=sz){cs:List Value}(ih : ∀ i,i<m-> ∃ ps,Cl w ((cs.drop (i*sz)).take sz) ps∧YL P n e ps)(hl:cs.length=m*sz):
  ∃ ps,Cl w cs ps∧ ∀ i<m,YL P n e ((ps.drop (i*sz)).take sz):=by
 induction m generalizing cs with
 | zero=>
  have:cs=[]:=List.length_eq_zero_iff.1 (by omega)
  subst this
  exact⟨[],Cl.nil,fun i h=>by omega⟩
 | succ m ihm=>
  obtain⟨p1,k1,k2⟩:=ih 0 (by omega)
  simp only[Nat.zero_mul,List.drop_zero]at k1
  have hl1:p1.length=sz:=by
   rw[<- k1.1.1,List.length_take,hl,Nat.succ_mul]
   omega
  obtain⟨p2,k3,k4⟩:=ihm (cs:=cs.drop sz) (fun i hi=>by
   have:=ih (i+1) (by omega)
   rwa [Nat.succ_mul,Nat.add_comm,<- List.drop_drop]at this) (by rw[List.length_drop,hl,Nat.succ_mul];omega)
  refine⟨p1++p2,by have:=k1.append k3;rwa [List.take_append_drop]at this,fun i hi=> ?_⟩
  cases i with
  | zero=>
   simp only[Nat.zero_mul,List.drop_zero]
   rw[<- hl1,List.take_left]
   exact k2
  | succ i=>
   have:=k4 i (by omega)
   have e2:(p1++p2).drop ((i+1)*sz)=p2.drop (i*sz):=by
    rw[Nat.succ_mul,Nat.add_comm,<- List.drop_drop]
    congr 1
    rw[<- hl1,List.drop_left]
   rwa [e2]
theorem NU{n:Nat}{e:TypeId}{a:Addr}{len cap:Nat}{xs:List (DataW H×List MemPlace)}(hsz:0<P.cellsOf e)(hag:Y7 P e=true∨P.cellsOf e=1)(hcap:len<=cap)(hmax:cap<=maxLen)
  (ih : ∀ (cs:List Value) (x:DataW H×List MemPlace),DataW.trod enc P w base sp held n e cs=some x->wok P e x.1-> ∃ ps,Cl w cs ps∧YL P n e ps)
  (h:(List.range len).mapM (fun i=>(w.cells? base (a.add (i*P.cellsOf e)) (P.cellsOf e)).bind (DataW.trod enc P w base sp held n e))=some xs) (hW : ∀ x∈xs,wok P e x.1) (hB:xs.length*P.bytesOf e<=reachBytes) :
  ∃ qs:List (List PV),RP (Sl w) (.slice (some a) len cap) (.sl (P.cellsOf e) false (qs.map (Kn P e)))∧qs.length*P.bytesOf e<=reachBytes∧qs.length<=maxLen∧ ∀ q∈qs,q.length=P.cellsOf e∧YL P n e q:=by
 obtain⟨hl,hg⟩:=CS h
 rw[List.length_range]at hl
 have key : ∀ i,i<len-> ∃ q:List PV,(q.length=P.cellsOf e∧YL P n e q)∧ ∀ (r:Nat) p,q[r]? = some p-> ∃ v,w.cell? (a.add (i*P.cellsOf e+r))=some v∧v.oneCell'=true∧RP (Sl w) v p:=by
  intro i hi
  have hx:=List.getElem?_eq_getElem (show i<xs.length by omega)
  have:=hg i i _ (by simp[hi]) hx
  rw[Option.bind_eq_some_iff]at this
  obtain⟨cs,h1,h2⟩:=this
  obtain⟨q,k1,k2⟩:=ih cs _ h2 (hW _ (List.getElem_mem _))
  obtain⟨c1,c2⟩:=a5b h1
  refine⟨q,⟨by rw[<- k1.1.1,c1],k2⟩,fun r p hp=> ?_⟩
  have hr:r<cs.length:=by rw[k1.1.1];exact(List.getElem?_eq_some_iff.1 hp).1
  have hv:=List.getElem?_eq_getElem hr
  refine⟨_,?_,k1.2 _ (List.getElem_mem hr),k1.1.2 r _ p hv hp⟩
  rw[<- a4b]
  exact c2 r _ hv
 obtain⟨qs,hq1,hq2⟩:=Lu len key
 have hcells : ∀ q∈qs,(Kn P e q).cells=q:=by
  intro q hq
  obtain⟨i,hi,rfl⟩:=List.getElem_of_mem hq
  have:=(hq2 i _ (List.getElem?_eq_getElem hi)).1
  exact a4s hag this.1 fun ha=>a9s (Jp _ _ _ this.2) ha
 refine⟨qs,?_,by rw[hq1,<- hl];exact hB,by omega,fun q hq=> ?_⟩
 ·by_cases h0:len=0
  ·subst h0
   have:qs=[]:=List.length_eq_zero_iff.1 hq1
   subst this
   exact .sl0 _ _ _ _ fun e=>by cases e
  ·-- the first cell tells the block
   obtain⟨b,off,cs,rfl,hb,-⟩ : ∃ b off cs,a=⟨b,off,none⟩∧Sl w b=some cs∧True:=by
    have hq0:=List.getElem?_eq_getElem (show 0<qs.length by omega)
    obtain⟨⟨f1,f2⟩,f3⟩:=hq2 0 _ hq0
    have hp:=List.getElem?_eq_getElem (show 0<(qs[0]'(by omega)).length by omega)
    obtain⟨v,hv,_⟩:=f3 0 _ hp
    simp[Addr.add]at hv
    obtain⟨b,off,cs,e1,e2,_⟩:=TD hv
    exact⟨b,off,cs,e1,e2,trivial⟩
   have hs : ∀ x∈qs.map (Kn P e),x.cells.length=P.cellsOf e:=by
    intro x hx
    obtain⟨q,hq,rfl⟩:=List.mem_map.1 hx
    rw[hcells q hq]
    obtain⟨i,hi,rfl⟩:=List.getElem_of_mem hq
    exact(hq2 i _ (List.getElem?_eq_getElem hi)).1.1
   have hat : ∀ (j:Nat) p,(flat (qs.map (Kn P e)))[j]? = some p-> ∃ v,cs[off+j]? = some v∧v.oneCell'=true∧RP (Sl w) v p:=by
    intro j p hp
    have hj:j<len*P.cellsOf e:=by
     have:=(List.getElem?_eq_some_iff.1 hp).1
     rw[W9 hs]at this
     simpa [hq1]using this
    have hi:j / P.cellsOf e<qs.length:=by rw[hq1];exact(Nat.div_lt_iff_lt_mul hsz).2 hj
    have hr:j % P.cellsOf e<P.cellsOf e:=Nat.mod_lt _ hsz
    have hqi:=List.getElem?_eq_getElem hi
    have e0:j=j / P.cellsOf e*P.cellsOf e+j % P.cellsOf e:=by rw[Nat.mul_comm];exact(Nat.div_add_mod _ _).symm
    have hxi:(qs.map (Kn P e))[j / P.cellsOf e]? = some (Kn P e qs[j / P.cellsOf e]):=by rw[List.getElem?_map,hqi];rfl
    have hfg:=MG hs hxi hr
    rw[<- e0,hcells _ (List.getElem_mem hi)]at hfg
    rw[hfg]at hp
    obtain⟨v,hv,h1,h2⟩:=(hq2 _ _ hqi).2 _ p hp
    rw[<- e0,XQ]at hv
    obtain⟨b',off',cs',e1,e2,e3⟩:=TD hv
    cases e1
    rw[hb]at e2
    cases e2
    exact⟨v,e3,h1,h2⟩
   have hlen:len=(qs.map (Kn P e)).length:=by simp[hq1]
   rw[hlen]
   refine .sl b off cs cap _ false _ (fun j=>(cs[off+j]?).getD default) hb (by rw[<- hlen];exact hcap) (fun e=>by cases e) hs (fun j p hp=> ?_) (fun j p hp=> ?_)
   ·obtain⟨v,h1,h2,h3⟩:=hat j p hp
    rw[h1]
    exact⟨rfl,h2⟩
   ·obtain⟨v,h1,h2,h3⟩:=hat j p hp
    rw[h1]
    exact h3
 ·obtain⟨i,hi,rfl⟩:=List.getElem_of_mem hq
  exact(hq2 i _ (List.getElem?_eq_getElem hi)).1
theorem Ez(hS:Pf P S=true): ∀ (n:Nat) (t:TypeId) (cs:List Value) (x:DataW H×List MemPlace),t∈S->DataW.trod enc P w base sp held n t cs=some x->wok P t x.1-> ∃ ps,Cl w cs ps∧YL P n t ps:=by
  intro n
  induction n with
  | zero=>intro t cs x _ h _;simp[DataW.trod]at h
  | succ n ih=>
    intro t cs x ht h hW
    have hp:=TA hS ht
    unfold DataW.trod at h
    unfold YL
    split at h <;> (try rename_i hu) <;> (try simp only[hu]at hp ⊢) <;> try (cases hp;done)
    all_goals first
      | (exact⟨_,Cl.one (.bool _) rfl,_,rfl⟩)
      | (split at h
         · rename_i hc
           obtain⟨rfl,hw⟩:=hc
           exact⟨_,Cl.one (.int _ _) rfl,_,rfl,hw⟩
         · cases h)
      | (split at h
         · rename_i hc
           cases h
           exact⟨_,Cl.one (.str _) rfl,_,rfl,hW _ (by rw[DataW.weights];exact List.mem_singleton.2 rfl)⟩
         · cases h)
      | (cases h;done)
      | skip
    · exact⟨_,Cl.one (.sl0 _ _ _ false (fun e=>by cases e)) rfl,[],rfl,by simp,by simp,fun q hq=>by simp at hq⟩
    · rename_i e a len cap
      simp only[Bool.and_eq_true,Bool.or_eq_true,beq_iff_eq,decide_eq_true_eq]at hp
      simp only at h
      split at h
      · rename_i hc
        obtain⟨xs,h1,h3⟩:=Option.bind_eq_some_iff.1 h
        obtain⟨ys,h4,rfl⟩:=Option.map_eq_some_iff.1 h3
        have hE:DataW.weights P t (DataW.slice (xs.map (·.1)) (ys.map (·.1)):DataW H)=((xs.map (·.1)).length+(ys.map (·.1)).length)*P.bytesOf e::(DataW.weightsAll P e (xs.map (·.1))++DataW.weightsAll P e (ys.map (·.1))):=by
          rw[DataW.weights];simp only[hu]
        have hW' : ∀ k∈((xs.map (·.1)).length+(ys.map (·.1)).length)*P.bytesOf e::(DataW.weightsAll P e (xs.map (·.1))++DataW.weightsAll P e (ys.map (·.1))),k<=reachBytes:=by rw[<- hE];exact hW
        have hB:xs.length*P.bytesOf e<=reachBytes:=by
          have h5:=hW' _ List.mem_cons_self
          rw[List.length_map,List.length_map]at h5
          exact Nat.le_trans (Nat.mul_le_mul_right _ (Nat.le_add_right _ _)) h5
        have hA : ∀ x∈xs,wok P e x.1:=fun x hx=>RB (fun k hk=>hW' k (List.mem_cons_of_mem _ (List.mem_append_left _ hk))) x.1 (List.mem_map.2 ⟨x,hx,rfl⟩)
        obtain⟨qs,k1,k2,k2',k3⟩:=NU hp.1.2 hp.2 hc.2.1 hc.2.2 (fun cs x hx hw=>ih e cs x (by simpa using hp.1.1.2) hx hw) h1 hA hB
        exact⟨_,Cl.one k1 rfl,qs,rfl,k2,k2',k3⟩
      · cases h
    · rename_i cs2 fs
      simp only[Bool.and_eq_true]at hp
      split at h
      · rename_i hc
        rw[Option.map_eq_some_iff]at h
        obtain⟨xs,h1,rfl⟩:=h
        have hE:DataW.weights P t (DataW.agg (xs.map (·.1)):DataW H)=DataW.weightsEach P (fs.toList.map (·.type)) (xs.map (·.1)):=by
          rw[DataW.weights];simp only[hu]
        have hW' : ∀ k∈DataW.weightsEach P (fs.toList.map (·.type)) (xs.map (·.1)),k<=reachBytes:=by rw[<- hE];exact hW
        obtain⟨ps,k1,k2⟩:=R9 ih fs.toList 0 (P.cellsOf t) xs hp.1 (fun f hf=>by simpa using List.all_eq_true.1 hp.2 f hf) hc (Nat.zero_le _) h1 hW'
        rw[List.drop_zero]at k1
        exact⟨ps,k1,by rw[<- k1.1.1,hc],fun f hf=>by simpa using k2 [] rfl f hf⟩
      · cases h
    · rename_i cs1 _ cs2 m e
      simp only[Bool.and_eq_true,beq_iff_eq]at hp
      split at h
      · rename_i hc
        rw[Option.map_eq_some_iff]at h
        obtain⟨xs,h1,rfl⟩:=h
        have hE:DataW.weights P t (DataW.agg (xs.map (·.1)):DataW H)=DataW.weightsAll P e (xs.map (·.1)):=by
          rw[DataW.weights];simp only[hu]
        have hW' : ∀ k∈DataW.weightsAll P e (xs.map (·.1)),k<=reachBytes:=by rw[<- hE];exact hW
        obtain⟨hl,hg⟩:=CS h1
        rw[List.length_range]at hl
        obtain⟨ps,k1,k2⟩:=Rs (n:=n) (m:=m) (e:=e) rfl (cs:=cs1) (fun i hi=>by
          have hx:=List.getElem?_eq_getElem (show i<xs.length by omega)
          exact ih e _ _ (by simpa using hp.1) (hg i i _ (by simp[hi]) hx) (RB hW' _ (List.mem_map.2 ⟨_,List.getElem_mem (show i<xs.length by omega),rfl⟩))) (by rw[hc,hp.2])
        exact⟨ps,k1,by rw[<- k1.1.1,hc],k2⟩
      · cases h
theorem GH(hS:Pf P S=true){t:TypeId}(ht:t∈S){r:Reach}{b0:Nat}{v:Value}{d:DataW H}{p:List MemPlace}(hval:Value.okWide P w r b0 t v)(h:DataW.Trod enc P w base sp held t v d p)(hW:wok P t d):
  ∃ n q,RP (Sl w) v (Kn P t q)∧YL P n t q:=by
 obtain⟨n,h⟩:=h
 obtain⟨q,k1,k2⟩:=Ez hS n t _ _ ht h hW
 refine⟨n,q,?_,k2⟩
 have hp:=TA hS ht
 have scal:v.cells = #[v]->Y7 P t=false->RP (Sl w) v (Kn P t q):=by
  intro hc ha
  rw[hc]at k1
  have hl:=k1.1.1
  match q,hl with
  | [x],_=>simp only[Kn,ha,List.headD_cons];exact k1.1.2 0 v x rfl rfl
 have agg : ∀ cs,v = .agg cs->Y7 P t=true->RP (Sl w) v (Kn P t q):=by
  rintro cs rfl ha
  simp only[Kn,ha]
  exact .agg cs q (by have:=k1.1.1;simpa [Value.cells]using this) (fun x hx=>k1.2 x (by simpa [Value.cells]using hx)) fun j x y hx hy=>k1.1.2 j x y (by simpa [Value.cells]using hx) hy
 split at hp
 ·rename_i hu
  obtain⟨b,rfl⟩:=okWide_bool hu hval
  exact scal rfl (by simp[Y7,hu])
 ·rename_i hu
  obtain⟨b,rfl⟩:=okWide_int hu hval
  exact scal rfl (by simp[Y7,hu])
 ·rename_i hu
  obtain⟨b,rfl⟩:=okWide_string hu hval
  exact scal rfl (by simp[Y7,hu])
 ·rename_i hu
  obtain⟨a,l,c,rfl⟩:=okWide_slice hu hval
  exact scal rfl (by simp[Y7,hu])
 ·rename_i hu
  simp only[Value.okWide,hu]at hval
  obtain⟨cs,rfl,_⟩:=hval
  exact agg cs rfl (by simp[Y7,hu])
 ·rename_i hu
  simp only[Value.okWide,hu]at hval
  obtain⟨cs,rfl,_⟩:=hval
  exact agg cs rfl (by simp[Y7,hu])
 ·cases hp
end
section
variable {P:Program}
def b3f(P:Program)(n:Nat)(q:List PV):List (Nat×TypeId)->Prop
 | []=>True
 | (o,t)::r=>YL P n t ((q.drop o).take (P.cellsOf t))∧b3f P n q r
theorem RG{n c:Nat}{t:TypeId}{q:List PV}{l:List (Nat×TypeId)}(hs:Qa P t=some l)(hc:P.cellsOf t=c)(h:YL P n t q): ∃ m,n=m+1∧q.length=c∧b3f P m q l:=by
 cases n with
 | zero=>exact h.elim
 | succ m=>
  unfold Qa at hs
  split at hs
  ·rename_i fs hu
   cases hs
   simp only[YL,hu]at h
   refine⟨m,rfl,by rw[h.1,hc],?_⟩
   have key : ∀ l:List Field,(∀ f∈l,YL P m f.type ((q.drop f.offset).take (P.cellsOf f.type)))->b3f P m q (l.map fun f=>(f.offset,f.type)):=by
    intro l
    induction l with
    | nil=>intro _;trivial
    | cons f l ih=>intro h;exact⟨h f List.mem_cons_self,ih fun g hg=>h g (List.mem_cons_of_mem _ hg)⟩
   exact key _ h.2
  ·cases hs
theorem a3j{n:Nat}{t:TypeId}{k:IntKind}{q:List PV}(hu:P.underlying t=some (.int k))(h:YL P n t q): ∃ m,q=[.int k m]∧(Lit.int k m).wf=true:=by
 cases n with
 | zero=>exact h.elim
 | succ m=>simpa only[YL,hu]using h
theorem a5w{n:Nat}{t:TypeId}{q:List PV}(hu:P.underlying t=some .string)(h:YL P n t q): ∃ s:List UInt8,q=[.str s]∧s.length<=reachBytes:=by
 cases n with
 | zero=>exact h.elim
 | succ m=>simpa only[YL,hu]using h
theorem NT{n c:Nat}{t e:TypeId}{q:List PV}(hu:P.underlying t=some (.slice e))(hc:P.cellsOf e=c)(h:YL P n t q): ∃ m,n=m+1∧ ∃ qs:List (List PV),q=[.sl c false (qs.map (Kn P e))]∧qs.length*P.bytesOf e<=reachBytes∧qs.length<=maxLen∧ ∀ x∈qs,x.length=c∧YL P m e x:=by
 cases n with
 | zero=>exact h.elim
 | succ m=>
  subst hc
  simp only[YL,hu]at h
  exact⟨m,rfl,h⟩
end
end Go.Pl

namespace Go.Proofs.YtjfgiaooglnomaaGreatDoor
open Go.Pl
open Enc (enc dec is)
open EncL (encL decL isL)
set_option maxRecDepth 100000
theorem Db{H:Type}{P:Program}{t:TypeId}{ts:List TypeId}{d:DataW H}{ds:List (DataW H)}(h:(DataW.weightsEach P (t::ts) (d::ds)).all (· <= reachBytes)=true):wok P t d∧(DataW.weightsEach P ts ds).all (· <= reachBytes)=true:=by
 have e:DataW.weightsEach P (t::ts) (d::ds)=d.weights P t++DataW.weightsEach P ts ds:=by rw[DataW.weightsEach]
 rw[e,List.all_append,Bool.and_eq_true]at h
 exact⟨fun n hn=>of_decide_eq_true (List.all_eq_true.1 h.1 n hn),h.2⟩
theorem a9e:Tryz.prog.underlying 76=some (.slice 9):=by kernel_rfl
theorem b4t:Tryz.prog.cellsOf 76=1:=by kernel_rfl
theorem c7x:Y7 Tryz.prog 9=false:=by kernel_rfl
theorem c3l:Y7 Tryz.prog 78=true:=by kernel_rfl
theorem b2f:Tryz.prog.cellsOf 78=2:=by kernel_rfl
theorem b4s:Qa Tryz.prog 78=some [(0,76),(1,3)]:=by kernel_rfl
theorem b8b{n:Nat}{q:List PV}(h:YL Tryz.prog n 9 q): ∃ s:Str,Kn Tryz.prog 9 q=enc s∧s.s.length<=281474976710656:=by
 obtain⟨s,rfl,hs⟩:=a5w a0c h
 exact⟨⟨s⟩,by rw[Kn,c7x];rfl,Nat.le_trans hs (by decide)⟩
theorem a8j{n:Nat}{q:List PV}(h:YL Tryz.prog n 76 q): ∃ l:List Str,q=[enc l]∧WF l=true:=by
 obtain⟨m,_,qs,rfl,_,hl,hq⟩:=NT a9e a2l h
 obtain⟨l,e,hk⟩:=CJ (α:=Str) (P:=fun s=>s.s.length<=281474976710656) (f:=Kn Tryz.prog 9) fun x hx=>b8b (hq x hx).2
 have hl:qs.length<=9223372036854775807:=hl
 refine⟨l,by rw[e];rfl,?_⟩
 unfold WF
 rw[Bool.and_eq_true]
 exact⟨Z8.2 (by rw[C8 e];exact hl),List.all_eq_true.2 fun s hs=>decide_eq_true (hk s hs)⟩
theorem b6g{n:Nat}{q:List PV}(h:YL Tryz.prog n 78 q): ∃ b:BoxT,Kn Tryz.prog 78 q=enc b∧ZT b=true:=by
 obtain⟨m,_,hl,h0,h1,_⟩:=RG b4s b2f h
 match q,hl with
 | [a,b],_=>
  rw[b4t]at h0
  rw[Nh]at h1
  obtain⟨v,e0,w0⟩:=a8j h0
  obtain⟨k,e1,w1⟩:=a3j RH h1
  simp at e0 e1
  subst e0 e1
  exact⟨⟨v,k⟩,by rw[Kn,c3l];rfl,w0⟩
theorem b5o{n:Nat}{q:List PV}(h:YL Tryz.prog n 52 q): ∃ l:List Fact,Kn Tryz.prog 52 q=enc l∧YQ l=true:=by
 obtain⟨l,e,h1,h2⟩:=EE (Jp _ _ _ h)
 refine⟨l,e,?_⟩
 simp only[YQ,Bool.and_eq_true,decide_eq_true_eq,List.all_eq_true]
 exact⟨h1,h2⟩
theorem a3u{n0 n1 n2:Nat}{q0 q1 q2:List PV}(h0:YL Tryz.prog n0 78 q0)(h1:YL Tryz.prog n1 52 q1)(h2:YL Tryz.prog n2 24 q2):
  preT (fun x:BoxT×List Fact×Lin×Unit=>ZT x.1&&YQ x.2.1&&YC x.2.2.1) [Kn Tryz.prog 78 q0,Kn Tryz.prog 52 q1,Kn Tryz.prog 24 q2]=true:=by
 obtain⟨b,e0,a0⟩:=b6g h0
 obtain⟨fs,e1,a1⟩:=b5o h1
 obtain⟨l,e2,a2⟩:=b4i (Jp _ _ _ h2)
 rw[e0,e1,e2]
 exact Zl (b,fs,l,()) rfl (by show(ZT b&&YQ fs&&YC l)=true;rw[a0,a1,a2];rfl)
end Go.Proofs.YtjfgiaooglnomaaGreatDoor

