/-
  Texts of mine that belong together (packed by pack.py), for every input: Post, PlGl, LaidY, Sh, ShB, OkCe, ShE, OkGa, OkN, OkR, Int10, Irp, VwS, VwT, OkGb, OkGl, OpY, PlGs, OpG.
-/
import Derived.Test.YtjfgiaooglnomaaGreatDoorChecked
import Derived.Test.YtjfgiaooglnomaaGreatDoorRows
import Derived.Test.YtjfgiaooglnomaaGreatDoorKH2
import Derived.Test.YtjfgiaooglnomaaGreatDoorKH3
import Derived.Test.YtjfgiaooglnomaaGreatDoorKH4
import Derived.Test.YtjfgiaooglnomaaGreatDoorKH5
import Derived.Below
import Derived.ChangeSame
import Derived.ChangeShapes
import Derived.ChangeSlices
import Derived.WideShapes
import Derived.RowKit
import Derived.Stop.LaidErr
import Derived.Lib.LaidTab
import Derived.Shelf.Strconv.AtoiAll
import Derived.Shelf.Strconv.Itoa3
import Derived.Shelf.Strings.Prefix
import Derived.Shelf.Sort.Plain
import Derived.Shelf.Small.Strs
import Derived.Shelf.Slices.In.SortNone
import Derived.KernelRfl
import Derived.Shelf.Slices.Clone
import Derived.Shelf.Slices.CompactS
import Derived.BigQuiet
import Derived.Calls
import Derived.Deep.AppendLies
import Derived.Deep.DeepCutAuto
import Derived.Deep.Draws
import Derived.Deep.QuietTactic
import Derived.Deep.RegionHeld3
import Derived.Deep.RegionWith
import Derived.IntWalk
import Derived.Laws.Bits64b
import Derived.Laws.Externs
import Derived.Laws.OwnMore
import Derived.Laws.Rows
import Derived.Lib.Hide
import Derived.Lib.Mul64
import Derived.Outline
import Derived.WalkKit
import Derived.WalkLawsBesides
import Derived.WalkSpells
import Derived.RangeFuncBox
import Derived.RangeFuncLeaves
import Derived.RangeFuncNested
import Derived.RangeFuncCalls
import Derived.Shelf.Abstract
import Derived.OwnWalkIn
import Derived.TacticsInMore
import Derived.LoopNIn
import Derived.LoopIn
import Derived.Maps.AppendAt
import Derived.Sort.LoopGhostIn
set_option linter.unusedVariables false
set_option linter.unusedSimpArgs false
namespace Go.Proofs.YtjfgiaooglnomaaGreatDoor
open Go.RowKit Go.WideShapes Go.ChangeShapes
section
variable {H:Type} {enc:TypeId×Value->H} {P:Program}
theorem Aj{f:Func}{s:ChangeSpec}{apart fresh handsOn again:Bool}{W W':World}{args:Array Value}{v:Value}{ds gs:List (DataW H)}{before pa pv:List MemPlace}
  (hW:DataW.Whole enc P f.params.toList s.vars apart W args.toList ds gs before)
  (hres : ∀ (b:Nat) (sp:Nat->Bool) (hd:Bool),DataW.TrodAll enc P W' b sp hd f.resultTypes.toList (v.resultList f.resultTypes.size) (s.fn H (ds++gs)).results [])
  (hargs : ∀ sp:Nat->Bool,(∀ p∈before,sp p.block=true)->DataW.TrodAll enc P W' 0 sp true f.params.toList args.toList (s.fn H (ds++gs)).args pa)
  (hvars : ∀ sp:Nat->Bool,(∀ p∈before,sp p.block=true)->DataW.TrodVars enc P W' sp s.vars (s.fn H (ds++gs)).vars pv)
  (hps:before=pa++pv) (hb:Below W.heap.size W W')
  (hok : ∀ (j:Nat) (t:TypeId) (r:Value),f.resultTypes[j]? = some t->(v.resultList f.resultTypes.size)[j]? = some r->Value.okWide P W' .any 0 t r) :
  s.post enc P f apart fresh handsOn again W args v W':=by
 have hlt : ∀ p∈before,p.block<W.heap.size:=fun p hp=>hW.lt p hp
 have hold : ∀ p∈before,(fun b=>decide (b<W.heap.size)) p.block=true:=fun p hp=>by simpa using hlt p hp
 refine⟨ds,gs,before,[],pa,pv,hW,hres _ _ _,hargs _ hold,hvars _ hold,World.keptBut_mono (fun p hp=>⟨hp,?_⟩) (hb.frame (· ∈ before)),fun _=> ?_⟩
 ·rw[hps,List.mem_append]at hp
  exact Or.inr hp
 ·obtain⟨_,_,_,_,_,hz,hn⟩:=hW
  refine⟨hok,_,_,([]++pa)++pv,⟨[]++pa,pv,trodAll_append (hargs _ (fun _ _=>rfl)) (hres _ _ _),hvars _ (fun _ _=>rfl),rfl,?_,?_⟩,?_⟩
  ·intro b off hp
   have hin:MemPlace.cell b off∈before:=by rw[hps];simpa using hp
   rw[hb.frozen (hlt _ hin)]
   exact hz b off hin
  ·intro ha
   have:=hn ha
   rw[hps]at this
   simpa using this
  ·intro p hp _
   rw[hps]
   simpa using hp
end
end Go.Proofs.YtjfgiaooglnomaaGreatDoor

namespace Go.Pl
open Go.RowKit Go.WideShapes Go.ChangeShapes
def BU(w:World):ZP:=fun b=>match w.heap[b]? with|some (.cells cs _ _)=>some cs|_=>none
theorem c2a(w:World):YJ (BU w) w:=fun b cs h=>by
 unfold BU at h
 split at h
 ·rename_i c T fz hb
  cases h
  exact⟨T,fz,hb⟩
 ·cases h
def QD(P:Program)(e:TypeId)(ps:List PV):PV:=match YZ P e with|true=>.agg ps|false=>ps.headD .nilp
def Vm(P:Program):Nat->TypeId->List PV->Prop
 | 0,_,_=>False
 | n+1,t,ps=>match P.underlying t with
  | some .bool=> ∃ b,ps=[.bool b]
  | some (.int k)=> ∃ m,ps=[.int k m]∧(Lit.int k m).wf=true
  | some .string=> ∃ s:List UInt8,ps=[.str s]∧s.length<=maxLen
  | some (.slice e)=> ∃ qs:List (List PV),ps=[.sl (P.cellsOf e) false (qs.map (QD P e))]∧qs.length<=maxLen∧ ∀ q∈qs,q.length=P.cellsOf e∧Vm P n e q
  | some (.struct fs)=>ps.length=P.cellsOf t∧ ∀ f∈fs.toList,Vm P n f.type ((ps.drop f.offset).take (P.cellsOf f.type))
  | some (.array m e)=>ps.length=P.cellsOf t∧ ∀ i<m,Vm P n e ((ps.drop (i*P.cellsOf e)).take (P.cellsOf e))
  | _=>False
def Qq(P:Program):Nat->List Field->Nat->Bool
 | o,[],n=>o==n
 | o,f::fs,n=>f.offset==o&&Qq P (o+P.cellsOf f.type) fs n
def TV(P:Program)(S:List TypeId):Bool:=S.all fun t=>match P.underlying t with
 | some .bool|some (.int _)|some .string=>P.cellsOf t==1
 | some (.slice e)=>P.cellsOf t==1&&S.contains e&&decide (0<P.cellsOf e)&&(YZ P e||P.cellsOf e==1)
 | some (.struct fs)=>Qq P 0 fs.toList (P.cellsOf t)&&fs.toList.all fun f=>S.contains f.type
 | some (.array m e)=>S.contains e&&m*P.cellsOf e==P.cellsOf t
 | _=>false
section
variable {H:Type} {enc:TypeId×Value->H} {P:Program} {w:World} {base:Nat} {sp:Nat->Bool} {held:Bool} {S:List TypeId}
theorem Ca{α β:Type}{f:α->Option β}: ∀ {l:List α} {r:List β},l.mapM f=some r->r.length=l.length∧ ∀ (j:Nat) x y,l[j]? = some x->r[j]? = some y->f x=some y:=by
 intro l
 induction l with
 | nil=>intro r h;simp at h;subst h;exact⟨rfl,fun j x y h=>by simp at h⟩
 | cons a l ih=>
  intro r h
  simp only[List.mapM_cons,Option.bind_eq_bind,Option.bind_eq_some_iff]at h
  obtain⟨b,hb,bs,hbs,h⟩:=h
  simp at h
  subst h
  obtain⟨h1,h2⟩:=ih hbs
  refine⟨by simp[h1],fun j x y hx hy=> ?_⟩
  cases j with
  | zero=>cases hx;cases hy;exact hb
  | succ j=>exact h2 j x y hx hy
def Cl(w:World)(cs:List Value)(ps:List PV):Prop:=XI (BU w) cs ps∧YL cs
theorem Cl.one{v:Value}{p:PV}(h:RP (BU w) v p)(h1:v.oneCell'=true):Cl w [v] [p]:=⟨⟨rfl,fun j x q hx hq=>match j with
 | 0=>by cases hx;cases hq;exact h
 | j+1=>by simp at hx⟩,fun v hv=>by simp at hv;subst hv;exact h1⟩
theorem Cl.append{cs ds:List Value}{ps qs:List PV}(h:Cl w cs ps)(k:Cl w ds qs):Cl w (cs++ds) (ps++qs):=by
 refine⟨⟨by simp[h.1.1,k.1.1],fun j v p hv hp=> ?_⟩,fun v hv=> ?_⟩
 ·by_cases hj:j<cs.length
  ·rw[List.getElem?_append_left hj]at hv
   rw[List.getElem?_append_left (by rw[<- h.1.1];exact hj)]at hp
   exact h.1.2 j v p hv hp
  ·rw[List.getElem?_append_right (by omega)]at hv
   rw[List.getElem?_append_right (by rw[<- h.1.1];omega),<- h.1.1]at hp
   exact k.1.2 _ v p hv hp
 ·rcases List.mem_append.1 hv with h'|h'
  ·exact h.2 v h'
  ·exact k.2 v h'
theorem Cl.nil:Cl w [] []:=⟨⟨rfl,fun j v p h=>by simp at h⟩,fun v h=>by simp at h⟩
theorem SY(hS:TV P S=true){t:TypeId}(ht:t∈S):(match P.underlying t with
 | some .bool|some (.int _)|some .string=>P.cellsOf t==1
 | some (.slice e)=>P.cellsOf t==1&&S.contains e&&decide (0<P.cellsOf e)&&(YZ P e||P.cellsOf e==1)
 | some (.struct fs)=>Qq P 0 fs.toList (P.cellsOf t)&&fs.toList.all fun f=>S.contains f.type
 | some (.array m e)=>S.contains e&&m*P.cellsOf e==P.cellsOf t
 | _=>false)=true:=List.all_eq_true.1 hS t ht
theorem a0w{e:TypeId}{q:List PV}(h:YZ P e=true∨P.cellsOf e=1)(hl:q.length=P.cellsOf e)(h1:YZ P e=false-> ∀ p∈q,p.cells=[p]):(QD P e q).cells=q:=by
 unfold QD
 cases ha:YZ P e with
 | true=>rfl
 | false=>
  rcases h with h|h
  ·rw[h]at ha;cases ha
  ·rw[h]at hl
   match q,hl with
   | [p],_=>exact h1 ha p (by simp)
theorem a5t{n:Nat}{e:TypeId}{q:List PV}(h:Vm P n e q)(ha:YZ P e=false): ∀ p∈q,p.cells=[p]:=by
 cases n with
 | zero=>exact h.elim
 | succ n=>
  unfold Vm at h
  unfold YZ at ha
  split at h
  ·obtain⟨b,rfl⟩:=h;intro p hp;simp at hp;subst hp;rfl
  ·obtain⟨m,rfl,_⟩:=h;intro p hp;simp at hp;subst hp;rfl
  ·obtain⟨s,rfl,_⟩:=h;intro p hp;simp at hp;subst hp;rfl
  ·obtain⟨s,rfl,_⟩:=h;intro p hp;simp at hp;subst hp;rfl
  ·rename_i hu;rw[hu]at ha;cases ha
  ·rename_i hu;rw[hu]at ha;cases ha
  ·exact h.elim
theorem NU{α:Type}{R:Nat->α->Prop}: ∀ (n:Nat),(∀ i,i<n-> ∃ q,R i q)-> ∃ qs:List α,qs.length=n∧ ∀ (i:Nat) q,qs[i]? = some q->R i q:=by
 intro n
 induction n with
 | zero=>intro _;exact⟨[],rfl,fun i q h=>by simp at h⟩
 | succ n ih=>
  intro h
  obtain⟨qs,h1,h2⟩:=ih fun i hi=>h i (by omega)
  obtain⟨q,hq⟩:=h n (by omega)
  refine⟨qs++[q],by simp[h1],fun i q' hi=> ?_⟩
  by_cases hlt:i<qs.length
  ·rw[List.getElem?_append_left hlt]at hi;exact h2 i q' hi
  ·rw[List.getElem?_append_right (by omega)]at hi
   have:i=n:=by
    have:=(List.getElem?_eq_some_iff.1 hi).1
    simp at this
    omega
   subst this
   rw[h1,Nat.sub_self]at hi
   cases hi
   exact hq
theorem a2g(a:Addr)(i j:Nat):(a.add i).add j=a.add (i+j):=by
 unfold Addr.add
 by_cases hi:i=0 <;> by_cases hj:j=0 <;> simp[hi,hj,Nat.add_assoc]
theorem a3k{base n:Nat}{a:Addr}{cs:List Value}(h:w.cells? base a n=some cs):cs.length=n∧ ∀ (r:Nat) v,cs[r]? = some v->w.cell? (a.add r)=some v:=by
 unfold World.cells? at h
 split at h
 ·obtain⟨h1,h2⟩:=Ca h
  refine⟨by simpa using h1,fun r v hv=> ?_⟩
  have hr:=(List.getElem?_eq_some_iff.1 hv).1
  have hr2:r<n:=by rw[h1]at hr;simpa using hr
  exact h2 r r v (by simp[hr2]) hv
 ·cases h
theorem Tm{a:Addr}{v:Value}(h:w.cell? a=some v): ∃ b off cs,a=⟨b,off,none⟩∧BU w b=some cs∧cs[off]? = some v:=by
 obtain⟨b,off,spot⟩:=a
 unfold World.cell? at h
 split at h
 ·rename_i c T fz hb
  split at h
  ·cases h
  ·rename_i hs
   have:spot=none:=by cases spot with|none=>rfl|some=>simp at hs
   subst this
   exact⟨b,off,c,rfl,by simp only[BU];rw[hb],h⟩
 ·cases h
def UC(P:Program)(t:TypeId):Option (List (Nat×TypeId)):=match P.underlying t with
 | some (.struct fs)=>some (fs.toList.map fun f=>(f.offset,f.type))
 | _=>none
def c1q(P:Program)(n:Nat)(q:List PV):List (Nat×TypeId)->Prop
 | []=>True
 | (o,t)::r=>Vm P n t ((q.drop o).take (P.cellsOf t))∧c1q P n q r
theorem QK{n c:Nat}{t:TypeId}{q:List PV}{l:List (Nat×TypeId)}(hs:UC P t=some l)(hc:P.cellsOf t=c)(h:Vm P n t q): ∃ m,n=m+1∧q.length=c∧c1q P m q l:=by
 cases n with
 | zero=>exact h.elim
 | succ m=>
  unfold UC at hs
  split at hs
  ·rename_i fs hu
   cases hs
   simp only[Vm,hu]at h
   refine⟨m,rfl,by rw[h.1,hc],?_⟩
   have key : ∀ l:List Field,(∀ f∈l,Vm P m f.type ((q.drop f.offset).take (P.cellsOf f.type)))->c1q P m q (l.map fun f=>(f.offset,f.type)):=by
    intro l
    induction l with
    | nil=>intro _;trivial
    | cons f l ih=>intro h;exact⟨h f List.mem_cons_self,ih fun g hg=>h g (List.mem_cons_of_mem _ hg)⟩
   exact key _ h.2
  ·cases hs
theorem BI{n:Nat}{t:TypeId}{k:IntKind}{q:List PV}(hu:P.underlying t=some (.int k))(h:Vm P n t q): ∃ m,q=[.int k m]∧(Lit.int k m).wf=true:=by
 cases n with
 | zero=>exact h.elim
 | succ m=>simpa only[Vm,hu]using h
theorem a3e{n:Nat}{t:TypeId}{q:List PV}(hu:P.underlying t=some .bool)(h:Vm P n t q): ∃ b,q=[.bool b]:=by
 cases n with
 | zero=>exact h.elim
 | succ m=>simpa only[Vm,hu]using h
theorem a4k{n:Nat}{t:TypeId}{q:List PV}(hu:P.underlying t=some .string)(h:Vm P n t q): ∃ s:List UInt8,q=[.str s]∧s.length<=maxLen:=by
 cases n with
 | zero=>exact h.elim
 | succ m=>simpa only[Vm,hu]using h
theorem Jr{n c:Nat}{t e:TypeId}{q:List PV}(hu:P.underlying t=some (.slice e))(hc:P.cellsOf e=c)(h:Vm P n t q): ∃ m,n=m+1∧ ∃ qs:List (List PV),q=[.sl c false (qs.map (QD P e))]∧qs.length<=maxLen∧ ∀ x∈qs,x.length=c∧Vm P m e x:=by
 cases n with
 | zero=>exact h.elim
 | succ m=>
  subst hc
  simp only[Vm,hu]at h
  exact⟨m,rfl,h⟩
theorem a0l{n:Nat}{t e:TypeId}{q:List PV}(hu:P.underlying t=some (.slice e))(he:P.underlying e=some (.int .i64))(hc:P.cellsOf e=1)(h:Vm P n t q):
  ∃ zs:List Int,q=[.sl 1 false (Fz zs)]∧zs.length<=maxLen∧ ∀ z∈zs,(Lit.int .i64 z).wf=true:=by
 obtain⟨m,_,qs,rfl,hl,hq⟩:=Jr hu hc h
 have ha:YZ P e=false:=by simp[YZ,he]
 have : ∃ zs:List Int,qs=zs.map (fun z=>[.int .i64 z])∧ ∀ z∈zs,(Lit.int .i64 z).wf=true:=by
  clear hl h
  induction qs with
  | nil=>exact⟨[],rfl,fun z hz=>by simp at hz⟩
  | cons x qs ih=>
   obtain⟨zs,h1,h2⟩:=ih fun y hy=>hq y (List.mem_cons_of_mem _ hy)
   obtain⟨z,hz,hw⟩:=BI he (hq x List.mem_cons_self).2
   exact⟨z::zs,by simp[h1,hz],fun y hy=>by rcases List.mem_cons.1 hy with rfl|hy;exact hw;exact h2 y hy⟩
 obtain⟨zs,rfl,hw⟩:=this
 refine⟨zs,?_,by simpa using hl,hw⟩
 simp[Fz,QD,ha]
theorem b6k{Φ:ZP}:XI Φ (#[]:Array Value).toList []:=⟨rfl,fun j v p h=>by simp at h⟩
theorem b9g{Φ:ZP}{v:Value}{vs:List Value}{p:PV}{ps:List PV}(h:RP Φ v p)(k:XI Φ vs ps):XI Φ (v::vs) (p::ps):=
 ⟨by simp[k.1],fun j u q hu hq=>match j with
  | 0=>by cases hu;cases hq;exact h
  | j+1=>k.2 j u q (by simpa using hu) (by simpa using hq)⟩
theorem a1k{f:Nat}{pre:List PV->Bool}{val:List PV->PV}(h:WS P f pre val){ps:List PV}(hp:pre ps=true)(hv:val ps = .bool true){vs:Array Value}(hL:GlobOK (BU w))(hr:XI (BU w) vs.toList ps):
  Calls P f vs w fun e w'=>e = .returned (.bool true)∧Below w.heap.size w w':=by
 refine(h ps hp (BU w) w vs hL (c2a w) hr).mono ?_
 rintro e w' ⟨v,Φ',rfl,_,_,h1,h2,_⟩
 rw[hv]at h1
 cases h1
 exact⟨rfl,h2⟩
end
end Go.Pl

namespace Go.Proofs.YtjfgiaooglnomaaGreatDoor
open Go.Pl Go.RowKit Go.ChangeShapes
set_option maxRecDepth 100000
theorem EA{P:Program}{W:World}{n:String}{g:Nat}{cs:Array Value}(hg:P.globalNamed n=some g)(h:W.var? P n=some cs):BU W g=some cs:=by
 unfold World.var? at h
 rw[hg]at h
 simp only[Option.bind_some]at h
 unfold BU
 exact h
theorem b8k:Tryz.prog.globalNamed "internal/strconv.uint64pow10" = some 1:=by kernel_rfl
theorem c2y:Tryz.prog.globalNamed "strconv.ErrRange" = some 3:=by kernel_rfl
theorem c3y:Tryz.prog.globalNamed "strconv.ErrSyntax" = some 2:=by kernel_rfl
theorem a2m:Tryz.prog.underlying 213=some (.interface ((match Tryz.prog.underlying 213 with|some (.interface ms)=>ms|_=>#[]))):=by kernel_rfl
theorem b8w{W:World}{r:List (String×DataW Unit)}(h:laidMet Tryz.prog (("internal/strconv.uint64pow10",Rows.laid_internal_strconv_uint64pow10)::r) W):BU W 1=some Bw:=by
 have h1:Lib.TabIs Tryz.prog W "internal/strconv.uint64pow10" .u64 ((List.range 20).map fun i=>((10 ^ i:Nat):Int)):=Lib.tabIs_of_head (e:=200) (t:=301) b8k (by kernel_rfl) (n:=20) (by kernel_rfl) (by kernel_rfl) (by kernel_rfl) (by kernel_rfl) h
 exact(EA b8k h1).trans rfl
theorem a4t{W:World}{n:String}{g:Nat}{text:List UInt8}{r:List (String×DataW Unit)}(hg:Tryz.prog.globalNamed n=some g)(ht:(Tryz.prog.globals[g]?).map (·.type)=some 213)(h:laidMet Tryz.prog ((n,.iface "*errors.errorString" (.ptr (.agg [.lit (.string text)])))::r) W): ∃ cs,BU W g=some cs∧CG cs:=by
 obtain⟨ps,⟨g0,t0,cs0,f0,p0,q0,hg0,ht0,hv0,hd0,_,e0⟩,_,hrows⟩:=h
 obtain rfl:=Option.some.inj (hg.symm.trans hg0)
 obtain rfl:=Option.some.inj (ht.symm.trans ht0)
 subst e0
 refine⟨cs0,EA hg hv0,?_⟩
 obtain⟨f1,u,v,e,_⟩:=iface_of_trod a2m hd0
 obtain⟨l0⟩:=cs0
 have e:l0=[.iface u v]:=e
 subst e
 exact⟨_,rfl,.inr ⟨u,v,rfl⟩⟩
theorem b4s{W:World}{x y:String×DataW Unit}{r:List (String×DataW Unit)}(h:laidMet Tryz.prog (x::y::("internal/strconv.uint64pow10",Rows.laid_internal_strconv_uint64pow10)::("strconv.ErrRange",Rows.laid_strconv_ErrRange)::("strconv.ErrSyntax",Rows.laid_strconv_ErrSyntax)::r) W):GlobOK (BU W):=
 ⟨a4t c3y (by kernel_rfl) h.tail.tail.tail.tail,a4t c2y (by kernel_rfl) h.tail.tail.tail,b8w h.tail.tail⟩
noncomputable def c6c:DataW Unit->Value
 | .lit (.int k n)=>.int k n
 | _=>.int .i64 0
noncomputable def Fw:DataW Unit->Array Value
 | .agg ds=>(ds.map c6c).toArray
 | _=>#[]
noncomputable def a9e:DataW Unit->ByteArray
 | .iface _ (.ptr (.agg [.lit (.string bs)]))=>⟨bs.toArray⟩
 | _=>⟨#[]⟩
noncomputable def low:Nat:=(World.holding Tryz.prog default ⟨#[],#[],[]⟩).heap.size
noncomputable def a4h(cs:Array Value):Obj->Obj
 | .cells _ t frozen=>.cells cs t frozen
 | o=>o
noncomputable def Sn(os:Os):World:=
 let w0:=World.holding Tryz.prog os ⟨#[.cells #[.string (a9e Rows.laid_strconv_ErrRange)] 326,.cells #[.string (a9e Rows.laid_strconv_ErrSyntax)] 326],#[],[]⟩
 {w0 with heap:=((((w0.heap.modify 3 (a4h #[.iface 324 (.pointer (some ⟨low,0,none⟩))])).modify 2 (a4h #[.iface 324 (.pointer (some ⟨low+1,0,none⟩))])).modify 1 (a4h (Fw Rows.laid_internal_strconv_uint64pow10))).modify 6 (a4h (Fw Rows.laid_math_bits_deBruijn32tab))).modify 7 (a4h (Fw Rows.laid_math_bits_deBruijn64tab))}
end Go.Proofs.YtjfgiaooglnomaaGreatDoor

namespace Go.Proofs.YtjfgiaooglnomaaGreatDoor
open Go.Shelf
def Tryz.lays172_ren:Go.Shelf.Ren:=⟨fun|172=>182|244=>242|245=>243|247=>278|279=>279|280=>280|281=>281|282=>282|287=>298|316=>299|171=>76|205=>300|321=>308|322=>309|243=>146|246=>214|283=>260|284=>261|285=>262|286=>263|129=>276|317=>287|318=>288|319=>289|320=>290|337=>301|338=>302|n=>n,fun|9=>9|3=>3|75=>213|76=>214|4=>4|5=>5|167=>290|37=>38|0=>0|85=>291|2=>2|168=>293|53=>200|175=>309|46=>171|210=>313|127=>323|145=>326|143=>324|21=>21|171=>273|173=>275|212=>301|51=>288|20=>20|213=>302|232=>327|233=>328|80=>329|n=>n,fun|15=>2|16=>3|17=>1|18=>6|19=>7|n=>n⟩
theorem Tryz.lays172:Go.Proofs.LaysC.n172 Tryz.prog Tryz.lays172_ren:={
 mixed:=by kernel_rfl
 f129:=Tryz.func276.trans (congrArg some (by kernel_rfl))
 f171:=Tryz.func76.trans (congrArg some (by kernel_rfl))
 f172:=Tryz.func182.trans (congrArg some (by kernel_rfl))
 f205:=Tryz.func300.trans (congrArg some (by kernel_rfl))
 f243:=Tryz.func146.trans (congrArg some (by kernel_rfl))
 f244:=Tryz.func242.trans (congrArg some (by kernel_rfl))
 f245:=Tryz.func243.trans (congrArg some (by kernel_rfl))
 f246:=Tryz.func214.trans (congrArg some (by kernel_rfl))
 f247:=Tryz.func278.trans (congrArg some (by kernel_rfl))
 f279:=Tryz.func279.trans (congrArg some (by kernel_rfl))
 f280:=Tryz.func280.trans (congrArg some (by kernel_rfl))
 f281:=Tryz.func281.trans (congrArg some (by kernel_rfl))
 f282:=Tryz.func282.trans (congrArg some (by kernel_rfl))
 f283:=Tryz.func260.trans (congrArg some (by kernel_rfl))
 f284:=Tryz.func261.trans (congrArg some (by kernel_rfl))
 f285:=Tryz.func262.trans (congrArg some (by kernel_rfl))
 f286:=Tryz.func263.trans (congrArg some (by kernel_rfl))
 f287:=Tryz.func298.trans (congrArg some (by kernel_rfl))
 f316:=Tryz.func299.trans (congrArg some (by kernel_rfl))
 f317:=Tryz.func287.trans (congrArg some (by kernel_rfl))
 f318:=Tryz.func288.trans (congrArg some (by kernel_rfl))
 f319:=Tryz.func289.trans (congrArg some (by kernel_rfl))
 f320:=Tryz.func290.trans (congrArg some (by kernel_rfl))
 f321:=Tryz.func308.trans (congrArg some (by kernel_rfl))
 f322:=Tryz.func309.trans (congrArg some (by kernel_rfl))
 f337:=Tryz.func301.trans (congrArg some (by kernel_rfl))
 f338:=Tryz.func302.trans (congrArg some (by kernel_rfl))
 t0:=Tryz.underlying0
 a0:=Tryz.isAgg0
 z0:=Tryz.sizeOf0
 v0:=Tryz.zeroValue0
 t2:=Tryz.underlying2
 a2:=Tryz.isAgg2
 z2:=Tryz.sizeOf2
 v2:=Tryz.zeroValue2
 t3:=Tryz.underlying3
 a3:=Tryz.isAgg3
 z3:=Tryz.sizeOf3
 v3:=Tryz.zeroValue3
 t4:=Tryz.underlying4
 a4:=Tryz.isAgg4
 z4:=Tryz.sizeOf4
 v4:=Tryz.zeroValue4
 t5:=Tryz.underlying5
 a5:=Tryz.isAgg5
 z5:=Tryz.sizeOf5
 v5:=Tryz.zeroValue5
 t9:=Tryz.underlying9
 a9:=Tryz.isAgg9
 z9:=Tryz.sizeOf9
 v9:=Tryz.zeroValue9
 t20:=Tryz.underlying20
 a20:=Tryz.isAgg20
 z20:=Tryz.sizeOf20
 v20:=Tryz.zeroValue20
 t21:=Tryz.underlying21
 a21:=Tryz.isAgg21
 z21:=Tryz.sizeOf21
 v21:=Tryz.zeroValue21
 t37:=Tryz.underlying38
 a37:=Tryz.isAgg38
 z37:=Tryz.sizeOf38
 v37:=Tryz.zeroValue38
 t46:=Tryz.underlying171
 a46:=Tryz.isAgg171
 z46:=Tryz.sizeOf171
 v46:=Tryz.zeroValue171
 t51:=Tryz.underlying288
 a51:=Tryz.isAgg288
 z51:=Tryz.sizeOf288
 v51:=Tryz.zeroValue288
 t53:=Tryz.underlying200
 a53:=Tryz.isAgg200
 z53:=Tryz.sizeOf200
 v53:=Tryz.zeroValue200
 t75:=Tryz.underlying213
 a75:=Tryz.isAgg213
 z75:=Tryz.sizeOf213
 v75:=Tryz.zeroValue213
 t76:=Tryz.underlying214
 a76:=Tryz.isAgg214
 z76:=Tryz.sizeOf214
 v76:=Tryz.zeroValue214
 t85:=Tryz.underlying291
 a85:=Tryz.isAgg291
 z85:=Tryz.sizeOf291
 v85:=Tryz.zeroValue291
 t127:=Tryz.underlying323
 a127:=Tryz.isAgg323
 z127:=Tryz.sizeOf323
 v127:=Tryz.zeroValue323
 t143:=Tryz.underlying324
 a143:=Tryz.isAgg324
 z143:=Tryz.sizeOf324
 v143:=Tryz.zeroValue324
 t145:=Tryz.underlying326
 a145:=Tryz.isAgg326
 z145:=Tryz.sizeOf326
 v145:=Tryz.zeroValue326
 t167:=Tryz.underlying290
 a167:=Tryz.isAgg290
 z167:=Tryz.sizeOf290
 v167:=Tryz.zeroValue290
 t168:=Tryz.underlying293
 a168:=Tryz.isAgg293
 z168:=Tryz.sizeOf293
 v168:=Tryz.zeroValue293
 t171:=Tryz.underlying273
 a171:=Tryz.isAgg273
 z171:=Tryz.sizeOf273
 v171:=Tryz.zeroValue273
 t173:=Tryz.underlying275
 a173:=Tryz.isAgg275
 z173:=Tryz.sizeOf275
 v173:=Tryz.zeroValue275
 t175:=Tryz.underlying309
 a175:=Tryz.isAgg309
 z175:=Tryz.sizeOf309
 v175:=Tryz.zeroValue309
 t210:=Tryz.underlying313
 a210:=Tryz.isAgg313
 z210:=Tryz.sizeOf313
 v210:=Tryz.zeroValue313
 t212:=Tryz.underlying301
 a212:=Tryz.isAgg301
 z212:=Tryz.sizeOf301
 v212:=Tryz.zeroValue301
 t213:=Tryz.underlying302
 a213:=Tryz.isAgg302
 z213:=Tryz.sizeOf302
 t232:=Tryz.underlying327
 a232:=Tryz.isAgg327
 z232:=Tryz.sizeOf327
 v232:=Tryz.zeroValue327
 t233:=Tryz.underlying328
 a233:=Tryz.isAgg328
 z233:=Tryz.sizeOf328
 v233:=Tryz.zeroValue328
 g15:=by kernel_rfl
 g16:=by kernel_rfl
 g17:=by kernel_rfl
 g18:=by kernel_rfl
 g19:=by kernel_rfl
 t80:=Tryz.underlying329
 a80:=Tryz.isAgg329
 z80:=Tryz.sizeOf329
 v80:=Tryz.zeroValue329
 i0:=by kernel_rfl
 i2:=by kernel_rfl
 i3:=by kernel_rfl
 i4:=by kernel_rfl
 i5:=by kernel_rfl
 i9:=by kernel_rfl
 i20:=by kernel_rfl
 i21:=by kernel_rfl
 i37:=by kernel_rfl
 i46:=by kernel_rfl
 i51:=by kernel_rfl
 i53:=by kernel_rfl
 i75:=by kernel_rfl
 i76:=by kernel_rfl
 i80:=by kernel_rfl
 i85:=by kernel_rfl
 i127:=by kernel_rfl
 i143:=by kernel_rfl
 i145:=by kernel_rfl
 i167:=by kernel_rfl
 i168:=by kernel_rfl
 i171:=by kernel_rfl
 i173:=by kernel_rfl
 i175:=by kernel_rfl
 i210:=by kernel_rfl
 i212:=by kernel_rfl
 i232:=by kernel_rfl
 i233:=by kernel_rfl
 m15:=by kernel_rfl
 m16:=by kernel_rfl
 m17:=by kernel_rfl
 m18:=by kernel_rfl
 m19:=by kernel_rfl
 c0:=by kernel_rfl
 c2:=by kernel_rfl
 c3:=by kernel_rfl
 c4:=by kernel_rfl
 c5:=by kernel_rfl
 c9:=by kernel_rfl
 c20:=by kernel_rfl
 c21:=by kernel_rfl
 c37:=by kernel_rfl
 c46:=by kernel_rfl
 c51:=by kernel_rfl
 c53:=by kernel_rfl
 c75:=by kernel_rfl
 c76:=by kernel_rfl
 c80:=by kernel_rfl
 c85:=by kernel_rfl
 c127:=by kernel_rfl
 c143:=by kernel_rfl
 c145:=by kernel_rfl
 c167:=by kernel_rfl
 c168:=by kernel_rfl
 c171:=by kernel_rfl
 c173:=by kernel_rfl
 c175:=by kernel_rfl
 c210:=by kernel_rfl
 c212:=by kernel_rfl
 c213:=by kernel_rfl
 c232:=by kernel_rfl
 c233:=by kernel_rfl}
def Tryz.lays171_ren:Go.Shelf.Ren:=⟨fun|171=>76|243=>146|246=>214|283=>260|284=>261|285=>262|286=>263|129=>276|317=>287|318=>288|319=>289|320=>290|337=>301|338=>302|n=>n,fun|3=>3|9=>9|2=>2|4=>4|171=>273|0=>0|53=>200|37=>38|5=>5|173=>275|212=>301|51=>288|20=>20|213=>302|46=>171|232=>327|233=>328|n=>n,fun|17=>1|18=>6|19=>7|n=>n⟩
theorem Tryz.lays171:Go.Proofs.LaysM.n171 Tryz.prog Tryz.lays171_ren:={
 mixed:=by kernel_rfl
 f129:=Tryz.func276.trans (congrArg some (by kernel_rfl))
 f171:=Tryz.func76.trans (congrArg some (by kernel_rfl))
 f243:=Tryz.func146.trans (congrArg some (by kernel_rfl))
 f246:=Tryz.func214.trans (congrArg some (by kernel_rfl))
 f283:=Tryz.func260.trans (congrArg some (by kernel_rfl))
 f284:=Tryz.func261.trans (congrArg some (by kernel_rfl))
 f285:=Tryz.func262.trans (congrArg some (by kernel_rfl))
 f286:=Tryz.func263.trans (congrArg some (by kernel_rfl))
 f317:=Tryz.func287.trans (congrArg some (by kernel_rfl))
 f318:=Tryz.func288.trans (congrArg some (by kernel_rfl))
 f319:=Tryz.func289.trans (congrArg some (by kernel_rfl))
 f320:=Tryz.func290.trans (congrArg some (by kernel_rfl))
 f337:=Tryz.func301.trans (congrArg some (by kernel_rfl))
 f338:=Tryz.func302.trans (congrArg some (by kernel_rfl))
 t0:=Tryz.underlying0
 a0:=Tryz.isAgg0
 z0:=Tryz.sizeOf0
 v0:=Tryz.zeroValue0
 t2:=Tryz.underlying2
 a2:=Tryz.isAgg2
 z2:=Tryz.sizeOf2
 v2:=Tryz.zeroValue2
 t3:=Tryz.underlying3
 a3:=Tryz.isAgg3
 z3:=Tryz.sizeOf3
 v3:=Tryz.zeroValue3
 t4:=Tryz.underlying4
 a4:=Tryz.isAgg4
 z4:=Tryz.sizeOf4
 v4:=Tryz.zeroValue4
 t5:=Tryz.underlying5
 a5:=Tryz.isAgg5
 z5:=Tryz.sizeOf5
 v5:=Tryz.zeroValue5
 t9:=Tryz.underlying9
 a9:=Tryz.isAgg9
 z9:=Tryz.sizeOf9
 v9:=Tryz.zeroValue9
 t20:=Tryz.underlying20
 a20:=Tryz.isAgg20
 z20:=Tryz.sizeOf20
 v20:=Tryz.zeroValue20
 t37:=Tryz.underlying38
 a37:=Tryz.isAgg38
 z37:=Tryz.sizeOf38
 v37:=Tryz.zeroValue38
 t46:=Tryz.underlying171
 a46:=Tryz.isAgg171
 z46:=Tryz.sizeOf171
 v46:=Tryz.zeroValue171
 t51:=Tryz.underlying288
 a51:=Tryz.isAgg288
 z51:=Tryz.sizeOf288
 v51:=Tryz.zeroValue288
 t53:=Tryz.underlying200
 a53:=Tryz.isAgg200
 z53:=Tryz.sizeOf200
 v53:=Tryz.zeroValue200
 t171:=Tryz.underlying273
 a171:=Tryz.isAgg273
 z171:=Tryz.sizeOf273
 v171:=Tryz.zeroValue273
 t173:=Tryz.underlying275
 a173:=Tryz.isAgg275
 z173:=Tryz.sizeOf275
 v173:=Tryz.zeroValue275
 t212:=Tryz.underlying301
 a212:=Tryz.isAgg301
 z212:=Tryz.sizeOf301
 v212:=Tryz.zeroValue301
 t213:=Tryz.underlying302
 a213:=Tryz.isAgg302
 z213:=Tryz.sizeOf302
 t232:=Tryz.underlying327
 a232:=Tryz.isAgg327
 z232:=Tryz.sizeOf327
 v232:=Tryz.zeroValue327
 t233:=Tryz.underlying328
 a233:=Tryz.isAgg328
 z233:=Tryz.sizeOf328
 v233:=Tryz.zeroValue328
 g17:=by kernel_rfl
 g18:=by kernel_rfl
 g19:=by kernel_rfl
 i0:=by kernel_rfl
 i2:=by kernel_rfl
 i3:=by kernel_rfl
 i4:=by kernel_rfl
 i5:=by kernel_rfl
 i9:=by kernel_rfl
 i20:=by kernel_rfl
 i37:=by kernel_rfl
 i46:=by kernel_rfl
 i51:=by kernel_rfl
 i53:=by kernel_rfl
 i171:=by kernel_rfl
 i173:=by kernel_rfl
 i212:=by kernel_rfl
 i232:=by kernel_rfl
 i233:=by kernel_rfl
 m17:=by kernel_rfl
 m18:=by kernel_rfl
 m19:=by kernel_rfl}
def Tryz.lays99_ren:Go.Shelf.Ren:=⟨fun|99=>152|206=>221|n=>n,fun|9=>9|4=>4|3=>3|n=>n,fun|n=>n⟩
theorem Tryz.lays99:Go.Proofs.Lays.n99 Tryz.prog Tryz.lays99_ren:={
 mixed:=by kernel_rfl
 f99:=Tryz.func152.trans (congrArg some (by kernel_rfl))
 f206:=Tryz.func221.trans (congrArg some (by kernel_rfl))
 t3:=Tryz.underlying3
 a3:=Tryz.isAgg3
 z3:=Tryz.sizeOf3
 v3:=Tryz.zeroValue3
 t4:=Tryz.underlying4
 a4:=Tryz.isAgg4
 z4:=Tryz.sizeOf4
 v4:=Tryz.zeroValue4
 t9:=Tryz.underlying9
 a9:=Tryz.isAgg9
 z9:=Tryz.sizeOf9
 v9:=Tryz.zeroValue9}
def Tryz.lays190_ren:Go.Shelf.Ren:=⟨fun|190=>154|125=>223|258=>222|128=>275|129=>276|302=>267|303=>268|304=>269|305=>270|306=>271|307=>272|308=>244|309=>273|310=>274|333=>293|329=>294|330=>295|334=>296|335=>297|336=>283|344=>307|n=>n,fun|31=>76|9=>9|3=>3|46=>171|0=>0|51=>288|53=>200|4=>4|183=>282|182=>281|131=>129|5=>5|218=>304|222=>148|228=>321|229=>247|n=>n,fun|n=>n⟩
theorem Tryz.lays190:Go.Proofs.Lays.n190 Tryz.prog Tryz.lays190_ren:={
 mixed:=by kernel_rfl
 f125:=Tryz.func223.trans (congrArg some (by kernel_rfl))
 f128:=Tryz.func275.trans (congrArg some (by kernel_rfl))
 f129:=Tryz.func276.trans (congrArg some (by kernel_rfl))
 f190:=Tryz.func154.trans (congrArg some (by kernel_rfl))
 f258:=Tryz.func222.trans (congrArg some (by kernel_rfl))
 f302:=Tryz.func267.trans (congrArg some (by kernel_rfl))
 f303:=Tryz.func268.trans (congrArg some (by kernel_rfl))
 f304:=Tryz.func269.trans (congrArg some (by kernel_rfl))
 f305:=Tryz.func270.trans (congrArg some (by kernel_rfl))
 f306:=Tryz.func271.trans (congrArg some (by kernel_rfl))
 f307:=Tryz.func272.trans (congrArg some (by kernel_rfl))
 f308:=Tryz.func244.trans (congrArg some (by kernel_rfl))
 f309:=Tryz.func273.trans (congrArg some (by kernel_rfl))
 f310:=Tryz.func274.trans (congrArg some (by kernel_rfl))
 f329:=Tryz.func294.trans (congrArg some (by kernel_rfl))
 f330:=Tryz.func295.trans (congrArg some (by kernel_rfl))
 f333:=Tryz.func293.trans (congrArg some (by kernel_rfl))
 f334:=Tryz.func296.trans (congrArg some (by kernel_rfl))
 f335:=Tryz.func297.trans (congrArg some (by kernel_rfl))
 f336:=Tryz.func283.trans (congrArg some (by kernel_rfl))
 f344:=Tryz.func307.trans (congrArg some (by kernel_rfl))
 t0:=Tryz.underlying0
 a0:=Tryz.isAgg0
 z0:=Tryz.sizeOf0
 v0:=Tryz.zeroValue0
 t3:=Tryz.underlying3
 a3:=Tryz.isAgg3
 z3:=Tryz.sizeOf3
 v3:=Tryz.zeroValue3
 t4:=Tryz.underlying4
 a4:=Tryz.isAgg4
 z4:=Tryz.sizeOf4
 v4:=Tryz.zeroValue4
 t5:=Tryz.underlying5
 a5:=Tryz.isAgg5
 z5:=Tryz.sizeOf5
 v5:=Tryz.zeroValue5
 t9:=Tryz.underlying9
 a9:=Tryz.isAgg9
 z9:=Tryz.sizeOf9
 v9:=Tryz.zeroValue9
 t31:=Tryz.underlying76
 a31:=Tryz.isAgg76
 z31:=Tryz.sizeOf76
 v31:=Tryz.zeroValue76
 t46:=Tryz.underlying171
 a46:=Tryz.isAgg171
 z46:=Tryz.sizeOf171
 v46:=Tryz.zeroValue171
 t51:=Tryz.underlying288
 a51:=Tryz.isAgg288
 z51:=Tryz.sizeOf288
 v51:=Tryz.zeroValue288
 t53:=Tryz.underlying200
 a53:=Tryz.isAgg200
 z53:=Tryz.sizeOf200
 v53:=Tryz.zeroValue200
 t131:=Tryz.underlying129
 a131:=Tryz.isAgg129
 z131:=Tryz.sizeOf129
 v131:=Tryz.zeroValue129
 t182:=Tryz.underlying281
 a182:=Tryz.isAgg281
 z182:=Tryz.sizeOf281
 v182:=Tryz.zeroValue281
 t183:=Tryz.underlying282
 a183:=Tryz.isAgg282
 z183:=Tryz.sizeOf282
 v183:=Tryz.zeroValue282
 t218:=Tryz.underlying304
 a218:=Tryz.isAgg304
 z218:=Tryz.sizeOf304
 v218:=Tryz.zeroValue304
 t222:=Tryz.underlying148
 a222:=Tryz.isAgg148
 z222:=Tryz.sizeOf148
 v222:=Tryz.zeroValue148
 t228:=Tryz.underlying321
 a228:=Tryz.isAgg321
 z228:=Tryz.sizeOf321
 v228:=Tryz.zeroValue321
 t229:=Tryz.underlying247
 a229:=Tryz.isAgg247
 z229:=Tryz.sizeOf247
 v229:=Tryz.zeroValue247}
end Go.Proofs.YtjfgiaooglnomaaGreatDoor

namespace Go.Proofs.YtjfgiaooglnomaaGreatDoor
open Go.Pl Go.RowKit
open Enc (enc dec is)
open EncL (encL decL isL)
set_option maxRecDepth 100000
theorem KL:Zq Tryz.prog 152 (fun _:Str×Str×Unit=>true) (fun x:Str×Str×Unit=>x.2.1.s.isPrefixOf x.1.s):=Xd (by
  rintro⟨⟨s⟩,⟨p⟩,⟨⟩⟩ hps Φ w vs hL hΦ hv
  obtain⟨u,v,rfl,h1,h2⟩:=c2m hv
  rw[Ty h1,Ty h2]
  refine(Any.strings_HasPrefix Tryz.lays99 ⟨s.toArray⟩ ⟨p.toArray⟩ w).mono ?_
  rintro e w' ⟨rfl,rfl⟩
  exact⟨_,rfl,.bool _,.refl _ _⟩)
theorem a9b:Zq Tryz.prog 182 (fun x:Str×Unit=>decide (x.1.s.length<=1000000)) (fun x:Str×Unit=>Yo x.1):=Xd (by
  rintro⟨⟨s⟩,⟨⟩⟩ hps Φ w vs hL hΦ hv
  have hs:s.length<=1000000:=by simpa using hps
  obtain⟨v,rfl,h1⟩:=b3e hv
  rw[Ty h1]
  have hsz:(⟨s.toArray⟩:ByteArray).size=s.length:=rfl
  cases h:Lib.atoiAll s
  ·rename_i n
   have e1:Yo ⟨s⟩=(n,⟨false⟩):=by simp only[Yo,h]
   rw[e1]
   refine(Any.strconv_Atoi_ok Tryz.lays172 ⟨s.toArray⟩ (by rw[hsz];omega) n h w).mono ?_
   rintro e w' ⟨rfl,hw⟩
   refine⟨_,rfl,.tup _ _ rfl ?_,?_⟩
   ·intro j v x hv hx
    match j with
    | 0=>cases hv;cases hx;exact .int _ _
    | 1=>cases hv;cases hx;exact .nili
    | j+2=>simp at hv
   ·rcases hw with rfl|⟨t,rfl⟩
    ·exact .refl _ _
    ·exact Gv _ _ 0 _
  ·skip
   have e1:Yo ⟨s⟩=(0,⟨true⟩):=by simp only[Yo,h]
   rw[e1]
   obtain⟨cs,hc,ev,he,hev⟩:=hL.syn
   refine(Any.strconv_Atoi_syntax Tryz.lays172 ⟨s.toArray⟩ (by rw[hsz];omega) h ev w (KC hΦ hc he) hev).mono ?_
   rintro e w' ⟨N,rfl,_,_,hb⟩
   refine⟨_,rfl,.tup _ _ rfl ?_,hb⟩
   intro j v x hv hx
   match j with
   | 0=>cases hv;cases hx;exact .int _ _
   | 1=>cases hv;cases hx;exact .ifc _ _
   | j+2=>simp at hv
  ·skip
   have e1:Yo ⟨s⟩=(Lib.atoiSat s,⟨true⟩):=by simp only[Yo,h]
   rw[e1]
   obtain⟨cs,hc,ev,he,hev⟩:=hL.rng
   refine(Any.strconv_Atoi_range Tryz.lays172 ⟨s.toArray⟩ (by rw[hsz];omega) h ev w (KC hΦ hc he) hev).mono ?_
   rintro e w' ⟨N,rfl,_,_,hb⟩
   refine⟨_,rfl,.tup _ _ rfl ?_,hb⟩
   intro j v x hv hx
   match j with
   | 0=>cases hv;cases hx;exact .int _ _
   | 1=>cases hv;cases hx;exact .ifc _ _
   | j+2=>simp at hv)
theorem Ni:Zq Tryz.prog 76 (fun x:Int×Unit=>decide (-9223372036854775808<=x.1)&&decide (x.1<=9223372036854775807)) (fun x:Int×Unit=>Ng x.1):=Xd (by
  rintro⟨n,⟨⟩⟩ hps Φ w vs hL hΦ hv
  obtain⟨v,rfl,h1⟩:=b3e hv
  have h1:RP Φ v (.int .i64 n):=h1
  rw[DL h1]
  have hn : -9223372036854775808<=n∧n<=9223372036854775807:=by simpa using hps
  have hg:=hL.pow
  obtain⟨T,fz,hh⟩:=hΦ _ _ hg
  refine(Any.strconv_Itoa Tryz.lays171 n hn.1 hn.2 w ?_).mono ?_
  ·unfold Lib.TabIs World.var?
   rw[show Program.globalNamed Tryz.prog "internal/strconv.uint64pow10" = some 1 by kernel_rfl]
   simp only[Option.bind_some,hh]
   rfl
  ·rintro e w' ⟨rfl,k,os,rfl⟩
   refine⟨_,rfl,.str _,?_⟩
   exact⟨rfl,rfl,rfl,by show w.heap.size<=(w.heap++os).size;simp,fun j hj=>by show(w.heap++os)[j]? = _;rw[Array.getElem?_append_left hj]⟩)
end Go.Proofs.YtjfgiaooglnomaaGreatDoor

namespace Go.Proofs.YtjfgiaooglnomaaGreatDoor
open Go.Pl
open Enc (enc dec is)
open EncL (encL decL isL)
set_option maxRecDepth 100000
theorem ZT:Tryz.prog.follows .mixedOrders=true:=by kernel_rfl
theorem Nj:Z6 Tryz.prog 154 Xx U8:=a2l (Any.slices_Sort_string Tryz.lays190) (Any.slices_Sort_string_none Tryz.lays190)
theorem TQ:Zq Tryz.prog 155 (fun _:UInt8×Unit=>true) (fun x:UInt8×Unit=>XQ x.1):=Zq.of (T:=M7) (ic:=Tv) (rs:=Rj) Zk ZT Tryz.func155 (by kernel_rfl) (by kernel_rfl) (by kernel_rfl) b0s
theorem Am:Zq Tryz.prog 156 (fun _:UInt8×Unit=>true) (fun x:UInt8×Unit=>Wi x.1):=Zq.of (T:=Ls) (ic:=RA) (rs:=Tq) Zk ZT Tryz.func156 (by kernel_rfl) (by kernel_rfl) (by kernel_rfl) a5y
theorem Tw:Zq Tryz.prog 83 (fun _:Int×Unit=>true) (fun x:Int×Unit=>Yy x.1):=Zq.of (T:=BG) (ic:=Kg) (rs:=Gn) Zk ZT Tryz.func83 (by kernel_rfl) (by kernel_rfl) (by kernel_rfl) FL
theorem Gr:Zq Tryz.prog 84 (fun _:Str×Unit=>true) (fun x:Str×Unit=>ZA x.1):=Zq.of (T:=Ws) (ic:=Xt) (rs:=Xw) (Zb (Yz Tryz.func155 (by kernel_rfl) TQ) (Zb (Yz Tryz.func156 (by kernel_rfl) Am) Zk)) ZT Tryz.func84 (by kernel_rfl) (by kernel_rfl) (by kernel_rfl) a1o
theorem TD:Zq Tryz.prog 20 (fun x:Lin×Unit=>YW x.1) (fun x:Lin×Unit=>Zw x.1):=Zq.of (T:=WR) (ic:=XP) (rs:=XN) (Zb (Yz Tryz.func83 (by kernel_rfl) Tw) (Zb (Yz Tryz.func84 (by kernel_rfl) Gr) Zk)) ZT Tryz.func20 (by kernel_rfl) (by kernel_rfl) (by kernel_rfl) MX
theorem LX:Zq Tryz.prog 16 (fun x:Lin×Int×Unit=>YW x.1) (fun x:Lin×Int×Unit=>J6 x.1 x.2.1):=Zq.of (T:=KT) (ic:=Qk) (rs:=Ql) Zk ZT Tryz.func16 (by kernel_rfl) (by kernel_rfl) (by kernel_rfl) a5o
theorem M6:Zq Tryz.prog 31 (fun x:List Fact×Int×Unit=>YM x.1) (fun x:List Fact×Int×Unit=>G5 x.1 x.2.1):=Zq.of (T:=Qr) (ic:=V9) (rs:=Un) (Zb (Yz Tryz.func16 (by kernel_rfl) LX) Zk) ZT Tryz.func31 (by kernel_rfl) (by kernel_rfl) (by kernel_rfl) EW
theorem a0z:Zq Tryz.prog 91 (fun _:Int×Unit=>true) (fun x:Int×Unit=>(⟨x.1,[]⟩:Lin)):=Zq.of (T:=a4e) (ic:=Lm) (rs:=LU) Zk ZT Tryz.func91 (by kernel_rfl) (by kernel_rfl) (by kernel_rfl) b6b
theorem a5z:Z6 Tryz.prog 89 Ka Kj:=WO (T:=ZX) (ic:=ZI) (rs:=ZH) Zk ZT Tryz.func89 (by kernel_rfl) (by kernel_rfl) (by kernel_rfl) a1v
theorem PP:Zq Tryz.prog 89 (fun x:Lin×Str×Int×Unit=>decide (x.1.t.length<=1000000)) (fun x:Lin×Str×Int×Unit=>Q7 x.1 x.2.1 x.2.2.1):=a2y a5z
theorem a2r:Zq Tryz.prog 144 (fun _:Int×Unit=>true) (fun x:Int×Unit=>Yy x.1):=Zq.of (T:=a7l) (ic:=Fg) (rs:=FW) Zk ZT Tryz.func144 (by kernel_rfl) (by kernel_rfl) (by kernel_rfl) b4n
theorem P7:Zq Tryz.prog 119 (fun x:Str×Unit=>decide (x.1.s.length<=1000000)) (fun x:Str×Unit=>ZA x.1):=Zq.of (T:=Wq) (ic:=Xj) (rs:=Xv) (Zb (Yz Tryz.func152 (by kernel_rfl) KL) (Zb (Yz Tryz.func182 (by kernel_rfl) a9b) (Zb (Yz Tryz.func76 (by kernel_rfl) Ni) Zk))) ZT Tryz.func119 (by kernel_rfl) (by kernel_rfl) (by kernel_rfl) a3x
theorem VU:Zq Tryz.prog 73 (fun x:Lin×Unit=>Ym x.1) (fun x:Lin×Unit=>Zw x.1):=Zq.of (T:=WI) (ic:=XZ) (rs:=XW) (Zb (Yz Tryz.func144 (by kernel_rfl) a2r) (Zb (Yz Tryz.func119 (by kernel_rfl) P7) Zk)) ZT Tryz.func73 (by kernel_rfl) (by kernel_rfl) (by kernel_rfl) Oq
theorem b6i:Zq Tryz.prog 162 (fun x:Fact×Unit=>Ym x.1.l) (fun x:Fact×Unit=> !(Zw x.1.l)):=Zq.of (T:=a8y) (ic:=LY) (rs:=L9) (Zb (Yz Tryz.func73 (by kernel_rfl) VU) Zk) ZT Tryz.func162 (by kernel_rfl) (by kernel_rfl) (by kernel_rfl) b4v
theorem b9h:Zq Tryz.prog 227 (fun x:List Fact×FnV 162×Unit=>Zm x.1) (fun x:List Fact×FnV 162×Unit=>Zx (fun f:Fact=> !(Zw f.l)) x.1):=Zq.of (T:=CZ) (ic:=QN) (rs:=K3) (Zb (Yz Tryz.func162 (by kernel_rfl) b6i) Zk) ZT Tryz.func227 (by kernel_rfl) (by kernel_rfl) (by kernel_rfl) b5w
theorem c0x:Zq Tryz.prog 161 (fun x:List Fact×FnV 162×Unit=>Zm x.1) (fun x:List Fact×FnV 162×Unit=>x.1.any fun f:Fact=> !(Zw f.l)):=Zq.of (T:=a7a) (ic:=TB) (rs:=Lh) (Zb (Yz Tryz.func227 (by kernel_rfl) b9h) Zk) ZT Tryz.func161 (by kernel_rfl) (by kernel_rfl) (by kernel_rfl) b4a
theorem JS:Zq Tryz.prog 95 (fun x:List Fact×Unit=>Zm x.1) (fun x:List Fact×Unit=>XA x.1):=Zq.of (T:=CS) (ic:=Hf) (rs:=Ht) (Zb (Yz Tryz.func161 (by kernel_rfl) c0x) Zk) ZT Tryz.func95 (by kernel_rfl) (by kernel_rfl) (by kernel_rfl) FO
end Go.Proofs.YtjfgiaooglnomaaGreatDoor

namespace Go.Proofs.YtjfgiaooglnomaaGreatDoor
open Go.Shelf
def Tryz.laysC15_ren:Go.Shelf.Ren:=⟨fun|15=>104|n=>n,fun|22=>34|3=>3|4=>4|n=>n,fun|n=>n⟩
theorem Tryz.laysC15:Go.Proofs.Lays2.n15 Tryz.prog Tryz.laysC15_ren:={
 mixed:=by kernel_rfl
 f15:=Tryz.func104.trans (congrArg some (by kernel_rfl))
 t3:=Tryz.underlying3
 a3:=Tryz.isAgg3
 z3:=Tryz.sizeOf3
 v3:=Tryz.zeroValue3
 t4:=Tryz.underlying4
 a4:=Tryz.isAgg4
 z4:=Tryz.sizeOf4
 v4:=Tryz.zeroValue4
 t22:=Tryz.underlying34
 a22:=Tryz.isAgg34
 z22:=Tryz.sizeOf34
 v22:=Tryz.zeroValue34
 i3:=by kernel_rfl}
def Tryz.lays194_ren:Go.Shelf.Ren:=⟨fun|194=>187|n=>n,fun|31=>76|9=>9|3=>3|4=>4|0=>0|n=>n,fun|n=>n⟩
theorem Tryz.lays194:Go.Proofs.Lays.n194 Tryz.prog Tryz.lays194_ren:={
 mixed:=by kernel_rfl
 f194:=Tryz.func187.trans (congrArg some (by kernel_rfl))
 t0:=Tryz.underlying0
 a0:=Tryz.isAgg0
 z0:=Tryz.sizeOf0
 v0:=Tryz.zeroValue0
 t3:=Tryz.underlying3
 a3:=Tryz.isAgg3
 z3:=Tryz.sizeOf3
 v3:=Tryz.zeroValue3
 t4:=Tryz.underlying4
 a4:=Tryz.isAgg4
 z4:=Tryz.sizeOf4
 v4:=Tryz.zeroValue4
 t9:=Tryz.underlying9
 a9:=Tryz.isAgg9
 z9:=Tryz.sizeOf9
 v9:=Tryz.zeroValue9
 t31:=Tryz.underlying76
 a31:=Tryz.isAgg76
 z31:=Tryz.sizeOf76
 v31:=Tryz.zeroValue76}
end Go.Proofs.YtjfgiaooglnomaaGreatDoor

namespace Go.Proofs.YtjfgiaooglnomaaGreatDoor
open Go.Pl
open Enc (enc dec is)
open EncL (encL decL isL)
set_option maxRecDepth 100000
theorem a0c:Zq Tryz.prog 182 (fun x:Str×Unit=>decide (x.1.s.length<=281474976710656)) (fun x:Str×Unit=>Yo x.1):=Xd (by
  rintro⟨⟨s⟩,⟨⟩⟩ hps Φ w vs hL hΦ hv
  have hs:s.length<=281474976710656:=by simpa using hps
  obtain⟨v,rfl,h1⟩:=b3e hv
  rw[Ty h1]
  have hsz:(⟨s.toArray⟩:ByteArray).size=s.length:=rfl
  cases h:Lib.atoiAll s
  ·rename_i n
   have e1:Yo ⟨s⟩=(n,⟨false⟩):=by simp only[Yo,h]
   rw[e1]
   refine(Any.strconv_Atoi_ok Tryz.lays172 ⟨s.toArray⟩ (by rw[hsz];omega) n h w).mono ?_
   rintro e w' ⟨rfl,hw⟩
   refine⟨_,rfl,.tup _ _ rfl ?_,?_⟩
   ·intro j v x hv hx
    match j with
    | 0=>cases hv;cases hx;exact .int _ _
    | 1=>cases hv;cases hx;exact .nili
    | j+2=>simp at hv
   ·rcases hw with rfl|⟨t,rfl⟩
    ·exact .refl _ _
    ·exact Gv _ _ 0 _
  ·skip
   have e1:Yo ⟨s⟩=(0,⟨true⟩):=by simp only[Yo,h]
   rw[e1]
   obtain⟨cs,hc,ev,he,hev⟩:=hL.syn
   refine(Any.strconv_Atoi_syntax Tryz.lays172 ⟨s.toArray⟩ (by rw[hsz];omega) h ev w (KC hΦ hc he) hev).mono ?_
   rintro e w' ⟨N,rfl,_,_,hb⟩
   refine⟨_,rfl,.tup _ _ rfl ?_,hb⟩
   intro j v x hv hx
   match j with
   | 0=>cases hv;cases hx;exact .int _ _
   | 1=>cases hv;cases hx;exact .ifc _ _
   | j+2=>simp at hv
  ·skip
   have e1:Yo ⟨s⟩=(Lib.atoiSat s,⟨true⟩):=by simp only[Yo,h]
   rw[e1]
   obtain⟨cs,hc,ev,he,hev⟩:=hL.rng
   refine(Any.strconv_Atoi_range Tryz.lays172 ⟨s.toArray⟩ (by rw[hsz];omega) h ev w (KC hΦ hc he) hev).mono ?_
   rintro e w' ⟨N,rfl,_,_,hb⟩
   refine⟨_,rfl,.tup _ _ rfl ?_,hb⟩
   intro j v x hv hx
   match j with
   | 0=>cases hv;cases hx;exact .int _ _
   | 1=>cases hv;cases hx;exact .ifc _ _
   | j+2=>simp at hv)
theorem Gt:Zq Tryz.prog 119 (fun x:Str×Unit=>decide (x.1.s.length<=281474976710656)) (fun x:Str×Unit=>ZA x.1):=Zq.of (T:=Xr) (ic:=Y3) (rs:=Y2) (Zb (Yz Tryz.func152 (by kernel_rfl) KL) (Zb (Yz Tryz.func182 (by kernel_rfl) a0c) (Zb (Yz Tryz.func76 (by kernel_rfl) Ni) Zk))) ZT Tryz.func119 (by kernel_rfl) (by kernel_rfl) (by kernel_rfl) Lv
theorem a3u:Zq Tryz.prog 183 (fun x:List Str×Str×Unit=>Zt x.1) (fun x:List Str×Str×Unit=>Zx (fun s:Str=>decide (s=x.2.1)) x.1):=Zq.of (T:=V7) (ic:=Vj) (rs:=Vt) Zk ZT Tryz.func183 (by kernel_rfl) (by kernel_rfl) (by kernel_rfl) M4
theorem JE:Zq Tryz.prog 120 (fun x:List Str×Str×Unit=>Zt x.1) (fun x:List Str×Str×Unit=>x.1.contains x.2.1):=Zq.of (T:=RU) (ic:=CR) (rs:=Cz) (Zb (Yz Tryz.func183 (by kernel_rfl) a3u) Zk) ZT Tryz.func120 (by kernel_rfl) (by kernel_rfl) (by kernel_rfl) a0a
theorem Q0:Zq Tryz.prog 50 (fun x:BoxT×Unit=>ZW x.1) (fun x:BoxT×Unit=>Xh x.1):=Zq.of (T:=V8) (ic:=Vs) (rs:=Vh) (Zb (Yz Tryz.func119 (by kernel_rfl) Gt) (Zb (Yz Tryz.func120 (by kernel_rfl) JE) Zk)) ZT Tryz.func50 (by kernel_rfl) (by kernel_rfl) (by kernel_rfl) Fv
theorem c0k:Z6 Tryz.prog 48 Qn Kv:=c2d (T:=WM) (ic:=XV) (rs:=XY) Zk ZT Tryz.func48 (by kernel_rfl) (by kernel_rfl) (by kernel_rfl) Ll
theorem c1d:Z6 Tryz.prog 174 Kl J3:=WO (T:=YD) (ic:=Yp) (rs:=Yn) Zk ZT Tryz.func174 (by kernel_rfl) (by kernel_rfl) (by kernel_rfl) a2f
theorem c2v:Z6 Tryz.prog 174 Km Dt:=WO (T:=YD) (ic:=Yp) (rs:=Yn) Zk ZT Tryz.func174 (by kernel_rfl) (by kernel_rfl) (by kernel_rfl) LG
theorem Bv:Zq Tryz.prog 174 (fun x:Lin×Unit=>decide (x.1.t.length<=1000000)) (fun x:Lin×Unit=>Zn x.1):=Zq.of (T:=YD) (ic:=Yp) (rs:=Yn) Zk ZT Tryz.func174 (by kernel_rfl) (by kernel_rfl) (by kernel_rfl) Lt
theorem c1j:Z6 Tryz.prog 176 KA Dc:=WO (T:=Lb) (ic:=RS) (rs:=Pg) (Zb (Yz Tryz.func120 (by kernel_rfl) JE) Zk) ZT Tryz.func176 (by kernel_rfl) (by kernel_rfl) (by kernel_rfl) b2b
theorem b8y:Z6 Tryz.prog 238 (XU 176) DF:=WO (T:=KG) (ic:=Uj) (rs:=UM) (Zb (Yz Tryz.func176 (by kernel_rfl) c1j) Zk) ZT Tryz.func238 (by kernel_rfl) (by kernel_rfl) (by kernel_rfl) b6n
theorem b1t:Z6 Tryz.prog 175 (XU 176) Rx:=WO (T:=O0) (ic:=BP) (rs:=Rh) (Zb (Yz Tryz.func238 (by kernel_rfl) b8y) Zk) ZT Tryz.func175 (by kernel_rfl) (by kernel_rfl) (by kernel_rfl) b5y
theorem QP:Zq Tryz.prog 116 (fun x:BoxT×List Fact×Bool×NilS×Unit=>ZW x.1&&Zm x.2.1&&decide (x.2.1.length<=100)) (fun x:BoxT×List Fact×Bool×NilS×Unit=>Zp x.1 x.2.1 x.2.2.1 []):=Zq.of (T:=Yq) (ic:=Ye) (rs:=Yd) (Zb (Yz Tryz.func50 (by kernel_rfl) Q0) (Zb (Yz Tryz.func95 (by kernel_rfl) JS) (Zb (Yz Tryz.func174 (by kernel_rfl) Bv) (Zb (Yz Tryz.func175 (by kernel_rfl) b1t) Zk)))) ZT Tryz.func116 (by kernel_rfl) (by kernel_rfl) (by kernel_rfl) LQ
theorem a5m:Z6 Tryz.prog 116 VZ Qp:=WO (T:=Yq) (ic:=Ye) (rs:=Yd) (Zb (Yz Tryz.func50 (by kernel_rfl) Q0) (Zb (Yz Tryz.func95 (by kernel_rfl) JS) (Zb (Yz Tryz.func174 (by kernel_rfl) Bv) (Zb (Yz Tryz.func175 (by kernel_rfl) b1t) Zk)))) ZT Tryz.func116 (by kernel_rfl) (by kernel_rfl) (by kernel_rfl) Nz
end Go.Proofs.YtjfgiaooglnomaaGreatDoor

namespace Go.Proofs.YtjfgiaooglnomaaGreatDoor
open Go.Pl
open Enc (enc dec is)
open EncL (encL decL isL)
set_option maxRecDepth 100000
theorem NI:Zq Tryz.prog 65 (fun x:Lin×List Coef×Unit=>YW x.1&&decide (x.2.1.length<=9223372036854775807)) (fun x:Lin×List Coef×Unit=>Yk x.1 x.2.1):=Zq.of (T:=XC) (ic:=Y7) (rs:=Y8) (Zb (Yz Tryz.func20 (by kernel_rfl) TD) Zk) ZT Tryz.func65 (by kernel_rfl) (by kernel_rfl) (by kernel_rfl) EX
theorem R7:Zq Tryz.prog 53 (fun x:List Fact×List Coef×Unit=>Zm x.1&&decide (x.2.1.length<=9223372036854775807)) (fun x:List Fact×List Coef×Unit=>x.1.all fun f=>Ya f x.2.1):=Zq.of (T:=VJ) (ic:=WC) (rs:=WB) (Zb (Yz Tryz.func65 (by kernel_rfl) NI) Zk) ZT Tryz.func53 (by kernel_rfl) (by kernel_rfl) (by kernel_rfl) FV
end Go.Proofs.YtjfgiaooglnomaaGreatDoor

namespace Go.Proofs.YtjfgiaooglnomaaGreatDoor
open Go.Pl
open Enc (enc dec is)
open EncL (encL decL isL)
set_option maxRecDepth 100000
theorem b3m:Z6 Tryz.prog 110 Bh Rk:=WO (T:=a5w) (ic:=Fy) (rs:=FB) Zk ZT Tryz.func110 (by kernel_rfl) (by kernel_rfl) (by kernel_rfl) b7r
theorem b9r:Z6 Tryz.prog 109 (Qy 110) Dv:=WO (T:=CL) (ic:=Q6) (rs:=K8) (Zb (Yz Tryz.func110 (by kernel_rfl) b3m) Zk) ZT Tryz.func109 (by kernel_rfl) (by kernel_rfl) (by kernel_rfl) b3p
theorem QL:Zq Tryz.prog 38 (fun x:Lin×List Coef×Unit=>Ym x.1&&decide (x.2.1.length<=9223372036854775807)) (fun x:Lin×List Coef×Unit=>Yk x.1 x.2.1):=Zq.of (T:=Gq) (ic:=QY) (rs:=Q3) (Zb (Yz Tryz.func73 (by kernel_rfl) VU) (Zb (Yz Tryz.func109 (by kernel_rfl) b9r) Zk)) ZT Tryz.func38 (by kernel_rfl) (by kernel_rfl) (by kernel_rfl) b6g
theorem b5p:Z6 Tryz.prog 239 Je Gg:=WO (T:=c1b) (ic:=a4y) (rs:=a6l) (Zb (Yz Tryz.func38 (by kernel_rfl) QL) Zk) ZT Tryz.func239 (by kernel_rfl) (by kernel_rfl) (by kernel_rfl) b9a
theorem c1v:Z6 Tryz.prog 227 (Wo 239) Dm:=WO (T:=DK) (ic:=KZ) (rs:=Js) (Zb (Yz Tryz.func239 (by kernel_rfl) b5p) Zk) ZT Tryz.func227 (by kernel_rfl) (by kernel_rfl) (by kernel_rfl) b6e
theorem c0s:Z6 Tryz.prog 161 (Wo 239) Dz:=WO (T:=b1k) (ic:=FT) (rs:=LK) (Zb (Yz Tryz.func227 (by kernel_rfl) c1v) Zk) ZT Tryz.func161 (by kernel_rfl) (by kernel_rfl) (by kernel_rfl) b6j
theorem R9:Zq Tryz.prog 178 (fun x:List Fact×List Coef×Unit=>Zm x.1&&decide (x.2.1.length<=9223372036854775807)) (fun x:List Fact×List Coef×Unit=>x.1.all fun f=>Ya f x.2.1):=Zq.of (T:=Cw) (ic:=Hd) (rs:=H9) (Zb (Yz Tryz.func161 (by kernel_rfl) c0s) Zk) ZT Tryz.func178 (by kernel_rfl) (by kernel_rfl) (by kernel_rfl) M3
end Go.Proofs.YtjfgiaooglnomaaGreatDoor

namespace Go.Proofs.YtjfgiaooglnomaaGreatDoor
open Go.RowKit
theorem Ei{k:IntKind}{a b:Int}(h:a=b):Ending.returned (.int k a) = .returned (.int k b):=by rw[h]
theorem CY{a b:Bool}(h:a=b):Ending.returned (.bool a) = .returned (.bool b):=by rw[h]
theorem a4f{W w1:World}(hb:Below W.heap.size W w1):(∀ b o,b<W.heap.size->w1.cell? ⟨b,o,none⟩=W.cell? ⟨b,o,none⟩)∧(∀ b o,b<W.heap.size->w1.frozen? ⟨b,o,none⟩=W.frozen? ⟨b,o,none⟩):=
 ⟨fun b o h=>hb.cell (p:=⟨b,o,none⟩) h,fun b o h=>hb.frozen (p:=⟨b,o,none⟩) h⟩
theorem RH(a:Addr)(n:Nat):(a.add n).block=a.block:=by unfold Addr.add;split <;> rfl
def YQ(w:World)(B size:Nat)(A:Option Addr)(n:Nat)(xs:List Value):Prop:=
 xs.length=n*size∧(0<n-> ∃ ad,A=some ad∧ad.block<B∧ ∀ j u,xs[j]? = some u->w.cell? (ad.add j)=some u)
section
variable {w w':World} {B B' size n:Nat} {A:Option Addr} {xs:List Value}
theorem YQ.at_{k:Nat}(h:YQ w B 1 A n xs)(hk:k<n): ∃ ad u,A=some ad∧ad.block<B∧xs[k]? = some u∧w.cell? (ad.add k)=some u:=by
 obtain⟨ad,e,hb,hc⟩:=h.2 (by omega)
 have hl:k<xs.length:=by have:=h.1;omega
 exact⟨ad,xs[k],e,hb,List.getElem?_eq_getElem hl,hc k _ (List.getElem?_eq_getElem hl)⟩
theorem YQ.keep(h:YQ w B size A n xs)(hk : ∀ p:Addr,p.block<B->w'.cell? p=w.cell? p):YQ w' B size A n xs:=
 ⟨h.1,fun hn=>by
  obtain⟨ad,e,hb,hc⟩:=h.2 hn
  exact⟨ad,e,hb,fun j u hu=>(hk _ (by rw[RH];exact hb)).trans (hc j u hu)⟩⟩
theorem YQ.below(h:YQ w B size A n xs)(hb:Below B w w'):YQ w' B size A n xs:=h.keep fun _ hp=>hb.cell hp
theorem YQ.drew(h:YQ w B size A n xs):YQ w.drew B size A n xs:=h
theorem YQ.alloc(h:YQ w B size A n xs)(hB:B<=w.heap.size)(o:Obj):YQ (w.alloc o) B size A n xs:=h.keep fun p hp=>World.cell?_alloc_lt w o p (by omega)
theorem YQ.setCell(h:YQ w B size A n xs){p:Addr}(hB:B<=p.block)(u:Value):YQ (w.setCell p u) B size A n xs:=
 h.keep fun q hq=>World.cell?_setCell_other w p q u (fun e=>by subst e;omega)
theorem YQ.grown(h:YQ w B size A n xs){row:Option Nat}(hg:w.grownBy w' row)(hB:B<=w.heap.size)(hr : ∀ g,row=some g->B<=g):YQ w' B size A n xs:=
 h.keep fun p hp=>World.cell?_of_block (hg.block p.block (by omega) (fun e=>by have:=hr _ e.symm;omega))
theorem YQ.of_own{base:Nat}{e:TypeId}{c:Nat}(h:w.ownsRow base e size (.slice A n c) n xs):YQ w w.heap.size size A n xs:=by
 refine⟨h.1,fun hn=> ?_⟩
 obtain⟨g,cap,hv,_,hlt⟩:=h.form hn
 have hA:A=some ⟨g,0,none⟩:=by injection hv
 subst hA
 exact⟨_,rfl,hlt,h.cells (g:=g) rfl⟩
theorem YQ.of_new(w:World)(e:TypeId)(cs:Array Value):YQ (w.alloc (.cells cs e)) (w.heap.size+1) 1 (some ⟨w.heap.size,0,none⟩) cs.size cs.toList:=by
 refine⟨by simp,fun _=>⟨_,rfl,by simp,fun j u hu=> ?_⟩⟩
 have hj:j<cs.size:=by
  have:=(List.getElem?_eq_some_iff.1 hu).1
  simpa using this
 have hu':cs[j]? = some u:=by simpa using hu
 have:(⟨w.heap.size,0,none⟩:Addr).add j=⟨w.heap.size,j,none⟩:=by
  unfold Addr.add;by_cases h0:j=0 <;> simp[h0]
 rw[this,cell_of_row (w.alloc (.cells cs e)) w.heap.size j cs e (0,0) (heap_alloc_new w _)]
 exact hu'
end
def UT(w:World)(g:Nat)(t:TypeId)(cs:Array Value):Prop:=w.heap[g]? = some (.cells cs t (0,0))
section
variable {w w':World} {g:Nat} {t:TypeId} {cs:Array Value}
theorem UT.lt(h:UT w g t cs):g<w.heap.size:=by
 rcases Nat.lt_or_ge g w.heap.size with hlt|hge
 ·exact hlt
 ·unfold UT at h;rw[Array.getElem?_eq_none hge]at h;cases h
theorem UT.cell(h:UT w g t cs)(i:Nat):w.cell? ⟨g,i,none⟩=cs[i]? :=cell_of_row w g i cs t (0,0) h
theorem UT.frozen(h:UT w g t cs)(i:Nat):w.frozen? ⟨g,i,none⟩=false:=by
 unfold UT at h
 simp[World.frozen?,h]
theorem UT.new(w:World)(t:TypeId)(cs:Array Value):UT (w.alloc (.cells cs t)) w.heap.size t cs:=heap_alloc_new w _
theorem UT.drew(h:UT w g t cs):UT w.drew g t cs:=h
theorem UT.alloc(h:UT w g t cs)(o:Obj):UT (w.alloc o) g t cs:=(Below.heap_alloc w o g h.lt).trans h
theorem UT.set_(h:UT w g t cs)(i:Nat)(u:Value):UT (w.setCell ⟨g,i,none⟩ u) g t (cs.setIfInBounds i u):=by
 unfold UT at h ⊢
 simp[World.setCell,Array.getElem?_modify,h]
theorem UT.below{B:Nat}(h:UT w g t cs)(hb:Below B w w')(hg:g<B):UT w' g t cs:=(hb.block g hg).trans h
theorem UT.grown{row:Option Nat}(h:UT w g t cs)(hb:w.grownBy w' row)(hg:some g≠row):UT w' g t cs:=(hb.block g h.lt hg).trans h
end
theorem Tg(w:World)(row:Option Nat):w.grownBy w row:=World.grownBy.refl w row
theorem V5{a w:World}{row:Option Nat}(h:a.grownBy w row):a.grownBy w.drew row:=⟨h.os,h.tape,h.output,h.size,h.block⟩
theorem XO{a w:World}{g:Nat}(h:a.grownBy w (some g)){p:Addr}(hp:p.block=g∨a.heap.size<=p.block)(u:Value):a.grownBy (w.setCell p u) (some g):=
 ⟨h.os,h.tape,h.output,by simpa [World.setCell]using h.size,fun i hi hne=>(Below.heap_setCell w p u i (by
  rintro rfl
  rcases hp with hp|hp
  ·exact hne (by rw[hp])
  ·omega)).trans (h.block i hi hne)⟩
end Go.Proofs.YtjfgiaooglnomaaGreatDoor
namespace Go.Proofs.YtjfgiaooglnomaaGreatDoor
open Go.RowKit
def rng(n:Int):Bool:=decide (-4611686018427387904<=n∧n<=4611686018427387904)
theorem Rf{n:Int}(h:rng n=true): -4611686018427387904<=n∧n<=4611686018427387904:=by simpa [rng]using h
theorem a5p{n:Int}(h : -4611686018427387904<=n∧n<=4611686018427387904):rng n=true:=by simpa [rng]using h
theorem VY{n:Int}(h : ¬ (-4611686018427387904<=n∧n<=4611686018427387904)):rng n=false:=by simpa [rng]using h
def vR(n:Int):Int:=bif rng n then n else 0
def eR(n:Int):Int:=bif rng n then 0 else 2
theorem a8i(zs:List Int)(k:Nat)(x:Int)(hx:zs[k]? = some x):(zs.take (k+1)).all rng=((zs.take k).all rng&&rng x):=by
 have hk:k<zs.length:=(List.getElem?_eq_some_iff.1 hx).1
 rw[List.take_succ_eq_append_getElem hk]
 have:zs[k]=x:=by rw[List.getElem?_eq_getElem hk]at hx;exact Option.some.inj hx
 simp[this]
theorem EO(zs:List Int)(k:Nat)(x:Int)(hx:zs[k]? = some x)(hr:rng x=false):zs.all rng=false:=by
 have hk:k<zs.length:=(List.getElem?_eq_some_iff.1 hx).1
 rw[List.all_eq_false]
 refine⟨x,List.mem_of_getElem? hx,by simp[hr]⟩
set_option maxHeartbeats 400000 in
theorem DY(A:Option Addr)(n c:Nat)(zs:List Int)(w:World)(B:Nat)(hr:YQ w B 1 A n (zs.map (Value.int .i64)))(hn:n<=9223372036854775807):
  Calls Tryz.prog 191 #[.slice A n c] w fun e w'=>e = .returned (.bool (zs.all rng))∧w=w':=by
 have hlen:=Lib.hid (show zs.length=n by have:=hr.1;simpa using this)
 go_enter Tryz.func191,Tryz.ntmps191
 go_wp2
 go_loop [7] (fun i=> ∃ k:Nat,k<=n∧i = .int .i64 k∧Hid ((zs.take k).all rng=true)) (fun i=>n - (intOf i).toNat)
 case atStart=>exact⟨0,Nat.zero_le _,rfl,Lib.hid (by simp)⟩
 case round=>
  obtain⟨k,hk,rfl,ha⟩:=hrel
  by_cases hlt:k<n
  ·obtain⟨ad,u,rfl,_,hu,hc⟩:=hr.at_ hlt
   rw[List.getElem?_map]at hu
   obtain⟨x,hx,rfl⟩:=Option.map_eq_some_iff.1 hu
   have HX:=Lib.hid hx
   clear hx hu
   by_cases h1 : -4611686018427387904<=x
   ·by_cases h2:x<=4611686018427387904
    ·have HA:Hid ((zs.take (k+1)).all rng=true):=Lib.hid (by rw[a8i zs k x HX.out,ha.out,a5p ⟨h1,h2⟩];rfl)
     go_wp2
     go_round
     case rel=>exact⟨k+1,by omega,by go_num,HA⟩
     case measure=>simp[intOf];omega
    ·go_wp2
     go_ret
     exact⟨CY (by rw[EO zs k x HX.out (VY (by omega))]),rfl⟩
   ·go_wp2
    go_ret
    exact⟨CY (by rw[EO zs k x HX.out (VY (by omega))]),rfl⟩
  ·go_wp2
   go_ret
   exact⟨CY (by have:=ha.out;rw[List.take_of_length_le (by rw[hlen.out];omega)]at this;rw[this]),rfl⟩
set_option maxHeartbeats 400000 in
theorem GK(n:Int)(w:World):
  Calls Tryz.prog 253 #[.int .i64 n] w fun e w'=>e = .returned (.tuple #[.int .i64 (vR n),.int .i64 (eR n)])∧Below w.heap.size w w':=by
 have H1:=fun c=>DY (some ⟨w.heap.size,0,none⟩) 1 c [n] (w.alloc (.cells #[.int .i64 n] 3)) (w.heap.size+1) (YQ.of_new w 3 #[.int .i64 n]) (by omega)
 cases hr:rng n
 all_goals
  simp only[List.all_cons,List.all_nil,hr,Bool.and_true]at H1
  have H2:=Lib.hid H1
  clear H1
  go_enter Tryz.func253,Tryz.ntmps253
  go_wp2_with (go_at_call 191;refine(H2.out _).mono ?_;rintro e w' ⟨rfl,rfl⟩)
  go_ret2
  exact⟨by simp[vR,eR,hr],(Below.refl _ _).alloc (Nat.le_refl _) _⟩
end Go.Proofs.YtjfgiaooglnomaaGreatDoor
namespace Go.Proofs.YtjfgiaooglnomaaGreatDoor
open Go.RowKit
set_option maxHeartbeats 400000 in
theorem JO(n:Int)(w:World)(h : -4611686018427387904<=n∧n<=4611686018427387904):
  Calls Tryz.prog 249 #[.int .i64 n] w fun e w'=>e = .returned (.int .i64 (n.natAbs:Int))∧w=w':=by
 obtain⟨h1,h2⟩:=h
 by_cases h0:n<0
 ·go_enter Tryz.func249,Tryz.ntmps249
  go_wp2
  go_ret
  exact⟨Ei (by omega),rfl⟩
 ·go_enter Tryz.func249,Tryz.ntmps249
  go_wp2
  go_ret
  exact⟨Ei (by omega),rfl⟩
end Go.Proofs.YtjfgiaooglnomaaGreatDoor
namespace Go.Proofs.YtjfgiaooglnomaaGreatDoor
open Go.RowKit
def Rq(a b:Int):Int:=bif rng a&&rng b&&rng (a*b)then a*b else 0
def Rz(a b:Int):Int:=bif rng a&&rng b&&rng (a*b)then 0 else 2
theorem TW(a b:Int)(w:World):
  Calls Tryz.prog 191 #[.slice (some ⟨w.heap.size,0,none⟩) 2 2] (w.alloc (.cells #[.int .i64 a,.int .i64 b] 3)) fun e w'=>e = .returned (.bool (rng a&&rng b))∧w.alloc (.cells #[.int .i64 a,.int .i64 b] 3)=w':=by
 have h:=DY (some ⟨w.heap.size,0,none⟩) 2 2 [a,b] (w.alloc (.cells #[.int .i64 a,.int .i64 b] 3)) (w.heap.size+1) (YQ.of_new w 3 #[.int .i64 a,.int .i64 b]) (by omega)
 simpa using h
theorem b5z{a b:Int}(h:(rng a&&rng b)=true):(-4611686018427387904<=a∧a<=4611686018427387904)∧(-4611686018427387904<=b∧b<=4611686018427387904):=by
 rw[Bool.and_eq_true]at h
 exact⟨Rf h.1,Rf h.2⟩
end Go.Proofs.YtjfgiaooglnomaaGreatDoor
namespace Go.Proofs.YtjfgiaooglnomaaGreatDoor
open Go.RowKit
theorem FC(x y c:Nat)(hc:c<=1)(w:World):
  (callFunc 250 #[.int .u64 x,.int .u64 y,.int .u64 c]).run Tryz.prog w =
   .ok (.value (.tuple #[.int .u64 (((x+y+c) % 18446744073709551616:Nat):Int),.int .u64 (((x+y+c) / 18446744073709551616:Nat):Int)])) w:=by
 rw[run_callFunc_extern Tryz.func250 (by kernel_rfl) (by kernel_rfl) (by kernel_rfl) (e:=add64Entry) (by kernel_rfl),run_add64 x y c (by omega) (by omega) (by omega) (by omega)]
 simp only[Result.andThen]
 congr 5 <;> omega
end Go.Proofs.YtjfgiaooglnomaaGreatDoor
namespace Go.Proofs.YtjfgiaooglnomaaGreatDoor
open Go.RowKit
theorem Y9{k l:IntKind}{a b c d:Int}(h1:a=c)(h2:b=d):Ending.returned (.tuple #[.int k a,.int l b]) = .returned (.tuple #[.int k c,.int l d]):=by rw[h1,h2]
theorem a6m(a:Nat)(ha:a<18446744073709551616):bits .and .u64 (a:Int) 4294967295=((a % 4294967296:Nat):Int):=by
 have h:=bits_and_u64_nat a 4294967295 ha (by omega)
 have e:a &&& 4294967295=a % 4294967296:=Nat.and_two_pow_sub_one_eq_mod a 32
 rw[e]at h
 exact h
theorem c5r(a:Nat):(a:Int) / 4294967296=((a / 4294967296:Nat):Int):=by omega
theorem c5v(a b:Nat):(a:Int)*(b:Int)=((a*b:Nat):Int):=(Int.natCast_mul a b).symm
theorem c5k(a b:Nat):(a:Int)+(b:Int)=((a+b:Nat):Int):=(Int.natCast_add a b).symm
theorem GA(a:Nat)(ha:a<18446744073709551616):IntKind.u64.wrap (a:Int)=(a:Int):=by rw[IntKind.wrap_u64];omega
theorem c3e(a:Nat):IntKind.u64.wrap (a:Int)=((a % 18446744073709551616:Nat):Int):=by rw[IntKind.wrap_u64];omega
set_option maxHeartbeats 1000000 in
theorem a6n(x y:Nat)(hx:x<18446744073709551616)(hy:y<18446744073709551616)(w:World):
  Calls Tryz.prog 248 #[.int .u64 x,.int .u64 y] w fun e w'=>e = .returned (.tuple #[.int .u64 ((x*y / 18446744073709551616:Nat):Int),.int .u64 ((x*y % 18446744073709551616:Nat):Int)])∧w'=w:=by
 obtain⟨bd,bt,bw,hhi⟩:=Lib.mul64_hi x y hx hy
 have ba:=Lib.half_mul_le (a:=x / 4294967296) (b:=y / 4294967296) (by omega) (by omega)
 have bb:=Lib.half_mul_le (a:=x / 4294967296) (b:=y % 4294967296) (by omega) (by omega)
 have bc:=Lib.half_mul_le (a:=x % 4294967296) (b:=y / 4294967296) (by omega) (by omega)
 have ba':x / 4294967296*(y / 4294967296)<18446744073709551616:=by omega
 have bb':x / 4294967296*(y % 4294967296)<18446744073709551616:=by omega
 have bc':x % 4294967296*(y / 4294967296)<18446744073709551616:=by omega
 have bh1:x / 4294967296*(y / 4294967296)+(x / 4294967296*(y % 4294967296)+x % 4294967296*(y % 4294967296) / 4294967296) / 4294967296<18446744073709551616:=by omega
 have bh:x / 4294967296*(y / 4294967296)+(x / 4294967296*(y % 4294967296)+x % 4294967296*(y % 4294967296) / 4294967296) / 4294967296+((x / 4294967296*(y % 4294967296)+x % 4294967296*(y % 4294967296) / 4294967296) % 4294967296+x % 4294967296*(y / 4294967296)) / 4294967296<18446744073709551616:=by omega
 have HH:=Lib.hid hhi
 clear hhi
 go_enter Tryz.func248,Tryz.ntmps248
 go_wp2
 simp only[a6m x hx,a6m y hy,c5r,c5v,c5k,GA _ bd,GA _ bb',GA _ bt,a6m _ bt,GA _ bc',GA _ bw,GA _ ba',GA _ bh1,GA _ bh,c3e (x*y)]
 rw[HH.out]
 go_ret2
 exact⟨rfl,rfl⟩
end Go.Proofs.YtjfgiaooglnomaaGreatDoor
namespace Go.Proofs.YtjfgiaooglnomaaGreatDoor
open Go.RowKit
theorem Ms(x y:Nat)(hx:x<=4611686018427387904)(hy:y<=4611686018427387904)(w:World):
  (x*y<=4611686018427387904∧Calls Tryz.prog 248 #[.int .u64 x,.int .u64 y] w fun e w'=>e = .returned (.tuple #[.int .u64 0,.int .u64 ((x*y:Nat):Int)])∧w=w') ∨
  (4611686018427387904<x*y∧ ∃ h l:Nat,0<h∧Calls Tryz.prog 248 #[.int .u64 x,.int .u64 y] w fun e w'=>e = .returned (.tuple #[.int .u64 (h:Int),.int .u64 (l:Int)])∧w=w') ∨
  (4611686018427387904<x*y∧ ∃ l:Nat,4611686018427387904<l∧Calls Tryz.prog 248 #[.int .u64 x,.int .u64 y] w fun e w'=>e = .returned (.tuple #[.int .u64 0,.int .u64 (l:Int)])∧w=w'):=by
 have h:=a6n x y (by omega) (by omega) w
 generalize x*y=p at *
 by_cases hp:p<=4611686018427387904
 ·refine .inl ⟨hp,h.mono ?_⟩
  rintro e w' ⟨rfl,rfl⟩
  exact⟨Y9 (by omega) (by omega),rfl⟩
 ·by_cases hh:p<18446744073709551616
  ·refine .inr (.inr ⟨by omega,p,by omega,h.mono ?_⟩)
   rintro e w' ⟨rfl,rfl⟩
   exact⟨Y9 (by omega) (by omega),rfl⟩
  ·refine .inr (.inl ⟨by omega,p / 18446744073709551616,p % 18446744073709551616,by omega,h.mono ?_⟩)
   rintro e w' ⟨rfl,rfl⟩
   exact⟨rfl,rfl⟩
theorem b6p(a b:Int):(a.natAbs*b.natAbs:Nat)=(a*b).natAbs:=(Int.natAbs_mul a b).symm
theorem KH(a b:Int)(h:(!decide (a<0)==decide (b<0))=true):a*b = -((a.natAbs*b.natAbs:Nat):Int):=by
 rw[Int.natCast_mul]
 by_cases ha:a<0 <;> by_cases hb:b<0
 ·simp[ha,hb]at h
 ·rw[Int.ofNat_natAbs_of_nonpos (by omega),Int.natAbs_of_nonneg (by omega),Int.neg_mul,Int.neg_neg]
 ·rw[Int.ofNat_natAbs_of_nonpos (a:=b) (by omega),Int.natAbs_of_nonneg (a:=a) (by omega),Int.mul_neg,Int.neg_neg]
 ·simp[ha,hb]at h
theorem KI(a b:Int)(h:(!decide (a<0)==decide (b<0))=false):a*b=((a.natAbs*b.natAbs:Nat):Int):=by
 rw[Int.natCast_mul]
 by_cases ha:a<0 <;> by_cases hb:b<0
 ·rw[Int.ofNat_natAbs_of_nonpos (by omega),Int.ofNat_natAbs_of_nonpos (by omega),Int.neg_mul_neg]
 ·simp[ha,hb]at h
 ·simp[ha,hb]at h
 ·rw[Int.natAbs_of_nonneg (by omega),Int.natAbs_of_nonneg (by omega)]
set_option maxRecDepth 20000 in
set_option maxHeartbeats 400000 in
theorem b6u(a b:Int)(w:World):
  Calls Tryz.prog 247 #[.int .i64 a,.int .i64 b] w fun e w'=>e = .returned (.tuple #[.int .i64 (Rq a b),.int .i64 (Rz a b)])∧Below w.heap.size w w':=by
 cases hr:(rng a&&rng b)
 ·have he:Rz a b=2:=by simp[Rz,hr]
  have hv:Rq a b=0:=by simp[Rq,hr]
  rw[he,hv]
  clear he hv
  go_enter Tryz.func247,Tryz.ntmps247
  go_wp2_with (go_at_call 191;refine(TW _ _ _).mono ?_;rintro e w' ⟨rfl,rfl⟩)
  go_ret2
  exact⟨rfl,(Below.refl _ _).alloc (Nat.le_refl _) _⟩
 ·obtain⟨ha,hb⟩:=b5z hr
  have hspec:(a.natAbs*b.natAbs<=4611686018427387904->Rq a b=a*b∧Rz a b=0)∧(4611686018427387904<a.natAbs*b.natAbs->Rq a b=0∧Rz a b=2):=by
   rw[b6p]
   constructor
   ·intro h
    have h1:rng (a*b)=true:=a5p (by omega)
    simp[Rq,Rz,hr,h1]
   ·intro h
    have h1:rng (a*b)=false:=VY (by omega)
    simp[Rq,Rz,hr,h1]
  have HS:=Lib.hid hspec
  clear hspec
  have hsg:=Lib.hid (And.intro (KH a b) (KI a b))
  have hc:=Ms a.natAbs b.natAbs (by omega) (by omega) (w.alloc (.cells #[.int .i64 a,.int .i64 b] 3))
  have hna:(a.natAbs:Int)<=4611686018427387904:=by omega
  have hnb:(b.natAbs:Int)<=4611686018427387904:=by omega
  have HA:=Lib.hid ha
  have HB:=Lib.hid hb
  have hza:(0:Int)<=(a.natAbs:Int):=by omega
  have hzb:(0:Int)<=(b.natAbs:Int):=by omega
  clear ha hb
  rcases hc with ⟨hp,h⟩|⟨hp,h,l,hh,h2⟩|⟨hp,l,hl,h2⟩
  ·generalize a.natAbs*b.natAbs=p at *
   have H:=Lib.hid h
   clear h
   obtain⟨e1,e2⟩:=HS.out.1 hp
   rw[e1,e2]
   clear e1 e2 HS
   have hp1:(p:Int)<=4611686018427387904:=by omega
   clear hp
   go_enter Tryz.func247,Tryz.ntmps247
   go_wp2_with (first
    | (go_at_call 191;refine(TW _ _ _).mono ?_;rintro e w' ⟨rfl,rfl⟩)
    | (go_at_call 249;refine(JO _ _ (by first|exact HA.out|exact HB.out)).mono ?_;rintro e w' ⟨rfl,rfl⟩)
    | (go_at_call 248;refine H.out.mono ?_;rintro e w' ⟨rfl,rfl⟩))
   all_goals go_ret2
   all_goals first
    | exact⟨Y9 (hsg.out.1 ‹_›).symm rfl,(Below.refl _ _).alloc (Nat.le_refl _) _⟩
    | exact⟨Y9 (hsg.out.2 ‹_›).symm rfl,(Below.refl _ _).alloc (Nat.le_refl _) _⟩
  ·generalize a.natAbs*b.natAbs=p at *
   have H:=Lib.hid h2
   clear h2
   obtain⟨e1,e2⟩:=HS.out.2 hp
   rw[e1,e2]
   clear e1 e2 HS
   have hh1:(0:Int)<(h:Int):=by omega
   clear hp hh
   go_enter Tryz.func247,Tryz.ntmps247
   go_wp2_with (first
    | (go_at_call 191;refine(TW _ _ _).mono ?_;rintro e w' ⟨rfl,rfl⟩)
    | (go_at_call 249;refine(JO _ _ (by first|exact HA.out|exact HB.out)).mono ?_;rintro e w' ⟨rfl,rfl⟩)
    | (go_at_call 248;refine H.out.mono ?_;rintro e w' ⟨rfl,rfl⟩))
   go_ret2
   exact⟨rfl,(Below.refl _ _).alloc (Nat.le_refl _) _⟩
  ·generalize a.natAbs*b.natAbs=p at *
   have H:=Lib.hid h2
   clear h2
   obtain⟨e1,e2⟩:=HS.out.2 hp
   rw[e1,e2]
   clear e1 e2 HS
   have hh1:(4611686018427387904:Int)<(l:Int):=by omega
   clear hp hl
   go_enter Tryz.func247,Tryz.ntmps247
   go_wp2_with (first
    | (go_at_call 191;refine(TW _ _ _).mono ?_;rintro e w' ⟨rfl,rfl⟩)
    | (go_at_call 249;refine(JO _ _ (by first|exact HA.out|exact HB.out)).mono ?_;rintro e w' ⟨rfl,rfl⟩)
    | (go_at_call 248;refine H.out.mono ?_;rintro e w' ⟨rfl,rfl⟩))
   go_ret2
   exact⟨rfl,(Below.refl _ _).alloc (Nat.le_refl _) _⟩
end Go.Proofs.YtjfgiaooglnomaaGreatDoor
namespace Go.Proofs.YtjfgiaooglnomaaGreatDoor
open Go.RowKit
end Go.Proofs.YtjfgiaooglnomaaGreatDoor
namespace Go.Proofs.YtjfgiaooglnomaaGreatDoor
open Go.RowKit
def XJ(n:Nat):Nat:=n % 18446744073709551616
def X6(n:Nat):Nat:=n / 18446744073709551616 % 18446744073709551616
def Wy(n:Nat):Nat:=n / 340282366920938463463374607431768211456
def QV(P N:Nat):Array Value:=#[.int .u64 (XJ P:Int),.int .u64 (X6 P:Int),.int .u64 (Wy P:Int),.int .u64 (XJ N:Int),.int .u64 (X6 N:Int),.int .u64 (Wy N:Int)]
theorem a0x(P x:Nat)(hx:x<340282366920938463463374607431768211456)(h:P+x<6277101735386680763835789423207666416102355444464034512896):
  ∃ c0 c1 c2:Nat,
   (∀ w,(callFunc 250 #[.int .u64 (XJ P:Int),.int .u64 ((x % 18446744073709551616:Nat):Int),.int .u64 0]).run Tryz.prog w = .ok (.value (.tuple #[.int .u64 (XJ (P+x):Int),.int .u64 (c0:Int)])) w) ∧
   (∀ w,(callFunc 250 #[.int .u64 (X6 P:Int),.int .u64 ((x / 18446744073709551616:Nat):Int),.int .u64 (c0:Int)]).run Tryz.prog w = .ok (.value (.tuple #[.int .u64 (X6 (P+x):Int),.int .u64 (c1:Int)])) w) ∧
   (∀ w,(callFunc 250 #[.int .u64 (Wy P:Int),.int .u64 0,.int .u64 (c1:Int)]).run Tryz.prog w = .ok (.value (.tuple #[.int .u64 (Wy (P+x):Int),.int .u64 (c2:Int)])) w):=by
 have e1:=fun c (hc:c<=1) w=>FC (XJ P) (x % 18446744073709551616) c hc w
 have e2:=fun c (hc:c<=1) w=>FC (X6 P) (x / 18446744073709551616) c hc w
 have e3:=fun c (hc:c<=1) w=>FC (Wy P) 0 c hc w
 refine⟨(XJ P+x % 18446744073709551616+0) / 18446744073709551616,(X6 P+x / 18446744073709551616+(XJ P+x % 18446744073709551616+0) / 18446744073709551616) / 18446744073709551616,
  (Wy P+0+(X6 P+x / 18446744073709551616+(XJ P+x % 18446744073709551616+0) / 18446744073709551616) / 18446744073709551616) / 18446744073709551616,fun w=> ?_,fun w=> ?_,fun w=> ?_⟩
 ·refine(e1 0 (by omega) w).trans ?_
  congr 7
  unfold XJ;omega
 ·refine(e2 _ (by unfold XJ;omega) w).trans ?_
  congr 7
  unfold XJ X6;omega
 ·refine(e3 _ (by unfold XJ X6;omega) w).trans ?_
  congr 7
  unfold XJ X6 Wy;omega
theorem Pp(P:Nat)(a b:Int)(ha : -4611686018427387904<=a∧a<=4611686018427387904)(hb : -4611686018427387904<=b∧b<=4611686018427387904)
  (h:P+a.natAbs*b.natAbs<6277101735386680763835789423207666416102355444464034512896) :
  ∃ lo hi c0 c1 c2:Nat,
   (∀ w,Calls Tryz.prog 248 #[.int .u64 (a.natAbs:Int),.int .u64 (b.natAbs:Int)] w fun e w'=>e = .returned (.tuple #[.int .u64 (hi:Int),.int .u64 (lo:Int)])∧w=w') ∧
   (∀ w,(callFunc 250 #[.int .u64 (XJ P:Int),.int .u64 (lo:Int),.int .u64 0]).run Tryz.prog w = .ok (.value (.tuple #[.int .u64 (XJ (P+a.natAbs*b.natAbs):Int),.int .u64 (c0:Int)])) w) ∧
   (∀ w,(callFunc 250 #[.int .u64 (X6 P:Int),.int .u64 (hi:Int),.int .u64 (c0:Int)]).run Tryz.prog w = .ok (.value (.tuple #[.int .u64 (X6 (P+a.natAbs*b.natAbs):Int),.int .u64 (c1:Int)])) w) ∧
   (∀ w,(callFunc 250 #[.int .u64 (Wy P:Int),.int .u64 0,.int .u64 (c1:Int)]).run Tryz.prog w = .ok (.value (.tuple #[.int .u64 (Wy (P+a.natAbs*b.natAbs):Int),.int .u64 (c2:Int)])) w):=by
 have hm:=fun w=>a6n a.natAbs b.natAbs (by omega) (by omega) w
 have hx:a.natAbs*b.natAbs<340282366920938463463374607431768211456:=by
  have:=Nat.mul_le_mul (show a.natAbs<=4611686018427387904 by omega) (show b.natAbs<=4611686018427387904 by omega)
  omega
 generalize a.natAbs*b.natAbs=x at *
 obtain⟨c0,c1,c2,h0,h1,h2⟩:=a0x P x hx h
 exact⟨_,_,c0,c1,c2,fun w=>(hm w).mono fun e w' ⟨he,hw⟩=>⟨he,hw.symm⟩,h0,h1,h2⟩
theorem b2u(P N Q:Nat):(((QV P N).setIfInBounds 0 (.int .u64 (XJ Q:Int))).setIfInBounds 1 (.int .u64 (X6 Q:Int))).setIfInBounds 2 (.int .u64 (Wy Q:Int))=QV Q N:=by simp[QV]
theorem b0i(P N Q:Nat):(((QV P N).setIfInBounds 3 (.int .u64 (XJ Q:Int))).setIfInBounds 4 (.int .u64 (X6 Q:Int))).setIfInBounds 5 (.int .u64 (Wy Q:Int))=QV P Q:=by simp[QV]
theorem a6p(x0 x1 x2:Value)(w:World):(Instr.index 221 (.agg #[x0,x1,x2]) (.int .i64 0)).run Tryz.prog w = .ok x0 w:=by kernel_rfl
theorem a8o(x0 x1 x2:Value)(w:World):(Instr.index 221 (.agg #[x0,x1,x2]) (.int .i64 1)).run Tryz.prog w = .ok x1 w:=by kernel_rfl
theorem b0x(x0 x1 x2:Value)(w:World):(Instr.index 221 (.agg #[x0,x1,x2]) (.int .i64 2)).run Tryz.prog w = .ok x2 w:=by kernel_rfl
set_option maxRecDepth 20000 in
set_option maxHeartbeats 1000000 in
theorem a1l(g P N:Nat)(a b:Int)(w:World)(ha : -4611686018427387904<=a∧a<=4611686018427387904)(hb : -4611686018427387904<=b∧b<=4611686018427387904)
  (h:P+a.natAbs*b.natAbs<6277101735386680763835789423207666416102355444464034512896) (hs:(!decide (a<0)==decide (b<0))=false) (hw:UT w g 223 (QV P N)) :
  Calls Tryz.prog 192 #[.pointer (some ⟨g,0,none⟩),.int .i64 a,.int .i64 b] w fun e w'=>e = .returned (.tuple #[])∧UT w' g 223 (QV (P+a.natAbs*b.natAbs) N)∧w.grownBy w' (some g):=by
 obtain⟨lo,hi,c0,c1,c2,hm,r0,r1,r2⟩:=Pp P a b ha hb h
 generalize P+a.natAbs*b.natAbs=Q at *
 have HM:=Lib.hid hm
 have HA:=Lib.hid ha
 have HB:=Lib.hid hb
 have hna:(a.natAbs:Int)<=4611686018427387904:=by omega
 have hnb:(b.natAbs:Int)<=4611686018427387904:=by omega
 have k0:w.cell? ⟨g,0,none⟩=some (.int .u64 (XJ P:Int)):=hw.cell 0
 have k1:w.cell? ⟨g,1,none⟩=some (.int .u64 (X6 P:Int)):=hw.cell 1
 have k2:w.cell? ⟨g,2,none⟩=some (.int .u64 (Wy P:Int)):=hw.cell 2
 have f0:=hw.frozen 0
 have f1:=hw.frozen 1
 have f2:=hw.frozen 2
 have HW:=Lib.hid hw
 clear hm ha hb h hw
 go_enter Tryz.func192,Tryz.ntmps192
 go_wp2_with (first
  | (go_at_call 249;refine(JO _ _ (by first|exact HA.out|exact HB.out)).mono ?_;rintro e w' ⟨rfl,rfl⟩)
  | (go_at_call 248;refine(HM.out _).mono ?_;rintro e w' ⟨rfl,rfl⟩))
 have i0:=a6p
 have i1:=a8o
 have i2:=b0x
 refine wp_loop_rounds 4 ?_
 rw[rounds_succ]
 go_wp2
 go_region
 all_goals go_wp2
 all_goals rw[rounds_succ]
 all_goals go_wp2
 all_goals go_region
 all_goals go_wp2
 all_goals rw[rounds_succ]
 all_goals go_wp2
 all_goals go_region
 all_goals go_wp2
 all_goals rw[rounds_succ]
 all_goals go_wp2
 go_end0
 refine⟨rfl,?_,?_⟩
 ·have h:=((HW.out.set_ 0 (.int .u64 (XJ Q:Int))).set_ 1 (.int .u64 (X6 Q:Int))).set_ 2 (.int .u64 (Wy Q:Int))
  rw[b2u]at h
  exact h.drew.drew.drew
 ·exact V5 (V5 (V5 (XO (p:=⟨g,2,none⟩) (XO (p:=⟨g,1,none⟩) (XO (p:=⟨g,0,none⟩) (Tg w (some g)) (.inl rfl) _) (.inl rfl) _) (.inl rfl) _)))
set_option maxRecDepth 20000 in
set_option maxHeartbeats 1000000 in
theorem a0h(g P N:Nat)(a b:Int)(w:World)(ha : -4611686018427387904<=a∧a<=4611686018427387904)(hb : -4611686018427387904<=b∧b<=4611686018427387904)
  (h:N+a.natAbs*b.natAbs<6277101735386680763835789423207666416102355444464034512896) (hs:(!decide (a<0)==decide (b<0))=true) (hw:UT w g 223 (QV P N)) :
  Calls Tryz.prog 192 #[.pointer (some ⟨g,0,none⟩),.int .i64 a,.int .i64 b] w fun e w'=>e = .returned (.tuple #[])∧UT w' g 223 (QV P (N+a.natAbs*b.natAbs))∧w.grownBy w' (some g):=by
 obtain⟨lo,hi,c0,c1,c2,hm,r0,r1,r2⟩:=Pp N a b ha hb h
 generalize N+a.natAbs*b.natAbs=Q at *
 have HM:=Lib.hid hm
 have HA:=Lib.hid ha
 have HB:=Lib.hid hb
 have hna:(a.natAbs:Int)<=4611686018427387904:=by omega
 have hnb:(b.natAbs:Int)<=4611686018427387904:=by omega
 have k0:w.cell? ⟨g,3,none⟩=some (.int .u64 (XJ N:Int)):=hw.cell 3
 have k1:w.cell? ⟨g,4,none⟩=some (.int .u64 (X6 N:Int)):=hw.cell 4
 have k2:w.cell? ⟨g,5,none⟩=some (.int .u64 (Wy N:Int)):=hw.cell 5
 have f0:=hw.frozen 3
 have f1:=hw.frozen 4
 have f2:=hw.frozen 5
 have HW:=Lib.hid hw
 clear hm ha hb h hw
 go_enter Tryz.func192,Tryz.ntmps192
 go_wp2_with (first
  | (go_at_call 249;refine(JO _ _ (by first|exact HA.out|exact HB.out)).mono ?_;rintro e w' ⟨rfl,rfl⟩)
  | (go_at_call 248;refine(HM.out _).mono ?_;rintro e w' ⟨rfl,rfl⟩))
 have i0:=a6p
 have i1:=a8o
 have i2:=b0x
 refine wp_loop_rounds 4 ?_
 rw[rounds_succ]
 go_wp2
 go_region
 all_goals go_wp2
 all_goals rw[rounds_succ]
 all_goals go_wp2
 all_goals go_region
 all_goals go_wp2
 all_goals rw[rounds_succ]
 all_goals go_wp2
 all_goals go_region
 all_goals go_wp2
 all_goals rw[rounds_succ]
 all_goals go_wp2
 go_end0
 refine⟨rfl,?_,?_⟩
 ·have h:=((HW.out.set_ 3 (.int .u64 (XJ Q:Int))).set_ 4 (.int .u64 (X6 Q:Int))).set_ 5 (.int .u64 (Wy Q:Int))
  rw[b0i]at h
  exact h.drew.drew.drew
 ·exact V5 (V5 (V5 (XO (p:=⟨g,5,none⟩) (XO (p:=⟨g,4,none⟩) (XO (p:=⟨g,3,none⟩) (Tg w (some g)) (.inl rfl) _) (.inl rfl) _) (.inl rfl) _)))
end Go.Proofs.YtjfgiaooglnomaaGreatDoor
namespace Go.Proofs.YtjfgiaooglnomaaGreatDoor
open Go.RowKit
def Pk:Array Value->Sem Value:=fun args=>do
 let (x,y,b) <- Extern.MathBitsCarry.three "Sub64" args
 pure (Extern.MathBitsCarry.pair ((x+Extern.MathBitsCarry.m64 - y - b) % Extern.MathBitsCarry.m64) (if x<y+b then 1 else 0))
theorem R6{P:Program}(x y b:Nat)(hb:b<=1)(w:World):
  (Pk #[.int .u64 x,.int .u64 y,.int .u64 b]).run P w =
   .ok (.tuple #[.int .u64 (((x+18446744073709551616 - y - b) % 18446744073709551616:Nat):Int),.int .u64 ((if x<y+b then 1 else 0:Nat):Int)]) w:=by
 have:b=0∨b=1:=by omega
 rcases this with rfl|rfl <;> rfl
theorem Fh(x y b:Nat)(hb:b<=1)(w:World):
  (callFunc 252 #[.int .u64 x,.int .u64 y,.int .u64 b]).run Tryz.prog w =
   .ok (.value (.tuple #[.int .u64 (((x+18446744073709551616 - y - b) % 18446744073709551616:Nat):Int),.int .u64 ((if x<y+b then 1 else 0:Nat):Int)])) w:=by
 rw[run_callFunc_extern Tryz.func252 (by kernel_rfl) (by kernel_rfl) (by kernel_rfl) (e:=Pk) (by kernel_rfl),R6 x y b hb]
 rfl
theorem Ap(A B:Nat)(hA:A<6277101735386680763835789423207666416102355444464034512896)(hB:B<6277101735386680763835789423207666416102355444464034512896):
  ∃ d0 d1 d2 c0 c1 c2:Nat,
   (∀ w,(callFunc 252 #[.int .u64 (XJ A:Int),.int .u64 (XJ B:Int),.int .u64 0]).run Tryz.prog w = .ok (.value (.tuple #[.int .u64 (d0:Int),.int .u64 (c0:Int)])) w) ∧
   (∀ w,(callFunc 252 #[.int .u64 (X6 A:Int),.int .u64 (X6 B:Int),.int .u64 (c0:Int)]).run Tryz.prog w = .ok (.value (.tuple #[.int .u64 (d1:Int),.int .u64 (c1:Int)])) w) ∧
   (∀ w,(callFunc 252 #[.int .u64 (Wy A:Int),.int .u64 (Wy B:Int),.int .u64 (c1:Int)]).run Tryz.prog w = .ok (.value (.tuple #[.int .u64 (d2:Int),.int .u64 (c2:Int)])) w) ∧
   ((B<=A∧c2=0∧d0=XJ (A - B)∧d1=X6 (A - B)∧d2=Wy (A - B))∨(A<B∧c2=1)):=by
 have e1:=fun c (hc:c<=1) w=>Fh (XJ A) (XJ B) c hc w
 have e2:=fun c (hc:c<=1) w=>Fh (X6 A) (X6 B) c hc w
 have e3:=fun c (hc:c<=1) w=>Fh (Wy A) (Wy B) c hc w
 have q0:(if XJ A<XJ B+0 then 1 else 0)<=1:=by split <;> omega
 generalize h0:(if XJ A<XJ B+0 then 1 else 0)=c0 at q0
 have q1:(if X6 A<X6 B+c0 then 1 else 0)<=1:=by split <;> omega
 generalize h1:(if X6 A<X6 B+c0 then 1 else 0)=c1 at q1
 generalize h2:(if Wy A<Wy B+c1 then 1 else 0)=c2
 refine⟨(XJ A+18446744073709551616 - XJ B - 0) % 18446744073709551616,(X6 A+18446744073709551616 - X6 B - c0) % 18446744073709551616,(Wy A+18446744073709551616 - Wy B - c1) % 18446744073709551616,c0,c1,c2,fun w=> ?_,fun w=> ?_,fun w=> ?_,?_⟩
 ·rw[<- h0];exact e1 0 (by omega) w
 ·rw[<- h1];exact e2 c0 q0 w
 ·rw[<- h2];exact e3 c1 q1 w
 ·clear e1 e2 e3
  unfold XJ at h0
  unfold X6 at h1
  unfold Wy at h2
  by_cases hle:B<=A
  ·refine .inl ⟨hle,?_⟩
   unfold XJ X6 Wy
   split at h0 <;> split at h1 <;> split at h2 <;> omega
  ·refine .inr ⟨by omega,?_⟩
   split at h0 <;> split at h1 <;> split at h2 <;> omega
set_option maxRecDepth 20000 in
set_option maxHeartbeats 1000000 in
theorem Sb(A B:Nat)(d0 d1 d2 c0 c1 c2:Nat)(w:World)
  (r0 : ∀ w,(callFunc 252 #[.int .u64 (XJ A:Int),.int .u64 (XJ B:Int),.int .u64 0]).run Tryz.prog w = .ok (.value (.tuple #[.int .u64 (d0:Int),.int .u64 (c0:Int)])) w)
  (r1 : ∀ w,(callFunc 252 #[.int .u64 (X6 A:Int),.int .u64 (X6 B:Int),.int .u64 (c0:Int)]).run Tryz.prog w = .ok (.value (.tuple #[.int .u64 (d1:Int),.int .u64 (c1:Int)])) w)
  (r2 : ∀ w,(callFunc 252 #[.int .u64 (Wy A:Int),.int .u64 (Wy B:Int),.int .u64 (c1:Int)]).run Tryz.prog w = .ok (.value (.tuple #[.int .u64 (d2:Int),.int .u64 (c2:Int)])) w) :
  Calls Tryz.prog 251 #[.agg #[.int .u64 (XJ A:Int),.int .u64 (X6 A:Int),.int .u64 (Wy A:Int)],.agg #[.int .u64 (XJ B:Int),.int .u64 (X6 B:Int),.int .u64 (Wy B:Int)]] w fun e w'=>e = .returned (.tuple #[.agg #[.int .u64 (d0:Int),.int .u64 (d1:Int),.int .u64 (d2:Int)],.bool ((c2:Int)==0)])∧Below w.heap.size w w':=by
 go_enter Tryz.func251,Tryz.ntmps251
 go_wp2
 refine wp_loop_rounds 4 ?_
 rw[rounds_succ]
 go_wp2
 go_region
 all_goals go_wp2
 all_goals rw[rounds_succ]
 all_goals go_wp2
 all_goals go_region
 all_goals go_wp2
 all_goals rw[rounds_succ]
 all_goals go_wp2
 all_goals go_region
 all_goals go_wp2
 all_goals rw[rounds_succ]
 all_goals go_wp2
 all_goals exact bodyPost_ret (v:=.tuple #[.agg #[.int .u64 (d0:Int),.int .u64 (d1:Int),.int .u64 (d2:Int)],.bool ((c2:Int)==0)]) (by simp[results,Tryz.results251,go_sem]) rfl ⟨rfl,(((((Below.refl _ _).alloc (Nat.le_refl _) _).alloc (by simp) _).alloc (by simp;omega) _).alloc (by simp;omega) _).drew.drew.drew⟩
theorem EQ(A B:Nat)(hA:A<6277101735386680763835789423207666416102355444464034512896)(hB:B<6277101735386680763835789423207666416102355444464034512896)(h:B<=A)(w:World):
  Calls Tryz.prog 251 #[.agg #[.int .u64 (XJ A:Int),.int .u64 (X6 A:Int),.int .u64 (Wy A:Int)],.agg #[.int .u64 (XJ B:Int),.int .u64 (X6 B:Int),.int .u64 (Wy B:Int)]] w fun e w'=>e = .returned (.tuple #[.agg #[.int .u64 (XJ (A - B):Int),.int .u64 (X6 (A - B):Int),.int .u64 (Wy (A - B):Int)],.bool true])∧Below w.heap.size w w':=by
 obtain⟨d0,d1,d2,c0,c1,c2,r0,r1,r2,hc⟩:=Ap A B hA hB
 rcases hc with ⟨-,rfl,rfl,rfl,rfl⟩|⟨h1,-⟩
 ·exact Sb A B _ _ _ _ _ _ w r0 r1 r2
 ·omega
theorem b2q(x0 x1:Value)(w:World):(Instr.index 267 (.agg #[x0,x1]) (.int .i64 0)).run Tryz.prog w = .ok x0 w:=by kernel_rfl
theorem c1y(x0 x1:Value)(w:World):(Instr.index 267 (.agg #[x0,x1]) (.int .i64 1)).run Tryz.prog w = .ok x1 w:=by kernel_rfl
theorem D8(d:Nat)(hd:d<6277101735386680763835789423207666416102355444464034512896):
  (d<=4611686018427387904∧X6 d=0∧Wy d=0∧XJ d<=4611686018427387904∧XJ d=d) ∨
  (4611686018427387904<d∧0<X6 d) ∨
  (4611686018427387904<d∧X6 d=0∧0<Wy d) ∨
  (4611686018427387904<d∧X6 d=0∧Wy d=0∧4611686018427387904<XJ d):=by
 by_cases h1:0<X6 d
 ·by_cases hle:d<=4611686018427387904
  ·exfalso;unfold X6 at h1;omega
  ·exact .inr (.inl ⟨by omega,h1⟩)
 ·have e1:X6 d=0:=by omega
  by_cases h2:0<Wy d
  ·by_cases hle:d<=4611686018427387904
   ·exfalso;unfold Wy at h2;omega
   ·exact .inr (.inr (.inl ⟨by omega,e1,h2⟩))
  ·have e2:Wy d=0:=by omega
   by_cases h0:4611686018427387904<XJ d
   ·refine .inr (.inr (.inr ⟨?_,e1,e2,h0⟩))
    unfold XJ at h0;omega
   ·refine .inl ⟨?_,e1,e2,by omega,?_⟩ <;> (unfold XJ at *;unfold X6 at h1;unfold Wy at h2;omega)
theorem Hg(n:Int)(h:rng n=false):vR n=0∧eR n=2:=by simp[vR,eR,h]
def b0e(w:World)(x y z:Value)(q:Bool)(s7 s8:Value)(wx:World):Prop:=
 ∃ b:Nat,s7 = .pointer (some ⟨b,0,none⟩)∧s8 = .bool q∧wx.cell? ⟨b,0,none⟩=some x∧wx.cell? ⟨b,1,none⟩=some y∧wx.cell? ⟨b,2,none⟩=some z∧Below w.heap.size w wx
theorem QH{w w1:World}(t:TypeId)(x y z:Value)(q:Bool)(hb:Below w.drew.heap.size w.drew w1):
  b0e w x y z q (.pointer (some ⟨w1.heap.size,0,none⟩)) (.bool q) (w1.alloc (.cells #[x,y,z] t)):=
 ⟨_,rfl,rfl,(UT.new _ _ _).cell 0,(UT.new _ _ _).cell 1,(UT.new _ _ _).cell 2,(((Below.refl w.heap.size w).drew).trans hb).alloc hb.size _⟩
theorem KY{w w1:World}(t:TypeId)(x y z a b c:Value)(q:Bool)(hb:Below (w.alloc (.cells #[a,b,c] t)).drew.heap.size (w.alloc (.cells #[a,b,c] t)).drew w1):
  b0e w x y z q (.pointer (some ⟨w.heap.size,0,none⟩)) (.bool q) (((w1.setCell ⟨w.heap.size,0,none⟩ x).setCell ⟨w.heap.size,1,none⟩ y).setCell ⟨w.heap.size,2,none⟩ z):=by
 have hs:(w.alloc (.cells #[a,b,c] t)).drew.heap.size=w.heap.size+1:=World.size_alloc w _
 have h:=(((((UT.new w t #[a,b,c]).drew).below hb (by rw[hs];omega)).set_ 0 x).set_ 1 y).set_ 2 z
 refine⟨_,rfl,rfl,(h.cell 0).trans (by simp),(h.cell 1).trans (by simp),(h.cell 2).trans (by simp),?_⟩
 exact((((((Below.refl w.heap.size w).alloc (Nat.le_refl _) _).drew).trans (hb.mono (by rw[hs];omega))).setCell (p:=⟨w.heap.size,0,none⟩) (Nat.le_refl _) x).setCell (p:=⟨w.heap.size,1,none⟩) (Nat.le_refl _) y).setCell (p:=⟨w.heap.size,2,none⟩) (Nat.le_refl _) z
set_option maxRecDepth 20000 in
set_option maxHeartbeats 2000000 in
theorem b2l(g P N d:Nat)(w:World)(hw:UT w g 223 (QV P N))(hd:d<6277101735386680763835789423207666416102355444464034512896)
  (hH : ∀ w,Calls Tryz.prog 251 #[.agg #[.int .u64 (XJ P:Int),.int .u64 (X6 P:Int),.int .u64 (Wy P:Int)],.agg #[.int .u64 (XJ N:Int),.int .u64 (X6 N:Int),.int .u64 (Wy N:Int)]] w fun e w'=>e = .returned (.tuple #[.agg #[.int .u64 (XJ d:Int),.int .u64 (X6 d:Int),.int .u64 (Wy d:Int)],.bool true])∧Below w.heap.size w w') :
  Calls Tryz.prog 193 #[.pointer (some ⟨g,0,none⟩)] w fun e w'=>e = .returned (.tuple #[.int .i64 (vR d),.int .i64 (eR d)])∧Below w.heap.size w w':=by
 have k0:w.cell? ⟨g,0,none⟩=some (.int .u64 (XJ P:Int)):=hw.cell 0
 have k1:w.cell? ⟨g,1,none⟩=some (.int .u64 (X6 P:Int)):=hw.cell 1
 have k2:w.cell? ⟨g,2,none⟩=some (.int .u64 (Wy P:Int)):=hw.cell 2
 have k3:w.cell? ⟨g,3,none⟩=some (.int .u64 (XJ N:Int)):=hw.cell 3
 have k4:w.cell? ⟨g,4,none⟩=some (.int .u64 (X6 N:Int)):=hw.cell 4
 have k5:w.cell? ⟨g,5,none⟩=some (.int .u64 (Wy N:Int)):=hw.cell 5
 have hlt:=hw.lt
 have i0:=b2q
 have n0:=World.new_ne w _ k0
 have hwr:IntKind.i64.wrap 1=1:=IntWalk.i64_in _ (by omega)
 have H:=Lib.hid hH
 have HC:=Lib.hid (D8 d hd)
 clear hw hH hd
 go_enter Tryz.func193,Tryz.ntmps193
 go_wp2
 refine wp_loop_rounds 3 ?_
 rw[rounds_succ]
 go_upto_region 5 with fail
 go_cut [7,8] (fun s7 s8 wx=>b0e w (.int .u64 (XJ d:Int)) (.int .u64 (X6 d:Int)) (.int .u64 (Wy d:Int)) true s7 s8 wx)
 case first=>
  go_region_held3 (fun w'=>w'.cell? ⟨g,0,none⟩=some (.int .u64 (XJ P:Int))∧w'.cell? ⟨g,1,none⟩=some (.int .u64 (X6 P:Int))∧w'.cell? ⟨g,2,none⟩=some (.int .u64 (Wy P:Int))∧w'.cell? ⟨g,3,none⟩=some (.int .u64 (XJ N:Int))∧w'.cell? ⟨g,4,none⟩=some (.int .u64 (X6 N:Int))∧w'.cell? ⟨g,5,none⟩=some (.int .u64 (Wy N:Int)))
   (first|go_keep|(refine⟨?_,?_,?_,?_,?_,?_⟩ <;> (refine(hb.cell (by simp;omega)).trans ?_;simp[*]))|(refine⟨?_,?_,?_,?_,?_,?_⟩ <;> (refine(World.cell?_alloc_lt _ _ _ (Nat.lt_of_lt_of_le hlt hb.size)).trans ?_;refine(hb.cell (by simp;omega)).trans ?_;simp[*])))
   (first|(go_at_call 251;refine(H.out _).mono ?_;rintro e w1 ⟨rfl,hb⟩;obtain⟨hc,hf⟩:=a4f hb;have hz:=hb.size;(try simp only[World.size_alloc]at hz)))
  all_goals go_wp2_with fail
  all_goals go_meet
  all_goals first|exact QH _ _ _ _ _ hb|exact KY _ _ _ _ _ _ _ _ hb
 case rest=>
  obtain⟨b,rfl,rfl,h0,h1,h2,hbl⟩:=hcut
  rcases HC.out with ⟨hin,t1,t2,t3,hd0⟩|⟨hout,t1⟩|⟨hout,t1,t2⟩|⟨hout,t1,t2,t3⟩
  ·have HR:=Lib.hid hd0
   have hb1:(XJ d:Int)<=4611686018427387904:=by omega
   clear hin hd0 HC
   go_wp2_with (go_at_call 253;refine(GK _ _).mono ?_;rintro e w2 ⟨rfl,hb2⟩)
   go_ret2
   exact⟨Y9 (by rw[HR.out]) (by rw[HR.out]),hbl.trans (hb2.mono hbl.size)⟩
  ·have HR:=Lib.hid (Hg d (VY (by omega)))
   clear hout HC
   go_wp2
   all_goals go_ret2
   all_goals exact⟨Y9 HR.out.1.symm HR.out.2.symm,hbl⟩
  ·have HR:=Lib.hid (Hg d (VY (by omega)))
   clear hout HC
   go_wp2
   all_goals go_ret2
   all_goals exact⟨Y9 HR.out.1.symm HR.out.2.symm,hbl⟩
  ·have HR:=Lib.hid (Hg d (VY (by omega)))
   clear hout HC
   go_wp2
   all_goals go_ret2
   all_goals exact⟨Y9 HR.out.1.symm HR.out.2.symm,hbl⟩
end Go.Proofs.YtjfgiaooglnomaaGreatDoor
namespace Go.Proofs.YtjfgiaooglnomaaGreatDoor
open Go.RowKit
set_option maxRecDepth 20000 in
set_option maxHeartbeats 2000000 in
theorem a6k(g P N d:Nat)(w:World)(hw:UT w g 223 (QV P N))(hd:d<6277101735386680763835789423207666416102355444464034512896)
  (d0 d1 d2:Nat)
  (hF : ∀ w,Calls Tryz.prog 251 #[.agg #[.int .u64 (XJ P:Int),.int .u64 (X6 P:Int),.int .u64 (Wy P:Int)],.agg #[.int .u64 (XJ N:Int),.int .u64 (X6 N:Int),.int .u64 (Wy N:Int)]] w fun e w'=>e = .returned (.tuple #[.agg #[.int .u64 (d0:Int),.int .u64 (d1:Int),.int .u64 (d2:Int)],.bool false])∧Below w.heap.size w w')
  (hH : ∀ w,Calls Tryz.prog 251 #[.agg #[.int .u64 (XJ N:Int),.int .u64 (X6 N:Int),.int .u64 (Wy N:Int)],.agg #[.int .u64 (XJ P:Int),.int .u64 (X6 P:Int),.int .u64 (Wy P:Int)]] w fun e w'=>e = .returned (.tuple #[.agg #[.int .u64 (XJ d:Int),.int .u64 (X6 d:Int),.int .u64 (Wy d:Int)],.bool true])∧Below w.heap.size w w') :
  Calls Tryz.prog 193 #[.pointer (some ⟨g,0,none⟩)] w fun e w'=>e = .returned (.tuple #[.int .i64 (vR (-d)),.int .i64 (eR (-d))])∧Below w.heap.size w w':=by
 have k0:w.cell? ⟨g,0,none⟩=some (.int .u64 (XJ P:Int)):=hw.cell 0
 have k1:w.cell? ⟨g,1,none⟩=some (.int .u64 (X6 P:Int)):=hw.cell 1
 have k2:w.cell? ⟨g,2,none⟩=some (.int .u64 (Wy P:Int)):=hw.cell 2
 have k3:w.cell? ⟨g,3,none⟩=some (.int .u64 (XJ N:Int)):=hw.cell 3
 have k4:w.cell? ⟨g,4,none⟩=some (.int .u64 (X6 N:Int)):=hw.cell 4
 have k5:w.cell? ⟨g,5,none⟩=some (.int .u64 (Wy N:Int)):=hw.cell 5
 have hlt:=hw.lt
 have i0:=b2q
 have i1:=c1y
 have n0:=World.new_ne w _ k0
 have hwr:IntKind.i64.wrap 1=1:=IntWalk.i64_in _ (by omega)
 have hwr0:IntKind.i64.wrap 0=0:=IntWalk.i64_in _ (by omega)
 have H:=Lib.hid hH
 have F:=Lib.hid hF
 have HC:=Lib.hid (D8 d hd)
 clear hw hH hF hd
 go_enter Tryz.func193,Tryz.ntmps193
 go_wp2
 refine wp_loop_rounds 3 ?_
 rw[rounds_succ]
 go_upto_region 5 with fail
 go_cut [7,8] (fun s7 s8 wx=>b0e w (.int .u64 (d0:Int)) (.int .u64 (d1:Int)) (.int .u64 (d2:Int)) false s7 s8 wx)
 case first=>
  go_region_held3 (fun w'=>w'.cell? ⟨g,0,none⟩=some (.int .u64 (XJ P:Int))∧w'.cell? ⟨g,1,none⟩=some (.int .u64 (X6 P:Int))∧w'.cell? ⟨g,2,none⟩=some (.int .u64 (Wy P:Int))∧w'.cell? ⟨g,3,none⟩=some (.int .u64 (XJ N:Int))∧w'.cell? ⟨g,4,none⟩=some (.int .u64 (X6 N:Int))∧w'.cell? ⟨g,5,none⟩=some (.int .u64 (Wy N:Int)))
   (first|go_keep|(refine⟨?_,?_,?_,?_,?_,?_⟩ <;> (refine(hb.cell (by simp;omega)).trans ?_;simp[*]))|(refine⟨?_,?_,?_,?_,?_,?_⟩ <;> (refine(World.cell?_alloc_lt _ _ _ (Nat.lt_of_lt_of_le hlt hb.size)).trans ?_;refine(hb.cell (by simp;omega)).trans ?_;simp[*])))
   (first|(go_at_call 251;refine(F.out _).mono ?_;rintro e w1 ⟨rfl,hb⟩;obtain⟨hc,hf⟩:=a4f hb;have hz:=hb.size;(try simp only[World.size_alloc]at hz)))
  all_goals go_wp2_with fail
  all_goals go_meet
  all_goals first|exact QH _ _ _ _ _ hb|exact KY _ _ _ _ _ _ _ _ hb
 case rest=>
  obtain⟨b,rfl,rfl,-,-,-,hbl⟩:=hcut
  obtain⟨wq,rfl⟩ : ∃ wq:World,wq=wc:=⟨_,rfl⟩
  have hlq:g<wq.heap.size:=Nat.lt_of_lt_of_le hlt hbl.size
  have q0:=(hbl.cell (p:=⟨g,0,none⟩) hlt).trans k0
  have q1:=(hbl.cell (p:=⟨g,1,none⟩) hlt).trans k1
  have q2:=(hbl.cell (p:=⟨g,2,none⟩) hlt).trans k2
  have q3:=(hbl.cell (p:=⟨g,3,none⟩) hlt).trans k3
  have q4:=(hbl.cell (p:=⟨g,4,none⟩) hlt).trans k4
  have q5:=(hbl.cell (p:=⟨g,5,none⟩) hlt).trans k5
  have n1:=World.new_ne wq _ q0
  have HBL:=Lib.hid hbl
  clear k0 k1 k2 k3 k4 k5 hlt n0 F hbl
  go_wp2
  rw[rounds_succ]
  go_upto_region 5 with fail
  go_cut [7,8] (fun s7 s8 wx=>b0e wq (.int .u64 (XJ d:Int)) (.int .u64 (X6 d:Int)) (.int .u64 (Wy d:Int)) true s7 s8 wx)
  case first=>
   go_region_held3 (fun w'=>w'.cell? ⟨g,0,none⟩=some (.int .u64 (XJ P:Int))∧w'.cell? ⟨g,1,none⟩=some (.int .u64 (X6 P:Int))∧w'.cell? ⟨g,2,none⟩=some (.int .u64 (Wy P:Int))∧w'.cell? ⟨g,3,none⟩=some (.int .u64 (XJ N:Int))∧w'.cell? ⟨g,4,none⟩=some (.int .u64 (X6 N:Int))∧w'.cell? ⟨g,5,none⟩=some (.int .u64 (Wy N:Int)))
    (first|go_keep|(refine⟨?_,?_,?_,?_,?_,?_⟩ <;> (refine(hb.cell (by simp;omega)).trans ?_;simp[*]))|(refine⟨?_,?_,?_,?_,?_,?_⟩ <;> (refine(World.cell?_alloc_lt _ _ _ (Nat.lt_of_lt_of_le hlq hb.size)).trans ?_;refine(hb.cell (by simp;omega)).trans ?_;simp[*])))
    (first|(go_at_call 251;refine(H.out _).mono ?_;rintro e w1 ⟨rfl,hb⟩;obtain⟨hc,hf⟩:=a4f hb;have hz:=hb.size;(try simp only[World.size_alloc]at hz)))
   all_goals go_wp2_with fail
   all_goals go_meet
   all_goals first|exact QH _ _ _ _ _ hb|exact KY _ _ _ _ _ _ _ _ hb
  case rest=>
   obtain⟨b,rfl,rfl,h0,h1,h2,hb2l⟩:=hcut
   have hbl:=HBL.out.trans (hb2l.mono HBL.out.size)
   rcases HC.out with ⟨hin,t1,t2,t3,hd0⟩|⟨hout,t1⟩|⟨hout,t1,t2⟩|⟨hout,t1,t2,t3⟩
   ·have HR:=Lib.hid (show((XJ d:Nat):Int)=d by rw[hd0])
    have hb1:(XJ d:Int)<=4611686018427387904:=by omega
    clear hin hd0 HC
    go_wp2_with (go_at_call 253;refine(GK _ _).mono ?_;rintro e w2 ⟨rfl,hb2⟩)
    go_ret2
    exact⟨Y9 (by first|rw[HR.out]|(rw[<- HR.out];simp)) (by first|rw[HR.out]|(rw[<- HR.out];simp)),hbl.trans (hb2.mono hbl.size)⟩
   ·have HR:=Lib.hid (Hg (-d) (VY (by omega)))
    clear hout HC
    go_wp2
    all_goals go_ret2
    all_goals exact⟨Y9 HR.out.1.symm HR.out.2.symm,hbl⟩
   ·have HR:=Lib.hid (Hg (-d) (VY (by omega)))
    clear hout HC
    go_wp2
    all_goals go_ret2
    all_goals exact⟨Y9 HR.out.1.symm HR.out.2.symm,hbl⟩
   ·have HR:=Lib.hid (Hg (-d) (VY (by omega)))
    clear hout HC
    go_wp2
    all_goals go_ret2
    all_goals exact⟨Y9 HR.out.1.symm HR.out.2.symm,hbl⟩
theorem DJ(g P N:Nat)(w:World)(hP:P<6277101735386680763835789423207666416102355444464034512896)(hN:N<6277101735386680763835789423207666416102355444464034512896)
  (hw:UT w g 223 (QV P N)) :
  Calls Tryz.prog 193 #[.pointer (some ⟨g,0,none⟩)] w fun e w'=>e = .returned (.tuple #[.int .i64 (vR ((P:Int) - N)),.int .i64 (eR ((P:Int) - N))])∧Below w.heap.size w w':=by
 by_cases h:N<=P
 ·have e:(P:Int) - N=((P - N:Nat):Int):=by omega
  rw[e]
  exact b2l g P N (P - N) w hw (by omega) (fun w=>EQ P N hP hN h w)
 ·have e:(P:Int) - N = -((N - P:Nat):Int):=by omega
  rw[e]
  obtain⟨d0,d1,d2,r0⟩ : ∃ d0 d1 d2:Nat,∀ w,Calls Tryz.prog 251 #[.agg #[.int .u64 (XJ P:Int),.int .u64 (X6 P:Int),.int .u64 (Wy P:Int)],.agg #[.int .u64 (XJ N:Int),.int .u64 (X6 N:Int),.int .u64 (Wy N:Int)]] w fun e w'=>e = .returned (.tuple #[.agg #[.int .u64 (d0:Int),.int .u64 (d1:Int),.int .u64 (d2:Int)],.bool false])∧Below w.heap.size w w':=by
   obtain⟨d0,d1,d2,c0,c1,c2,r0,r1,r2,hc⟩:=Ap P N hP hN
   rcases hc with ⟨h1,-⟩|⟨-,rfl⟩
   ·omega
   ·exact⟨d0,d1,d2,fun w=>Sb P N _ _ _ _ _ _ w r0 r1 r2⟩
  exact a6k g P N (N - P) w hw (by omega) d0 d1 d2 r0 (fun w=>EQ N P hN hP (by omega) w)
end Go.Proofs.YtjfgiaooglnomaaGreatDoor
namespace Go.Proofs.YtjfgiaooglnomaaGreatDoor
open Go.RowKit
theorem Nk(g P N:Nat)(a b:Int)(w:World)(ha : -4611686018427387904<=a∧a<=4611686018427387904)(hb : -4611686018427387904<=b∧b<=4611686018427387904)
  (h:P+N+a.natAbs*b.natAbs<6277101735386680763835789423207666416102355444464034512896) (hw:UT w g 223 (QV P N)) :
  Calls Tryz.prog 192 #[.pointer (some ⟨g,0,none⟩),.int .i64 a,.int .i64 b] w fun e w'=>e = .returned (.tuple #[]) ∧
   ∃ P' N':Nat,UT w' g 223 (QV P' N')∧Hid ((P':Int) - N'=(P:Int) - N+a*b)∧Hid (P'+N'=P+N+a.natAbs*b.natAbs)∧w.grownBy w' (some g):=by
 cases hs:(!decide (a<0)==decide (b<0))
 ·refine(a1l g P N a b w ha hb (by omega) hs hw).mono ?_
  rintro e w' ⟨rfl,h1,h2⟩
  refine⟨rfl,_,_,h1,Lib.hid ?_,Lib.hid (by omega),h2⟩
  rw[KI a b hs]
  omega
 ·refine(a0h g P N a b w ha hb (by omega) hs hw).mono ?_
  rintro e w' ⟨rfl,h1,h2⟩
  refine⟨rfl,_,_,h1,Lib.hid ?_,Lib.hid (by omega),h2⟩
  rw[KH a b hs]
  omega
def OW:List Int->List Int->Int
 | a::l,b::m=>a*b+OW l m
 | _,_=>0
theorem a5q(k:Nat)(xs ys:List Int)(x y:Int)(hx:xs[k]? = some x)(hy:ys[k]? = some y):OW (xs.take (k+1)) (ys.take (k+1))=OW (xs.take k) (ys.take k)+x*y:=by
 induction k generalizing xs ys with
 | zero=>
  cases xs <;> cases ys <;> simp_all[OW]
 | succ k ih=>
  cases xs with
  | nil=>simp at hx
  | cons a l=>
   cases ys with
   | nil=>simp at hy
   | cons b m=>
    have:=ih l m (by simpa using hx) (by simpa using hy)
    simp only[List.take_succ_cons,OW]at this ⊢
    rw[this]
    omega
theorem a6z(k:Nat)(zs:List Int)(x:Int)(hx:zs[k]? = some x):(zs.take (k+1)).sum=(zs.take k).sum+x:=by
 have hk:k<zs.length:=(List.getElem?_eq_some_iff.1 hx).1
 have e:zs[k]=x:=by rw[List.getElem?_eq_getElem hk]at hx;exact Option.some.inj hx
 rw[List.take_succ_eq_append_getElem hk,List.sum_append,e]
 simp
def MZ(zs:List Int):Int:=bif zs.all rng then vR zs.sum else 0
def L6(zs:List Int):Int:=bif zs.all rng then eR zs.sum else 2
theorem F3{zs:List Int}(h:zs.all rng=true){k:Nat}{x:Int}(hx:zs[k]? = some x): -4611686018427387904<=x∧x<=4611686018427387904:=
 Rf (List.all_eq_true.1 h x (List.mem_of_getElem? hx))
theorem Di{a b:Int}(ha : -4611686018427387904<=a∧a<=4611686018427387904)(hb : -4611686018427387904<=b∧b<=4611686018427387904):a.natAbs*b.natAbs<=21267647932558653966460912964485513216:=by
 have:=Nat.mul_le_mul (show a.natAbs<=4611686018427387904 by omega) (show b.natAbs<=4611686018427387904 by omega)
 omega
set_option maxRecDepth 20000 in
set_option maxHeartbeats 1000000 in
theorem b5c(A:Option Addr)(n c:Nat)(zs:List Int)(w:World)(hr:YQ w w.heap.size 1 A n (zs.map (Value.int .i64)))(hn:n<=10000):
  Calls Tryz.prog 190 #[.slice A n c] w fun e w'=>e = .returned (.tuple #[.int .i64 (MZ zs),.int .i64 (L6 zs)])∧Below w.heap.size w w':=by
 have H1:=Lib.hid (DY A n c zs w w.heap.size hr (by omega))
 have hlen:=Lib.hid (show zs.length=n by have:=hr.1;simpa using this)
 cases ha:zs.all rng
 ·have he:L6 zs=2:=by simp only[L6,ha,cond_false]
  have hv:MZ zs=0:=by simp only[MZ,ha,cond_false]
  rw[ha]at H1
  rw[he,hv]
  clear he hv ha
  go_enter Tryz.func190,Tryz.ntmps190
  go_wp2_with (go_at_call 191;refine H1.out.mono ?_;rintro e w' ⟨rfl,rfl⟩)
  go_ret2
  exact⟨rfl,Below.refl _ _⟩
 ·have he:L6 zs=eR zs.sum:=by simp only[L6,ha,cond_true]
  have hv:MZ zs=vR zs.sum:=by simp only[MZ,ha,cond_true]
  rw[ha]at H1
  rw[he,hv]
  have HA:=Lib.hid ha
  clear he hv ha
  go_enter Tryz.func190,Tryz.ntmps190
  go_wp2_with (go_at_call 191;refine H1.out.mono ?_;rintro e w' ⟨rfl,rfl⟩)
  go_loopw [15] (fun i wr=> ∃ k P N:Nat,k<=n∧i = .int .i64 k∧UT wr w.heap.size 223 (QV P N)∧Hid ((P:Int) - N=(zs.take k).sum)∧Hid (P+N<=k*21267647932558653966460912964485513216)∧Below w.heap.size w wr) (fun i _=>n - (intOf i).toNat)
  case atStart=>exact⟨0,0,0,Nat.zero_le _,rfl,UT.new _ _ _,Lib.hid (by simp),Lib.hid (by omega),(Below.refl _ _).alloc (Nat.le_refl _) _⟩
  case round=>
   obtain⟨k,P,N,hk,rfl,hblk,hs,hbd,hbl⟩:=hrel
   by_cases hlt:k<n
   ·obtain⟨ad,u,rfl,hB,hu,hc⟩:=(hr.below hbl).at_ hlt
    rw[List.getElem?_map]at hu
    obtain⟨x,hx,rfl⟩:=Option.map_eq_some_iff.1 hu
    have hxr:=F3 HA.out hx
    have HC:=Lib.hid (Nk w.heap.size P N x 1 wr hxr (by omega) (by have:=hbd.out;have h2:=Di hxr (b:=1) (by omega);omega) hblk)
    have HX:=Lib.hid hx
    have HP:=Lib.hid (Di hxr (b:=1) (by omega))
    clear hx hu hxr hblk
    go_wp2_with (go_at_call 192;refine HC.out.mono ?_;rintro e w' ⟨rfl,P',N',hblk',hs',hbd',hg⟩)
    go_roundw
    case rel=>exact⟨k+1,P',N',by omega,by go_num,hblk',Lib.hid (by have h1:=hs'.out;have h2:=hs.out;rw[a6z k zs x HX.out];omega),Lib.hid (by have h1:=hbd'.out;have h2:=hbd.out;have h3:=HP.out;omega),hbl.grown hg hbl.size (by rintro _ ⟨⟩;exact Nat.le_refl _)⟩
    case measure=>simp[intOf];omega
   ·have hkn:k=n:=by omega
    subst hkn
    have HT:=Lib.hid (DJ w.heap.size P N wr (by have:=hbd.out;omega) (by have:=hbd.out;omega) hblk)
    have HZ:Hid ((P:Int) - N=zs.sum):=Lib.hid (by have:=hs.out;rw[List.take_of_length_le (by rw[hlen.out];omega)]at this;exact this)
    clear hblk
    go_wp2_with (go_at_call 193;refine HT.out.mono ?_;rintro e w' ⟨rfl,hb⟩)
    go_ret2
    exact⟨Y9 (by rw[HZ.out]) (by rw[HZ.out]),hbl.trans (hb.mono hbl.size)⟩
def Bl(xs ys:List Int):Int:=bif xs.length==ys.length&&xs.all rng&&ys.all rng then vR (OW xs ys)else 0
def Cg(xs ys:List Int):Int:=bif xs.length==ys.length then(bif xs.all rng&&ys.all rng then eR (OW xs ys)else 2)else 1
set_option maxRecDepth 20000 in
set_option maxHeartbeats 1000000 in
theorem b7n(A B:Option Addr)(n m c d:Nat)(xs ys:List Int)(w:World)(hr:YQ w w.heap.size 1 A n (xs.map (Value.int .i64)))(hq:YQ w w.heap.size 1 B m (ys.map (Value.int .i64)))(hn:n<=10000)(hm:m<=10000):
  Calls Tryz.prog 126 #[.slice A n c,.slice B m d] w fun e w'=>e = .returned (.tuple #[.int .i64 (Bl xs ys),.int .i64 (Cg xs ys)])∧Below w.heap.size w w':=by
 have H1:=Lib.hid (DY A n c xs w w.heap.size hr (by omega))
 have H2:=Lib.hid (DY B m d ys w w.heap.size hq (by omega))
 have hl1:=Lib.hid (show xs.length=n by have:=hr.1;simpa using this)
 have hl2:=Lib.hid (show ys.length=m by have:=hq.1;simpa using this)
 by_cases hnm:n=m
 ·subst hnm
  have hll:(xs.length==ys.length)=true:=by rw[hl1.out,hl2.out];simp
  have hnn:((n:Int)==n)=true:=by simp
  have hnn':((n:Int) != n)=false:=by simp
  cases ha:xs.all rng
  ·have he:Cg xs ys=2:=by simp only[Cg,hll,ha,cond_true,Bool.false_and,cond_false]
   have hv:Bl xs ys=0:=by simp only[Bl,hll,ha,Bool.and_false,Bool.false_and,cond_false]
   rw[ha]at H1
   rw[he,hv]
   clear he hv ha hll H2
   go_enter Tryz.func126,Tryz.ntmps126
   go_wp2_with (go_at_call 191;refine H1.out.mono ?_;rintro e w' ⟨rfl,rfl⟩)
   go_ret2
   exact⟨rfl,Below.refl _ _⟩
  ·cases hb:ys.all rng
   ·have he:Cg xs ys=2:=by simp only[Cg,hll,ha,hb,cond_true,Bool.and_false,cond_false]
    have hv:Bl xs ys=0:=by simp only[Bl,hll,ha,hb,Bool.and_false,cond_false]
    rw[ha]at H1
    rw[hb]at H2
    rw[he,hv]
    clear he hv ha hb hll
    go_enter Tryz.func126,Tryz.ntmps126
    go_wp2_with fail
    refine H1.out.mono ?_
    rintro e w' ⟨rfl,rfl⟩
    go_wp2_with fail
    refine H2.out.mono ?_
    rintro e w' ⟨rfl,rfl⟩
    go_wp2
    go_ret2
    exact⟨rfl,Below.refl _ _⟩
   ·have he:Cg xs ys=eR (OW xs ys):=by simp only[Cg,hll,ha,hb,cond_true,Bool.and_self]
    have hv:Bl xs ys=vR (OW xs ys):=by simp only[Bl,hll,ha,hb,cond_true,Bool.and_self]
    rw[ha]at H1
    rw[hb]at H2
    rw[he,hv]
    have HA:=Lib.hid ha
    have HB:=Lib.hid hb
    clear he hv ha hb hll
    go_enter Tryz.func126,Tryz.ntmps126
    go_wp2_with fail
    refine H1.out.mono ?_
    rintro e w' ⟨rfl,rfl⟩
    go_wp2_with fail
    refine H2.out.mono ?_
    rintro e w' ⟨rfl,rfl⟩
    go_wp2
    go_loopw [30] (fun i wr=> ∃ k P N:Nat,k<=n∧i = .int .i64 k∧UT wr w.heap.size 223 (QV P N)∧Hid ((P:Int) - N=OW (xs.take k) (ys.take k))∧Hid (P+N<=k*21267647932558653966460912964485513216)∧Below w.heap.size w wr) (fun i _=>n - (intOf i).toNat)
    case atStart=>exact⟨0,0,0,Nat.zero_le _,rfl,UT.new _ _ _,Lib.hid (by simp[OW]),Lib.hid (by omega),(Below.refl _ _).alloc (Nat.le_refl _) _⟩
    case round=>
     obtain⟨k,P,N,hk,rfl,hblk,hs,hbd,hbl⟩:=hrel
     by_cases hlt:k<n
     ·obtain⟨ad,u,rfl,hB,hu,hc⟩:=(hr.below hbl).at_ hlt
      rw[List.getElem?_map]at hu
      obtain⟨x,hx,rfl⟩:=Option.map_eq_some_iff.1 hu
      obtain⟨ae,v,rfl,hB',hv,hc'⟩:=(hq.below hbl).at_ hlt
      rw[List.getElem?_map]at hv
      obtain⟨y,hy,rfl⟩:=Option.map_eq_some_iff.1 hv
      have hxr:=F3 HA.out hx
      have hyr:=F3 HB.out hy
      have HC:=Lib.hid (Nk w.heap.size P N x y wr hxr hyr (by have:=hbd.out;have h2:=Di hxr hyr;omega) hblk)
      have HX:=Lib.hid hx
      have HY:=Lib.hid hy
      have HP:=Lib.hid (Di hxr hyr)
      clear hx hu hxr hy hv hyr hblk
      go_wp2_with (go_at_call 192;refine HC.out.mono ?_;rintro e w' ⟨rfl,P',N',hblk',hs',hbd',hg⟩)
      go_roundw
      case rel=>exact⟨k+1,P',N',by omega,by go_num,hblk',Lib.hid (by have h1:=hs'.out;have h2:=hs.out;rw[a5q k xs ys x y HX.out HY.out];omega),Lib.hid (by have h1:=hbd'.out;have h2:=hbd.out;have h3:=HP.out;omega),hbl.grown hg hbl.size (by rintro _ ⟨⟩;exact Nat.le_refl _)⟩
      case measure=>simp[intOf];omega
     ·have hkn:k=n:=by omega
      subst hkn
      have HT:=Lib.hid (DJ w.heap.size P N wr (by have:=hbd.out;omega) (by have:=hbd.out;omega) hblk)
      have HZ:Hid ((P:Int) - N=OW xs ys):=Lib.hid (by have:=hs.out;rw[List.take_of_length_le (by rw[hl1.out];omega),List.take_of_length_le (by rw[hl2.out];omega)]at this;exact this)
      clear hblk
      go_wp2_with (go_at_call 193;refine HT.out.mono ?_;rintro e w' ⟨rfl,hb⟩)
      go_ret2
      exact⟨Y9 (by rw[HZ.out]) (by rw[HZ.out]),hbl.trans (hb.mono hbl.size)⟩
 ·have hll:(xs.length==ys.length)=false:=by rw[hl1.out,hl2.out];simpa using hnm
  have he:Cg xs ys=1:=by simp only[Cg,hll,cond_false]
  have hv:Bl xs ys=0:=by simp only[Bl,hll,Bool.false_and,cond_false]
  have hnn:((n:Int)==m)=false:=by simpa using (show ¬ (n:Int)=m by omega)
  rw[he,hv]
  clear he hv hll
  go_enter Tryz.func126,Tryz.ntmps126
  go_wp2
  go_ret2
  exact⟨rfl,Below.refl _ _⟩
end Go.Proofs.YtjfgiaooglnomaaGreatDoor
namespace Go.Proofs.YtjfgiaooglnomaaGreatDoor
end Go.Proofs.YtjfgiaooglnomaaGreatDoor
namespace Go.Proofs.YtjfgiaooglnomaaGreatDoor
open Go.RowKit
end Go.Proofs.YtjfgiaooglnomaaGreatDoor
namespace Go.Proofs.YtjfgiaooglnomaaGreatDoor
open Go.RowKit
end Go.Proofs.YtjfgiaooglnomaaGreatDoor
namespace Go.Proofs.YtjfgiaooglnomaaGreatDoor
open Go.RowKit
end Go.Proofs.YtjfgiaooglnomaaGreatDoor
namespace Go.Proofs.YtjfgiaooglnomaaGreatDoor
def val:List Int->Int
 | []=>0
 | c::l=>c+2097152*val l
end Go.Proofs.YtjfgiaooglnomaaGreatDoor
namespace Go.Proofs.YtjfgiaooglnomaaGreatDoor
open Go.RowKit
def BK(L:List Int)(b:Nat):Prop:= ∀ (m:Nat) (c:Int),L[m]? = some c->c.natAbs<=b
def cellsOf(L:List Int):Array Value:=(L.map (Value.int .i64)).toArray
theorem BK.set_{L:List Int}{b b':Nat}(h:BK L b)(hb:b<=b')(m:Nat)(c:Int)(hc:c.natAbs<=b'):BK (L.set m c) b':=by
 intro j d hj
 rcases Nat.lt_or_ge j L.length with hl|hl
 ·by_cases e:m=j
  ·subst e
   rw[List.getElem?_set_self hl]at hj
   cases hj
   exact hc
  ·rw[List.getElem?_set_ne e]at hj
   exact Nat.le_trans (h j d hj) hb
 ·rw[List.getElem?_eq_none (by simpa using hl)]at hj
  cases hj
theorem BK.mono{L:List Int}{b b':Nat}(h:BK L b)(hb:b=b'):BK L b':=hb▸h
@[irreducible] def BV (k j m : Nat) : Nat := k * 39582418599936 + j * 13194139533312 + m * 4398046511104
def Dig(i:Nat)(L:List Int):Prop:= ∀ (j:Nat) (c:Int),L[j]? = some c->(j<i->0<=c∧c<=2097151)∧(j=i->c.natAbs<=9007199254740992)∧(i<j->c.natAbs<=2374945115996160)
theorem Dig.zero{L:List Int}{b:Nat}(h:BK L b)(hb:b<=2374945115996160):Dig 0 L:=by
 intro j c hc
 have:=h j c hc
 refine⟨fun h=>absurd h (by omega),fun _=>by omega,fun _=>by omega⟩
theorem Dig.step{i:Nat}{L:List Int}(h:Dig i L)(hl:L.length=8){c d:Int}(hc:L[i]? = some c)(hd:L[i+1]? = some d):Dig (i+1) ((L.set i (c - c / 2097152*2097152)).set (i+1) (d+c / 2097152)):=by
 intro j z hz
 have h1:=(h i c hc).2.1 rfl
 have h2:=(h (i+1) d hd).2.2 (by omega)
 have hi1:i+1<L.length:=(List.getElem?_eq_some_iff.1 hd).1
 by_cases ej:i+1=j
 ·subst ej
  rw[List.getElem?_set_self (by simpa using hi1)]at hz
  cases hz
  refine⟨fun h=>absurd h (by omega),fun _=>by omega,fun h=>absurd h (by omega)⟩
 ·rw[List.getElem?_set_ne ej]at hz
  by_cases ei:i=j
  ·subst ei
   rw[List.getElem?_set_self (by omega)]at hz
   cases hz
   refine⟨fun _=>by omega,fun h=>absurd h (by omega),fun h=>absurd h (by omega)⟩
  ·rw[List.getElem?_set_ne ei]at hz
   have:=h j z hz
   refine⟨fun _=>this.1 (by omega),fun h=>absurd h (by omega),fun _=>this.2.2 (by omega)⟩
end Go.Proofs.YtjfgiaooglnomaaGreatDoor
namespace Go.Proofs.YtjfgiaooglnomaaGreatDoor
open Go.RowKit
end Go.Proofs.YtjfgiaooglnomaaGreatDoor
namespace Go.Proofs.YtjfgiaooglnomaaGreatDoor
open Go.RowKit
end Go.Proofs.YtjfgiaooglnomaaGreatDoor

namespace Go.Proofs.YtjfgiaooglnomaaGreatDoor
open Go.Pl Go.RowKit
open Enc (enc dec is)
open EncL (encL decL isL)
set_option maxRecDepth 100000
theorem M0(l:List Int):flat (l.map (enc:Int->PV))=l.map enc:=by
 induction l with
 | nil=>rfl
 | cons s ss ih=>simp only[flat,List.map_cons,List.flatMap_cons]at ih ⊢;rw[ih];rfl
theorem CE{Φ:ZP}{w:World}{v:Value}{l:List Int}(hΦ:YJ Φ w)(h:RP Φ v (enc l)): ∃ A c,v = .slice A l.length c∧YQ w w.heap.size 1 A l.length (l.map (Value.int .i64)):=by
 have e:(enc l:PV) = .sl 1 false (l.map enc):=rfl
 rw[e]at h
 generalize hx:l.map (enc:Int->PV)=xs at h
 generalize hq:PV.sl 1 false xs=q at h
 cases h with
 | sl0 a c sz t h=>
  cases hq
  have:l=[]:=List.map_eq_nil_iff.1 hx
  subst this
  exact⟨a,c,rfl,by simp,fun h=>absurd h (by simp)⟩
 | sl b off cs c sz t ys u hb hc ht hs hu hr=>
  cases hq
  subst hx
  refine⟨some ⟨b,off,none⟩,c,by rw[List.length_map],by simp,fun h0=> ?_⟩
  obtain⟨T,fz,hh⟩:=hΦ b cs hb
  refine⟨_,rfl,(Array.getElem?_eq_some_iff.1 hh).1,fun j x hx=> ?_⟩
  rw[M0]at hu hr
  rw[List.getElem?_map]at hx
  obtain⟨n,hn,rfl⟩:=Option.map_eq_some_iff.1 hx
  have hp:(l.map (enc:Int->PV))[j]? = some (.int .i64 n):=by rw[List.getElem?_map,hn];rfl
  have h1:=(hu j _ hp).1
  have h2:=DL (hr j _ hp)
  rw[h2]at h1
  have ha:(⟨b,off,none⟩:Addr).add j=⟨b,off+j,none⟩:=by
   unfold Addr.add
   split
   ·rename_i h0;subst h0;rfl
   ·rfl
  rw[ha]
  simp[World.cell?,hh,h1]
 | _=>cases hq
theorem Ff{Φ:ZP}{a b:Int}:RP Φ (.tuple #[.int .i64 a,.int .i64 b]) (enc (a,b)):=by
 refine .tup _ _ rfl ?_
 intro j v x hv hx
 match j with
 | 0=>cases hv;cases hx;exact .int _ _
 | 1=>cases hv;cases hx;exact .int _ _
 | j+2=>simp at hv
theorem RG(n:Int):rng n=Ut n:=by
 unfold rng Ut
 by_cases h1 : -4611686018427387904<=n <;> by_cases h2:n<=4611686018427387904 <;> simp[h1,h2]
theorem a4r:rng=Ut:=funext RG
theorem c0q(a b:Int):(Rq a b,Rz a b)=DZ a b:=by
 unfold Rq Rz DZ
 rw[RG,RG,RG]
 cases (Ut a&&Ut b&&Ut (a*b)) <;> rfl
theorem c2f(l:List Int):(MZ l,L6 l)=Vp l:=by
 unfold MZ L6 Vp vR eR
 rw[a4r]
 cases l.all Ut <;> cases Ut l.sum <;> rfl
theorem a6f: ∀ a b:List Int,OW a b=FX a b
 | [],b=>by cases b <;> rfl
 | _::_,[]=>rfl
 | x::a,y::b=>by show x*y+OW a b=x*y+FX a b;rw[a6f]
theorem b4t(a b:List Int):(Bl a b,Cg a b)=Gd a b:=by
 unfold Bl Cg Gd vR eR
 rw[a4r,a6f]
 by_cases h:a.length=b.length
 ·have e:(a.length==b.length)=true:=beq_iff_eq.2 h
  rw[e,if_pos h]
  cases a.all Ut <;> cases b.all Ut <;> cases Ut (FX a b) <;> rfl
 ·have e:(a.length==b.length)=false:=beq_eq_false_iff_ne.2 h
  rw[e,if_neg h];rfl
theorem LZ:Zq Tryz.prog 247 (fun _:Int×Int×Unit=>true) (fun x:Int×Int×Unit=>DZ x.1 x.2.1):=Xd (by
  rintro⟨a,b,⟨⟩⟩ _ Φ w vs hL hΦ hv
  obtain⟨u,v,rfl,h1,h2⟩:=c2m hv
  rw[DL h1,DL h2]
  refine(b6u a b w).mono ?_
  rintro e w' ⟨rfl,hb⟩
  exact⟨_,rfl,by rw[<- c0q];exact Ff,hb⟩)
theorem FJ:Zq Tryz.prog 190 (fun x:List Int×Unit=>decide (x.1.length<=10000)) (fun x:List Int×Unit=>Vp x.1):=Xd (by
  rintro⟨l,⟨⟩⟩ hp Φ w vs hL hΦ hv
  have hp:l.length<=10000:=of_decide_eq_true hp
  obtain⟨u,rfl,h1⟩:=b3e hv
  obtain⟨A,c,rfl,hr⟩:=CE hΦ h1
  refine(b5c A l.length c l w hr hp).mono ?_
  rintro e w' ⟨rfl,hb⟩
  exact⟨_,rfl,by rw[<- c2f];exact Ff,hb⟩)
theorem DU:Zq Tryz.prog 126 (fun x:List Int×List Int×Unit=>decide (x.1.length<=10000)&&decide (x.2.1.length<=10000)) (fun x:List Int×List Int×Unit=>Gd x.1 x.2.1):=Xd (by
  rintro⟨l,m,⟨⟩⟩ hp Φ w vs hL hΦ hv
  simp only[Bool.and_eq_true,decide_eq_true_eq]at hp
  obtain⟨u,v,rfl,h1,h2⟩:=c2m hv
  obtain⟨A,c,rfl,hr⟩:=CE hΦ h1
  obtain⟨B,d,rfl,hq⟩:=CE hΦ h2
  refine(b7n A B l.length m.length c d l m w hr hq hp.1 hp.2).mono ?_
  rintro e w' ⟨rfl,hb⟩
  exact⟨_,rfl,by rw[<- b4t];exact Ff,hb⟩)
end Go.Proofs.YtjfgiaooglnomaaGreatDoor

namespace Go.Proofs.YtjfgiaooglnomaaGreatDoor
open Go.RowKit Go.Shelf Go.Pl
open Enc (enc dec is)
open EncL (encL decL isL)
attribute [local go_sem] Oper.semAt_some
set_option maxRecDepth 100000
theorem b8m{Φ:ZP}{v u:Value}{p q:PV}(h:RP Φ v p)(k:RP Φ u q):XI Φ (#[v,u]:Array Value).toList [p,q]:=⟨rfl,fun j x r hx hr=>match j with
 | 0=>by cases hx;cases hr;exact h
 | 1=>by cases hx;cases hr;exact k
 | j+2=>by simp at hx⟩
theorem b6s{Φ:ZP}{v:Value}{b:Bool}(h:RP Φ v (.bool b)):v = .bool b:=by cases h;rfl
theorem Gl(zs:List Int):flat (zs.map (enc:Int->PV))=zs.map enc:=by
 induction zs with
 | nil=>rfl
 | cons z zs ih=>exact congrArg (_:: ·) ih
theorem FR{Φ:ZP}{w w':World}{v:Value}{zs:List Int}(hΦ:YJ Φ w)(hb:Below w.heap.size w w')(h:w'.ownsRow w.heap.size 3 1 v zs.length (zs.map (Value.int .i64))):
  ∃ Φ',ZP.le Φ Φ'∧YJ Φ' w'∧RP Φ' v (enc zs)∧ ∀ b cs,Φ' b=some cs->Φ b=some cs∨w.heap.size<=b:=by
 have hok:YJ Φ w':=hΦ.below hb
 rcases h.2 with ⟨rfl,h0⟩|⟨g,cap,cur,rfl,hg,hh,h1,h2,h3,h4⟩
 ·have:zs=[]:=List.length_eq_zero_iff.1 h0
  subst this
  exact⟨Φ,ZP.le.refl _,hok,.sl0 _ _ _ _ (fun e=>by cases e),fun b cs hc=>.inl hc⟩
 ·have hne : ∀ b cs,Φ b=some cs->b≠g:=by
   rintro b cs hc rfl
   obtain⟨T,fz,hh'⟩:=hΦ _ cs hc
   have:=(Array.getElem?_eq_some_iff.1 hh').1
   omega
  have hat : ∀ (j:Nat) z,zs[j]? = some z->cur[j]? = some (.int .i64 z):=by
   intro j z hz
   have hj:=(List.getElem?_eq_some_iff.1 hz).1
   have:(cur.toList.take (zs.length*1))[j]? = some (.int .i64 z):=by rw[h4,List.getElem?_map,hz];rfl
   rw[List.getElem?_take,if_pos (by omega)]at this
   simpa using this
  have hget : ∀ (j:Nat) p,(zs.map (enc:Int->PV))[j]? = some p-> ∃ z,zs[j]? = some z∧p = .int .i64 z:=by
   intro j p hp
   rw[List.getElem?_map]at hp
   obtain⟨z,hz,rfl⟩:=Option.map_eq_some_iff.1 hp
   exact⟨z,hz,rfl⟩
  refine⟨fun b=>if b=g then some cur else Φ b,fun b cs hc=> ?_,fun b cs hc=> ?_,?_,fun b cs hc=> ?_⟩
  ·simp only[if_neg (hne b cs hc)];exact hc
  ·simp only at hc
   split at hc
   ·rename_i e;subst e;cases hc;exact⟨_,_,hh⟩
   ·exact hok b cs hc
  ·have:=RP.sl (Φ:=fun b=>if b=g then some cur else Φ b) g 0 cur cap 1 false (zs.map (enc:Int->PV)) (fun j=>.int .i64 (zs.getD j 0)) (by simp) (by rw[List.length_map];omega) (by intro e;cases e)
    (by intro x hx;obtain⟨z,_,rfl⟩:=List.mem_map.1 hx;rfl)
    (by
     intro j p hp
     rw[Gl]at hp
     obtain⟨z,hz,rfl⟩:=hget j p hp
     refine⟨?_,rfl⟩
     rw[Nat.zero_add,hat j z hz]
     simp[List.getD,hz])
    (by
     intro j p hp
     rw[Gl]at hp
     obtain⟨z,hz,rfl⟩:=hget j p hp
     simp only[List.getD,hz,Option.getD_some]
     exact .int _ _)
   rwa [List.length_map]at this
  ·simp only at hc
   split at hc
   ·rename_i e;subst e;exact .inr hg
   ·exact .inl hc
theorem a0m{μ:Mu}{Φ:ZP}{w:World}{c:Ctx}{p:List Int}{v:Value}(hg:Go.Pl.Good c μ Φ (YB p) w)(hv:R μ Φ v (.row 0 p.length 0 p.length))(hn:p.length<=1000):
  Calls Tryz.prog 104 #[v] w fun e w'=> ∃ v' Φ',e = .returned v'∧ZP.le Φ Φ'∧YJ Φ' w'∧RP Φ' v' (enc p)∧Below w.heap.size w w'∧ ∀ b cs,Φ' b=some cs->Φ b=some cs∨w.heap.size<=b:=by
 obtain⟨B,C,cs,e1,e2,e3,e4,e5,e6,e7,e8,e9,e10⟩:=hg.obj 0 (.row false 3 1 (p.map enc)) rfl
 cases hv with
 | row l n lo hi B' C' S a h k1 k2 k3 ha=>
  rw[List.length_map]at e1
  rw[e1]at h
  cases h
  have ha:=ha (.inr rfl)
  rw[Nat.zero_mul]at ha
  subst ha
  rw[Nat.sub_zero]
  rw[List.length_map,Gl]at e8
  have hcell : ∀ j,j<p.length->w.cell? ⟨B,0+j,none⟩=some (.int .i64 (p.getD j 0)):=by
   intro j hj
   have hj2:j<(cs.toList.take (p.length*1)).length:=by rw[e8.1,List.length_map];exact hj
   have h1:(p.map (enc:Int->PV))[j]? = some (.int .i64 p[j]):=by rw[List.getElem?_map,List.getElem?_eq_getElem hj];rfl
   have h2:=e8.2 j _ _ (List.getElem?_eq_getElem hj2) h1
   have h3:=DL h2
   have h4:cs[j]? = some (.int .i64 p[j]):=by
    have h5:(cs.toList.take (p.length*1))[j]? = some (.int .i64 p[j]):=by rw[List.getElem?_eq_getElem hj2,h3]
    rw[List.getElem?_take,if_pos (by omega)]at h5
    simpa using h5
   rw[Nat.zero_add]
   simp[World.cell?,e3,h4,List.getD,hj]
  refine(Any.slices_Clone_int Tryz.laysC15 B 0 p.length (C - 0) p w (Nat.le_refl _) (by omega) hcell).mono ?_
  rintro e w' ⟨v',rfl,h1,_,h2⟩
  rw[List.take_of_length_le (Nat.le_refl _)]at h1
  obtain⟨Φ',a1,a2,a3,a4⟩:=FR hg.phi h2 h1
  exact⟨v',Φ',rfl,a1,a2,a3,h2,a4⟩
theorem Fe{Φ:ZP}{w:World}{fv vv:Value}{fs:List Fact}{vs:List Coef}(hL:GlobOK Φ)(hΦ:YJ Φ w)(hf:RP Φ fv (enc fs))(hv:RP Φ vv (enc vs))(hs:Zm fs=true)(hl:vs.length<=9223372036854775807):
  Calls Tryz.prog 178 #[fv,vv] w fun e w'=>e = .returned (.bool (fs.all fun f=>Ya f vs))∧Below w.heap.size w w':=by
 refine(R9 [enc fs,enc vs] (Zl (fs,vs,()) rfl (by show(Zm fs&&decide (vs.length<=9223372036854775807))=true;rw[hs,decide_eq_true hl];rfl)) Φ w #[fv,vv] hL hΦ (b8m hf hv)).mono ?_
 rintro e w' ⟨v,Φ',rfl,_,_,hr,hb,_⟩
 have ev:Zg (fun x:List Fact×List Coef×Unit=>x.1.all fun f=>Ya f x.2.1) [enc fs,enc vs] = .bool (fs.all fun f=>Ya f vs):=by
  show enc ((fun x:List Fact×List Coef×Unit=>x.1.all fun f=>Ya f x.2.1) (decL (encL (fs,vs,()))))=_
  rw[EncL.dec_encL];rfl
 rw[ev]at hr
 rw[b6s hr]
 exact⟨rfl,hb⟩
end Go.Proofs.YtjfgiaooglnomaaGreatDoor

namespace Go.Proofs.YtjfgiaooglnomaaGreatDoor
open Go.RowKit Go.Shelf Go.Pl
open Enc (enc dec is)
open EncL (encL decL isL)
attribute [local go_sem] Oper.semAt_some
set_option maxRecDepth 100000
theorem c0o{l:List Value}(hl:l.length=52): ∃ t0 t1 t2 t3 t4 t5 t6 t7 t8 t9 t10 t11 t12 t13 t14 t15 t16 t17 t18 t19 t20 t21 t22 t23 t24 t25 t26 t27 t28 t29 t30 t31 t32 t33 t34 t35 t36 t37 t38 t39 t40 t41 t42 t43 t44 t45 t46 t47 t48 t49 t50 t51,l=[t0,t1,t2,t3,t4,t5,t6,t7,t8,t9,t10,t11,t12,t13,t14,t15,t16,t17,t18,t19,t20,t21,t22,t23,t24,t25,t26,t27,t28,t29,t30,t31,t32,t33,t34,t35,t36,t37,t38,t39,t40,t41,t42,t43,t44,t45,t46,t47,t48,t49,t50,t51]:=by
 obtain⟨t0,r0,e0,hl0⟩:=YC hl
 subst e0
 obtain⟨t1,r1,e1,hl1⟩:=YC hl0
 subst e1
 obtain⟨t2,r2,e2,hl2⟩:=YC hl1
 subst e2
 obtain⟨t3,r3,e3,hl3⟩:=YC hl2
 subst e3
 obtain⟨t4,r4,e4,hl4⟩:=YC hl3
 subst e4
 obtain⟨t5,r5,e5,hl5⟩:=YC hl4
 subst e5
 obtain⟨t6,r6,e6,hl6⟩:=YC hl5
 subst e6
 obtain⟨t7,r7,e7,hl7⟩:=YC hl6
 subst e7
 obtain⟨t8,r8,e8,hl8⟩:=YC hl7
 subst e8
 obtain⟨t9,r9,e9,hl9⟩:=YC hl8
 subst e9
 obtain⟨t10,r10,e10,hl10⟩:=YC hl9
 subst e10
 obtain⟨t11,r11,e11,hl11⟩:=YC hl10
 subst e11
 obtain⟨t12,r12,e12,hl12⟩:=YC hl11
 subst e12
 obtain⟨t13,r13,e13,hl13⟩:=YC hl12
 subst e13
 obtain⟨t14,r14,e14,hl14⟩:=YC hl13
 subst e14
 obtain⟨t15,r15,e15,hl15⟩:=YC hl14
 subst e15
 obtain⟨t16,r16,e16,hl16⟩:=YC hl15
 subst e16
 obtain⟨t17,r17,e17,hl17⟩:=YC hl16
 subst e17
 obtain⟨t18,r18,e18,hl18⟩:=YC hl17
 subst e18
 obtain⟨t19,r19,e19,hl19⟩:=YC hl18
 subst e19
 obtain⟨t20,r20,e20,hl20⟩:=YC hl19
 subst e20
 obtain⟨t21,r21,e21,hl21⟩:=YC hl20
 subst e21
 obtain⟨t22,r22,e22,hl22⟩:=YC hl21
 subst e22
 obtain⟨t23,r23,e23,hl23⟩:=YC hl22
 subst e23
 obtain⟨t24,r24,e24,hl24⟩:=YC hl23
 subst e24
 obtain⟨t25,r25,e25,hl25⟩:=YC hl24
 subst e25
 obtain⟨t26,r26,e26,hl26⟩:=YC hl25
 subst e26
 obtain⟨t27,r27,e27,hl27⟩:=YC hl26
 subst e27
 obtain⟨t28,r28,e28,hl28⟩:=YC hl27
 subst e28
 obtain⟨t29,r29,e29,hl29⟩:=YC hl28
 subst e29
 obtain⟨t30,r30,e30,hl30⟩:=YC hl29
 subst e30
 obtain⟨t31,r31,e31,hl31⟩:=YC hl30
 subst e31
 obtain⟨t32,r32,e32,hl32⟩:=YC hl31
 subst e32
 obtain⟨t33,r33,e33,hl33⟩:=YC hl32
 subst e33
 obtain⟨t34,r34,e34,hl34⟩:=YC hl33
 subst e34
 obtain⟨t35,r35,e35,hl35⟩:=YC hl34
 subst e35
 obtain⟨t36,r36,e36,hl36⟩:=YC hl35
 subst e36
 obtain⟨t37,r37,e37,hl37⟩:=YC hl36
 subst e37
 obtain⟨t38,r38,e38,hl38⟩:=YC hl37
 subst e38
 obtain⟨t39,r39,e39,hl39⟩:=YC hl38
 subst e39
 obtain⟨t40,r40,e40,hl40⟩:=YC hl39
 subst e40
 obtain⟨t41,r41,e41,hl41⟩:=YC hl40
 subst e41
 obtain⟨t42,r42,e42,hl42⟩:=YC hl41
 subst e42
 obtain⟨t43,r43,e43,hl43⟩:=YC hl42
 subst e43
 obtain⟨t44,r44,e44,hl44⟩:=YC hl43
 subst e44
 obtain⟨t45,r45,e45,hl45⟩:=YC hl44
 subst e45
 obtain⟨t46,r46,e46,hl46⟩:=YC hl45
 subst e46
 obtain⟨t47,r47,e47,hl47⟩:=YC hl46
 subst e47
 obtain⟨t48,r48,e48,hl48⟩:=YC hl47
 subst e48
 obtain⟨t49,r49,e49,hl49⟩:=YC hl48
 subst e49
 obtain⟨t50,r50,e50,hl50⟩:=YC hl49
 subst e50
 obtain⟨t51,r51,e51,hl51⟩:=YC hl50
 subst e51
 obtain rfl:r51=[]:=List.length_eq_zero_iff.1 hl51
 exact⟨t0,t1,t2,t3,t4,t5,t6,t7,t8,t9,t10,t11,t12,t13,t14,t15,t16,t17,t18,t19,t20,t21,t22,t23,t24,t25,t26,t27,t28,t29,t30,t31,t32,t33,t34,t35,t36,t37,t38,t39,t40,t41,t42,t43,t44,t45,t46,t47,t48,t49,t50,t51,rfl⟩
def c2z:Code->Option Code
 | .seq _ (.block _ (.loop (.block _ (.seq _ (.seq m _)))))=>some m
 | _=>none
theorem c0p: ∃ cA b0 b1 cB cM cC,Option.bind Tryz.f177.body c2z=some cM∧Tryz.f177.body=some (.seq cA (.block b0 (.loop (.block b1 (.seq cB (.seq cM cC)))))) ∧
  Xu Tryz.prog cA=some R8∧Xm cA=true∧Xu Tryz.prog cB=some Rs∧Xm cB=true∧(Xu Tryz.prog cC).map (fun x=>(U0 [] [] x [4,1,2,0]).1)=some UL∧Xm cC=true:=by
 refine⟨_,_,_,_,_,_,rfl,rfl,?_,?_,?_,?_,?_,?_⟩ <;> kernel_rfl
theorem G8(p:List Int):c2w (YB p):=by
 intro l o h ty sz xs e
 subst e
 match l,h with
 | 0,h=>cases h
 | l+1,h=>simp[YB]at h
theorem c2h{μ:Mu}{Φ:ZP}{l:Nat}{b:BoxT}{fs:List Fact}{n:Nat}{t:Array Value}{v0 v1 v2 v4:Value}(h0:R μ Φ v0 (.yld l))(h1:R μ Φ v1 (.pv (.rptr [enc b.v,.int .i64 b.m])))(h2:R μ Φ v2 (.pv (.rptr [enc fs])))(h4:R μ Φ v4 (.row 0 n 0 n))
  (e0:t[0]? = some v0:=by rfl) (e1:t[1]? = some v1:=by rfl) (e2:t[2]? = some v2:=by rfl) (e4:t[4]? = some v4:=by rfl) :
  ∀ p∈[(0,AV.yld l),(1,.pv (.rptr [enc b.v,.int .i64 b.m])),(2,.pv (.rptr [enc fs])),(4,.row 0 n 0 n)],∀ v,t[p.1]? = some v->R μ Φ v p.2:=by
 intro p hp v hv
 simp only[List.mem_cons,List.not_mem_nil,or_false]at hp
 rcases hp with rfl|rfl|rfl|rfl
 ·rw[e0]at hv;cases hv;exact h0
 ·rw[e1]at hv;cases hv;exact h1
 ·rw[e2]at hv;cases hv;exact h2
 ·rw[e4]at hv;cases hv;exact h4
set_option maxHeartbeats 4000000 in
theorem b9p {n l : Nat} {b : BoxT} {fs : List Fact} {p : List Int} {μ : Mu} {Φ : ZP} {w : World} {a : Act} {k : Nat} {J : Nat -> ZP -> (Nat -> Prop) -> World -> Prop} {Jx : ZP -> (Nat -> Prop) -> World -> Prop} {cM : Code}
    (hM:Option.bind Tryz.f177.body c2z=some cM) (hJok : ∀ k,JOK (J k)) (hJxok:JOK Jx) (hfs:Zm fs=true) (hp:p.length<=1000) (hvl:b.v.length<=1000)
    (hj:J k Φ (Jz μ (YB p)) w) (hg:Go.Pl.Good (entry μ Φ (YB p) w) μ Φ (YB p) w) (he:Xp μ Φ a.tmps (a9y l b fs p.length p)) (hd:a.defers=[])
    (hY:Wx b.v fs p=true-> ∀ Φ X W1 (vs:Array Value),J k Φ X W1->XI Φ vs.toList (QF (p,Zj b.v p))->YieldAt Fence.wide (n - 1) Tryz.prog l vs W1 (Su (J (k+1)) Jx Φ X W1)) :
    cM.wpIn Fence.wide n Tryz.prog (fun e a' w'=>a'.defers=[]∧(∃ Φ',Φ.le Φ'∧Xp μ Φ' a'.tmps (KM l b fs p.length) ∧
      ((e = .normal∧Go.Pl.Good (entry μ Φ' (YB p) w') μ Φ' (YB p) w'∧J (if Wx b.v fs p then k+1 else k) Φ' (Jz μ (YB p)) w')∨(e = .ret∧ ∃ X,Jx Φ' X w')))) a w:=by
  obtain⟨tm,ds⟩:=a
  obtain⟨l0⟩:=tm
  simp only at hd
  subst hd
  obtain⟨hsz,hat⟩:=b9x he
  obtain⟨t0,t1,t2,t3,t4,t5,t6,t7,t8,t9,t10,t11,t12,t13,t14,t15,t16,t17,t18,t19,t20,t21,t22,t23,t24,t25,t26,t27,t28,t29,t30,t31,t32,t33,t34,t35,t36,t37,t38,t39,t40,t41,t42,t43,t44,t45,t46,t47,t48,t49,t50,t51,rfl⟩:=c0o (l:=l0) (by simpa using hsz)
  obtain⟨_,q0,k0⟩:=hat 0 _ (by decide) rfl
  obtain⟨_,q1,k1⟩:=hat 1 _ (by decide) rfl
  obtain⟨_,q2,k2⟩:=hat 2 _ (by decide) rfl
  obtain⟨_,q4,k4⟩:=hat 4 _ (by decide) rfl
  obtain⟨_,q5,k5⟩:=hat 5 _ (by decide) rfl
  cases q0;cases q1;cases q2;cases q4;cases q5
  cases k0
  have k2':RP Φ t2 (.rptr [enc fs]):=Yr k2
  have k5':RP Φ t5 (enc (Zj b.v p)):=Yr k5
  obtain⟨B2,o2,fv,rfl,hf,hone,hcell⟩:=a0g k2' hg.phi
  have hH:=Fe hg.laid hg.phi hf k5' hfs (by unfold Zj;rw[List.length_zipWith];omega)
  cases hM
  cases hin:Wx b.v fs p
  · have hin':(fs.all fun f=>Ya f (Zj b.v p))=false:=hin
    gi_wp2_with (first
      | (refine⟨trivial,(fun h=>by simp[Fence.wide]at h),?_⟩;gi_at_call 178;refine(callsIn_wide.2 hH).mono ?_;rintro e w1 ⟨rfl,hb1⟩;rw[hin'])
      | (refine⟨trivial,?_⟩)
      | (refine⟨(fun(f:FuncId) (h:none=some f)=>by cases h),?_⟩)
      | fail)
    have hXb : ∀ x,Jz μ (YB p) x->x<w.heap.size∧Φ x=none:=fun x hx=>(hJok k).out hj hx
    have hg1:=hg.below hb1 (.refl _) (Kt hg.phi hb1) (fun b cs h=>.inl h)
    have hj1:=(hJok k).step hj (QJ hb1 (.refl _) (Kt hg.phi hb1) (fun b cs h=>.inl h) hXb)
    exact⟨Φ,.refl _,Tt rfl (c2h (.yld l) k1 k2 k4),hg1.rebase,hj1⟩
  · have hin':(fs.all fun f=>Ya f (Zj b.v p))=true:=hin
    have hXb : ∀ x,Jz μ (YB p) x->x<w.heap.size∧Φ x=none:=fun x hx=>(hJok k).out hj hx
    gi_wp2_with (first
      | (refine ⟨trivial, (fun h => by simp [Fence.wide] at h), ?_⟩; gi_at_call 178; refine (callsIn_wide.2 hH).mono ?_; rintro e w1 ⟨rfl, hb1⟩; rw [hin']
         have hg1:=hg.below hb1 (.refl _) (Kt hg.phi hb1) (fun b cs h=>.inl h)
         have hj1:=(hJok k).step hj (QJ hb1 (.refl _) (Kt hg.phi hb1) (fun b cs h=>.inl h) hXb))
      | (refine ⟨trivial, (fun h => by simp [Fence.wide] at h), ?_⟩; gi_at_call 104; refine (callsIn_wide.2 (a0m hg1 k4 hp)).mono ?_; rintro e w2 ⟨v2, Φ2, rfl, hle2, hφ2, hv2, hb2, hd2⟩
         have hg2:=hg1.below hb2 hle2 hφ2 hd2
         have hj2:=(hJok k).step hj1 (QJ hb2 hle2 hφ2 hd2 (fun x hx=>(hJok k).out hj1 hx))
         obtain⟨fn,tmps,assign,body,hy,hR⟩:=hY hin Φ2 _ w2 #[v2,t5] hj2 (b8m hv2 (k5'.mono hle2)))
      | fail)
    refine⟨(fun h=>by simp[Fence.wide]at h),hR.mono ?_⟩
    rintro e w3 ⟨Φ3,hle3,hkeep,⟨rfl,hj3⟩|⟨rfl,hj3⟩⟩
    · gi_wp2
      have hle:=hle2.trans hle3
      exact⟨Φ3,hle,Tt rfl (c2h (.yld l) (k1.mono (.refl _) hle) (k2.mono (.refl _) hle) (k4.mono (.refl _) hle)),hg2.moved ((hJok (k+1)).glob hj3) hle3 ((hJok (k+1)).phi hj3) hkeep (fun b hb=>((hJok (k+1)).out hj3 hb).2) (G8 p),hj3⟩
    · gi_wp2
      have hle:=hle2.trans hle3
      exact⟨Φ3,hle,Tt rfl (c2h (.yld l) (k1.mono (.refl _) hle) (k2.mono (.refl _) hle) (k4.mono (.refl _) hle)),_,hj3⟩
theorem b4j(μ:Mu):Jz μ []=fun _=>False:=by
 funext b
 exact propext ⟨fun⟨l,o,h,_⟩=>by simp at h,fun h=>h.elim⟩
theorem LM:Yj Tryz.prog EN:=Zb (Yz Tryz.func48 (by kernel_rfl) c0k) Zk
theorem a7d{k:Nat}{rs:List IRes}{st:St}(h:Zh k rs (fun _=>False) st):False:=by
 obtain⟨r,_,h⟩:=h
 exact h
theorem b3i{m:Int}{p:List Int}{l:List (List Int)}(h:Walk m p l): ∃ t,l=p::t:=by
 cases h with
 | last h=>exact⟨[],rfl⟩
 | step h k=>exact⟨_,rfl⟩
theorem F7(x y z:Value)(n:Nat):((#[x]++ #[y,z])++Array.replicate n undef:Array Value)[0]? = some x∧((#[x]++ #[y,z])++Array.replicate n undef:Array Value)[1]? = some y∧((#[x]++ #[y,z])++Array.replicate n undef:Array Value)[2]? = some z:=by
 refine⟨?_,?_,?_⟩ <;> simp[Array.getElem?_append]
set_option maxHeartbeats 1000000 in
theorem UW:b0g Tryz.prog 177 QF UB Gw:=by
 refine⟨⟨_,Tryz.func177,rfl,rfl⟩,?_⟩
 intro pss hpre Φ0 lb l J Jx W hcaps hJok hJxok hY h0
 unfold UB at hpre
 split at hpre
 ·rename_i v m f
  simp only[Bool.and_eq_true,decide_eq_true_eq]at hpre
  obtain⟨⟨⟨⟨hv,hf⟩,hbx⟩,hfs⟩,hvl⟩:=hpre
  obtain⟨vs,rfl⟩:=Yu hv
  obtain⟨fs,rfl⟩:=Yu hf
  rw[Enc.dec_enc]at hbx hvl hfs
  have hF:Gw [[enc vs,.int .i64 m],[enc fs]]=(Yb ⟨vs,m⟩ fs).map fun p=>(p,Zj vs p):=by
   show((Yb ⟨dec (enc vs:PV),m⟩ (dec (enc fs:PV))).map fun p=>(p,Zj (dec (enc vs:PV)) p))=_
   rw[Enc.dec_enc,Enc.dec_enc]
  rw[hF]at hY ⊢
  obtain⟨lb⟩:=lb
  match lb,hcaps.1 with
  | [p1,p2],_=>
   obtain⟨B1,c1,rfl,g1,r1,o1⟩:=hcaps.2 0 p1 _ rfl rfl
   obtain⟨B2,c2,rfl,g2,r2,o2⟩:=hcaps.2 1 p2 _ rfl rfl
   have k1:=Te g1 r1 o1
   have k2:=Te g2 r2 o2
   obtain⟨cA,b0,b1,cB,cM,cC,hM,hbody,hA1,hA2,hB1,hB2,hC1,hC2⟩:=c0p
   obtain⟨xC,hC0,hC3⟩:=Option.map_eq_some_iff.1 hC1
   have htr:Tr Tryz.prog cC UL:=hC3▸Na (QS hC0) _ _ _
   refine callsIn_wide.1 (callsIn_of_wp (F:=Fence.wide) (n:=4) Tryz.func177 hbody trivial ?_ rfl)
   have hE:Xp (fun _ _=>none) Φ0 ((#[Value.func (.yield l) #[] #[]]++ #[Value.pointer (some ⟨B1,0,none⟩),Value.pointer (some ⟨B2,0,none⟩)])++Array.replicate 49 undef) (ZO 52 0 [(0,.yld l),(1,.pv (.rptr [enc vs,.int .i64 m])),(2,.pv (.rptr [enc fs]))]):=by
    refine Tt (by simp) ?_
    intro q hq u hu
    simp only[List.mem_cons,List.not_mem_nil,or_false]at hq
    rcases hq with rfl|rfl|rfl
    ·have:=(F7 _ _ _ 49).1.symm.trans hu
     injection this with this
     subst this
     exact .yld l
    ·have:=(F7 _ _ _ 49).2.1.symm.trans hu
     injection this with this
     subst this
     exact .pv _ _ k1
    ·have:=(F7 _ _ _ 49).2.2.symm.trans hu
     injection this with this
     subst this
     exact .pv _ _ k2
   refine wpIn_seq (wpIn_mono (Ti (nn:=4) (st:=⟨ZO 52 0 [(0,.yld l),(1,.pv (.rptr [enc vs,.int .i64 m])),(2,.pv (.rptr [enc fs]))],[]⟩) LM ZT hA1 hA2 (b4x l ⟨vs,m⟩ fs hvl) (Ub ((hJok 0).glob h0) ((hJok 0).phi h0)) hE rfl) ?_)
   rintro e a1 w1 (⟨rfl,st',rfl,μ1,Φ1,hg1,he1,hd1⟩|⟨rfl,st',hF,_⟩)
   ·have hsz : ∀ y∈QG m.toNat vs.length,∀ x∈y,-1<=x∧x<=20000:=by
     intro y hy x hx
     obtain⟨q1,q2⟩:=Q4.1 hy
     have:=q2 x hx
     obtain⟨_,_,h3,h4,_⟩:=VM.1 hbx
     rcases h3 with h3|h3
     ·have h3:vs=[]:=h3
      subst h3
      rw[List.length_eq_zero_iff.1 q1]at hx
      cases hx
     ·have h3:m<20000:=h3
      have h4:0<=m:=h4
      omega
    have hj1:J 0 Φ1 (Jz μ1 (YB (VT vs))) w1:=by
     have h0':J 0 Φ0 (Jz (fun _ _=>none) []) W:=by rw[b4j];exact h0
     exact(hJok 0).step h0' (Steps.of_good hg1 (G8 _))
    have hz:VT vs=List.replicate vs.length 0:=List.map_const' ..
    have hw0:Walk m (VT vs) (QG m.toNat vs.length):=by
     have:=SK m.toNat vs.length
     have e:(m.toNat:Int)=m:=by
      have:0<=m:=(VM.1 hbx).2.2.2.1
      omega
     rw[e,<- hz]at this
     exact this
    have hp0:Yb ⟨vs,m⟩ fs=(QG m.toNat vs.length).filter (Wx vs fs):=by
     unfold Yb
     rw[WG hbx]
    refine wpIn_block (wpIn_loop_ghost (fun n a w=> ∃ (p:List Int) (lst:List (List Int)) (k:Nat) (μ:Mu) (Φ:ZP),n=lst.length∧Walk m p lst∧p.length=vs.length∧(∀ y∈lst,∀ x∈y,-1<=x∧x<=20000) ∧
     (Yb ⟨vs,m⟩ fs).drop k=lst.filter (Wx vs fs)∧k<=(Yb ⟨vs,m⟩ fs).length∧J k Φ (Jz μ (YB p)) w∧Go.Pl.Good (entry μ Φ (YB p) w) μ Φ (YB p) w∧Xp μ Φ a.tmps (KM l ⟨vs,m⟩ fs p.length)∧a.defers=[]) _
     ⟨VT vs,QG m.toNat vs.length,0,μ1,Φ1,rfl,hw0,by simp[VT],hsz,by rw[List.drop_zero,hp0],Nat.zero_le _,hj1,hg1.rebase,by rw[show(VT vs).length=(⟨vs,m⟩:BoxT).v.length by simp[VT]];exact he1,hd1⟩ ?_)
    clear hj1 hg1 he1 hd1 hw0 h0 hE
    rintro n a w ⟨p,lst,k,μ,Φ,rfl,hw,hpl,hpx,hdr,hk,hj,hg,he,hd⟩
    have hp:p.length<=1000:=by omega
    obtain⟨rest,rfl⟩:=b3i hw
    refine wpIn_block (wpIn_seq (wpIn_mono (Ti (nn:=4) (st:=⟨KM l ⟨vs,m⟩ fs p.length,YB p⟩) LM ZT hB1 hB2 (b5a l ⟨vs,m⟩ fs p hvl hp) hg he hd) ?_))
    rintro e a1 w1 (⟨rfl,st',rfl,μ1,Φ1,hg1,he1,hd1⟩|⟨rfl,st',hF,_⟩)
    ·have hj1:J k Φ1 (Jz μ1 (YB p)) w1:=(hJok k).step hj (Steps.of_good hg1 (G8 _))
     have hat:Wx vs fs p=true->(Yb ⟨vs,m⟩ fs)[k]? = some p:=by
      intro hin
      have:((Yb ⟨vs,m⟩ fs).drop k)[0]? = some p:=by rw[hdr,List.filter_cons,if_pos hin];rfl
      rwa [List.getElem?_drop]at this
     refine wpIn_seq (wpIn_mono (b9p (n:=4) (b:=⟨vs,m⟩) (fs:=fs) (J:=J) (Jx:=Jx) hM hJok hJxok hfs hp hvl hj1 hg1.rebase he1 hd1 ?_) ?_)
     ·intro hin Φ X W1 us hJ hus
      exact hY 3 k (p,Zj vs p) Φ X W1 us (by rw[List.getElem?_map,hat hin];rfl) hJ hus
     ·rintro e a2 w2 ⟨hd2,Φ2,hle,he2,⟨rfl,hg2,hj2⟩|⟨rfl,X,hjx⟩⟩
      ·refine wpIn_mono (Co (nn:=4) (st:=⟨KM l ⟨vs,m⟩ fs p.length,YB p⟩) LM ZT htr hC2 (b3c l ⟨vs,m⟩ fs p hp (hpx p (by simp))) hg2 he2 hd2) ?_
       have hk':(if Wx vs fs p then k+1 else k)<=(Yb ⟨vs,m⟩ fs).length∧(Yb ⟨vs,m⟩ fs).drop (if Wx vs fs p then k+1 else k)=rest.filter (Wx vs fs):=by
        cases hin:Wx vs fs p
        ·rw[if_neg (by simp)]
         refine⟨hk,?_⟩
         rw[hdr,List.filter_cons,if_neg (by simp[hin])]
        ·rw[if_pos rfl]
         have:=(List.getElem?_eq_some_iff.1 (hat hin)).1
         refine⟨this,?_⟩
         have e:=congrArg (List.drop 1) hdr
         rw[List.filter_cons,if_pos hin,List.drop_drop]at e
         exact e
       rintro e a3 w3 (⟨rfl,st',⟨q,hq,rfl⟩,μ3,Φ3,hg3,he3,hd3⟩|⟨rfl,st',hF,μ3,Φ3,hg3,he3,hd3⟩)
       ·have hql:q.length=p.length:=AJ _ _ _ _ hq
        cases hw with
        | last h=>rw[h]at hq;cases hq
        | step h hw'=>
         rw[h]at hq
         cases hq
         refine⟨rest.length,by simp,q,rest,_,μ3,Φ3,rfl,hw',by rw[hql,hpl],fun y hy=>hpx y (by simp[hy]),hk'.2,hk'.1,(hJok _).step hj2 (Steps.of_good hg3 (G8 q)),hg3.rebase,by rw[hql];exact he3,hd3⟩
       ·obtain⟨_,_,hq⟩:=hF
        cases hw with
        | step h hw'=>rw[h]at hq;cases hq
        | last h=>
         have hkl:(if Wx vs fs p then k+1 else k)=(Yb ⟨vs,m⟩ fs).length:=by
          have e:=congrArg List.length hk'.2
          rw[List.length_drop]at e
          have:=hk'.1
          simp at e
          omega
         rw[hkl]at hj2
         simp only[Exit.inBlock,Exit.then]
         refine bodyPost_ret (results_none (fn:=Tryz.f177) rfl _ _ _) hd3 ?_
         refine⟨⟨_,rfl⟩,Φ3,fun _=>False,.inl ?_⟩
         rw[List.length_map]
         exact(hJok _).step hj2 (Steps.of_good0 hg3)
      ·simp only[Exit.inBlock,Exit.then]
       refine bodyPost_ret (results_none (fn:=Tryz.f177) rfl _ _ _) hd2 ?_
       exact⟨⟨_,rfl⟩,Φ2,X,.inr hjx⟩
    ·exact(a7d hF).elim
   ·exact(a7d hF).elim
 ·cases hpre
end Go.Proofs.YtjfgiaooglnomaaGreatDoor

namespace Go.Proofs.YtjfgiaooglnomaaGreatDoor
open Go.Pl
open Enc (enc dec is)
open EncL (encL decL isL)
set_option maxRecDepth 100000
theorem Ma:Z6 Tryz.prog 187 Xx U1:=TZ (fun blk off cap ss w hH hb hs hc=>((Any.slices_Compact_string Tryz.lays194 blk off cap ss w hH (by omega) hc).mono fun e w' h=>⟨h.1,by obtain⟨q,rfl⟩:=h.2;exact⟨q,#[],by unfold Go.Sort.grow;rw[Array.append_empty];rfl⟩⟩)) (fun p cap w=>Any.slices_Compact_string_empty Tryz.lays194 p cap w)
theorem BO:Z6 Tryz.prog 117 YX Wn:=WO (T:=Ov) (ic:=RO) (rs:=TK) Zk ZT Tryz.func117 (by kernel_rfl) (by kernel_rfl) (by kernel_rfl) b2y
theorem a3t{cd:Code}(h:Va Tryz.prog UZ Tryz.f45 0=some cd):X0 Tryz.prog cd=some (.t 17,[18,19],[(8,18)],UJ):=by
 have:(Va Tryz.prog UZ Tryz.f45 0).bind (X0 Tryz.prog)=some (.t 17,[18,19],[(8,18)],UJ):=by kernel_rfl
 rw[h]at this
 exact this
theorem b6w(hT:Yj Tryz.prog KN): ∀ (B:Nat) (c:Ctx),c.w0.heap.size=B->(∀ i m,0<=i->c.μ0 i m=none)->Mj (QA B 4 hT ZT) (fun n cd=>Va Tryz.prog UZ Tryz.f45 n=some cd) gpE c:=by
 rintro B c hB hk n cd hcd st a w q hr ⟨rfl,hE⟩
 exact U4 hT ZT UW (fun x=>rfl) (a3t hcd) hB hk hr hE
theorem EJ:Yj Tryz.prog KN:=(Zb (Yz Tryz.func116 (by kernel_rfl) QP) (Zb (Yz Tryz.func117 (by kernel_rfl) BO) Zk))
theorem JZ:Zq Tryz.prog 45 (fun x:BoxT×List Fact×Unit=>ZW x.1&&Zm x.2.1&&decide (x.2.1.length<=100)&&decide (x.1.v.length<=1000)) (fun x:BoxT×List Fact×Unit=>Z9 x.1 x.2.1):=Zq.ofM (T:=KN) (ic:=Hm) (rs:=Hy) (E:=gpE) (sel:=UZ) EJ ZT Tryz.func45 (by kernel_rfl) (by kernel_rfl) (by kernel_rfl) (b6w EJ) b6h
theorem Mx:Zq Tryz.prog 47 (fun x:BoxT×List Fact×Unit=>ZW x.1&&Zm x.2.1&&decide (x.2.1.length<=100)&&decide (x.1.v.length<=1000)) (fun x:BoxT×List Fact×Unit=>J8 x.1 x.2.1):=Zq.of (T:=C8) (ic:=Hu) (rs:=H5) (Zb (Yz Tryz.func45 (by kernel_rfl) JZ) Zk) ZT Tryz.func47 (by kernel_rfl) (by kernel_rfl) (by kernel_rfl) Ol
theorem a6w:Zq Tryz.prog 128 (fun _:Int×Int×Unit=>true) (fun x:Int×Int×Unit=>decide (x.1<x.2.1)):=Zq.of (T:=b0c) (ic:=Lj) (rs:=Fu) Zk ZT Tryz.func128 (by kernel_rfl) (by kernel_rfl) (by kernel_rfl) b3o
theorem Ex:Z6 Tryz.prog 194 (Qz 128) (Kn Yl):=WO (T:=LF) (ic:=RD) (rs:=Ry) (Zb (Yz Tryz.func128 (by kernel_rfl) a6w) Zk) ZT Tryz.func194 (by kernel_rfl) (by kernel_rfl) (by kernel_rfl) a4m
theorem PO{cd:Code}(h:Va Tryz.prog UZ Tryz.f127 0=some cd):X0 Tryz.prog cd=some (.t 31,[32,33],[(15,33)],Ue):=by
 have:(Va Tryz.prog UZ Tryz.f127 0).bind (X0 Tryz.prog)=some (.t 31,[32,33],[(15,33)],Ue):=by kernel_rfl
 rw[h]at this
 exact this
theorem a3j(hT:Yj Tryz.prog Vy): ∀ (B:Nat) (c:Ctx),c.w0.heap.size=B->(∀ i m,0<=i->c.μ0 i m=none)->Mj (QA B 4 hT ZT) (fun n cd=>Va Tryz.prog UZ Tryz.f127 n=some cd) Jb c:=by
 rintro B c hB hk n cd hcd st a w q hr ⟨rfl,hE⟩
 exact U4 hT ZT UW (fun x=>rfl) (PO hcd) hB hk hr hE
theorem MB{cd:Code}(h:Va Tryz.prog UZ Tryz.f127 0=some cd):X0 Tryz.prog cd=some (.t 31,[32,33],[(15,33)],U9):=by
 have:(Va Tryz.prog UZ Tryz.f127 0).bind (X0 Tryz.prog)=some (.t 31,[32,33],[(15,33)],U9):=by kernel_rfl
 rw[h]at this
 exact this
theorem E9(hT:Yj Tryz.prog VD): ∀ (B:Nat) (c:Ctx),c.w0.heap.size=B->(∀ i m,0<=i->c.μ0 i m=none)->Mj (QA B 4 hT ZT) (fun n cd=>Va Tryz.prog UZ Tryz.f127 n=some cd) K7 c:=by
 rintro B c hB hk n cd hcd st a w q hr ⟨rfl,hE⟩
 exact U4 hT ZT UW (fun x=>rfl) (MB hcd) hB hk hr hE
theorem Au:Yj Tryz.prog Vy:=(Zb (Yz Tryz.func73 (by kernel_rfl) VU) (Zb (Yz Tryz.func174 (by kernel_rfl) c2v) (Zb (Yz Tryz.func116 (by kernel_rfl) QP) (Zb (Yz Tryz.func117 (by kernel_rfl) BO) (Zb (Yz Tryz.func38 (by kernel_rfl) QL) (Zb (Yz Tryz.func194 (by kernel_rfl) Ex) Zk))))))
theorem Sc:Yj Tryz.prog VD:=(Zb (Yz Tryz.func73 (by kernel_rfl) VU) (Zb (Yz Tryz.func174 (by kernel_rfl) c1d) (Zb (Yz Tryz.func116 (by kernel_rfl) a5m) (Zb (Yz Tryz.func117 (by kernel_rfl) BO) (Zb (Yz Tryz.func38 (by kernel_rfl) QL) (Zb (Yz Tryz.func194 (by kernel_rfl) Ex) Zk))))))
theorem a7w:Zq Tryz.prog 127 (fun x:BoxT×List Fact×Lin×FnV 128×Unit=>Ud x.1 x.2.1 x.2.2.1) (fun x:BoxT×List Fact×Lin×FnV 128×Unit=>Uv Yl x.1 x.2.1 x.2.2.1):=Zq.or (fun x=>x.2.2.1.t.isEmpty)
 (Zq.ofM (T:=Vy) (ic:=Ui) (rs:=UV) (E:=Jb) (sel:=UZ) Au ZT Tryz.func127 (by kernel_rfl) (by kernel_rfl) (by kernel_rfl) (a3j Au) a3f)
 (Zq.ofM (T:=VD) (ic:=Qa) (rs:=Qg) (E:=K7) (sel:=UZ) Sc ZT Tryz.func127 (by kernel_rfl) (by kernel_rfl) (by kernel_rfl) (E9 Sc) a1u)
theorem NZ:Zq Tryz.prog 58 (fun x:BoxT×List Fact×Lin×Unit=>Ud x.1 x.2.1 x.2.2.1) (fun x:BoxT×List Fact×Lin×Unit=>Uv Yl x.1 x.2.1 x.2.2.1):=Zq.of (T:=Om) (ic:=Rt) (rs:=Rl) (Zb (Yz Tryz.func127 (by kernel_rfl) a7w) Zk) ZT Tryz.func58 (by kernel_rfl) (by kernel_rfl) (by kernel_rfl) a9x
theorem a9l:Zq Tryz.prog 185 (fun x:Str×Unit=>decide (x.1.s.length<=281474976710656)) (fun x:Str×Unit=> !(ZA x.1)):=Zq.of (T:=MV) (ic:=Rw) (rs:=R5) (Zb (Yz Tryz.func119 (by kernel_rfl) Gt) Zk) ZT Tryz.func185 (by kernel_rfl) (by kernel_rfl) (by kernel_rfl) a4u
theorem b7b:Zq Tryz.prog 238 (fun x:List Str×FnV 185×Unit=>Wj x.1) (fun x:List Str×FnV 185×Unit=>Zx (fun s:Str=> !(ZA s)) x.1):=Zq.of (T:=Cn) (ic:=Jt) (rs:=KX) (Zb (Yz Tryz.func185 (by kernel_rfl) a9l) Zk) ZT Tryz.func238 (by kernel_rfl) (by kernel_rfl) (by kernel_rfl) b3x
theorem b3g:Zq Tryz.prog 175 (fun x:List Str×FnV 185×Unit=>Wj x.1) (fun x:List Str×FnV 185×Unit=>x.1.any fun s:Str=> !(ZA s)):=Zq.of (T:=a5a) (ic:=Fx) (rs:=Lr) (Zb (Yz Tryz.func238 (by kernel_rfl) b7b) Zk) ZT Tryz.func175 (by kernel_rfl) (by kernel_rfl) (by kernel_rfl) b7a
theorem Ta:Zq Tryz.prog 283 (fun _:Str×Unit=>true) (fun _:Str×Unit=>false):=Zq.of (T:=Ot) (ic:=TF) (rs:=RY) Zk ZT Tryz.func283 (by kernel_rfl) (by kernel_rfl) (by kernel_rfl) b2a
theorem Nu:Zq Tryz.prog 244 (fun _:Str×Str×Unit=>true) (fun x:Str×Str×Unit=>decide (x.1.s<x.2.1.s)):=Zq.of (T:=T9) (ic:=Bg) (rs:=Bc) (Zb (Yz Tryz.func283 (by kernel_rfl) Ta) Zk) ZT Tryz.func244 (by kernel_rfl) (by kernel_rfl) (by kernel_rfl) a1s
theorem DN:Zq Tryz.prog 245 (fun _:Str×Str×Unit=>true) (fun x:Str×Str×Unit=>BX x.1 x.2.1):=Zq.of (T:=Ou) (ic:=Pj) (rs:=Tx) (Zb (Yz Tryz.func283 (by kernel_rfl) Ta) Zk) ZT Tryz.func245 (by kernel_rfl) (by kernel_rfl) (by kernel_rfl) a9a
theorem TM:Zq Tryz.prog 184 (fun x:List Str×Unit=>Zt x.1) (fun x:List Str×Unit=>JU x.1):=Zq.of (T:=Vo) (ic:=Wv) (rs:=Wu) (Zb (Yz Tryz.func244 (by kernel_rfl) Nu) Zk) ZT Tryz.func184 (by kernel_rfl) (by kernel_rfl) (by kernel_rfl) MK
theorem Ae:Zq Tryz.prog 186 (fun x:List Str×List Str×Unit=>Zt x.1&&Zt x.2.1) (fun x:List Str×List Str×Unit=>Gi x.1 x.2.1):=Zq.of (T:=Uo) (ic:=Vk) (rs:=Vr) (Zb (Yz Tryz.func245 (by kernel_rfl) DN) Zk) ZT Tryz.func186 (by kernel_rfl) (by kernel_rfl) (by kernel_rfl) F5
theorem VO:Zq Tryz.prog 122 (fun x:List Mono×Unit=>Yc x.1) (fun x:List Mono×Unit=>ZZ x.1):=Zq.of (T:=WU) (ic:=WF) (rs:=XR) (Zb (Yz Tryz.func184 (by kernel_rfl) TM) (Zb (Yz Tryz.func175 (by kernel_rfl) b3g) (Zb (Yz Tryz.func186 (by kernel_rfl) Ae) Zk))) ZT Tryz.func122 (by kernel_rfl) (by kernel_rfl) (by kernel_rfl) F8
theorem c2q:Z6 Tryz.prog 123 UI Tz:=WO (T:=XF) (ic:=Y6) (rs:=Xa) (Zb (Yz Tryz.func122 (by kernel_rfl) VO) (Zb (Yz Tryz.func154 (by kernel_rfl) Nj) (Zb (Yz Tryz.func187 (by kernel_rfl) Ma) Zk))) ZT Tryz.func123 (by kernel_rfl) (by kernel_rfl) (by kernel_rfl) Fp
theorem c0j:Z6 Tryz.prog 123 UI Tu:=c2q.trunc fun args os h=>by
 unfold UI at h
 split at h
 ·rename_i a
  refine⟨rfl,9,(Lib.compact (Xb (VG a))).length,Ve (Xb (VG a)),?_,?_,?_⟩
  ·rw[Hl];exact J4 _
  ·show(AV.row 0 (Xb (VG a)).length 0 _,_,_)=_
   rw[Hl]
  ·have e:(Ve (Xb (VG a))).take (Lib.compact (Xb (VG a))).length=Lib.compact (Xb (VG a)):=by unfold Ve;exact List.take_left ..
   rw[e]
   show QO (Yt (VG a))=_
   unfold QO Yt
   rw[List.length_map,List.map_map];rfl
 ·cases h
theorem b8u:Z6 Tryz.prog 123 Kz Dj:=WO (T:=XF) (ic:=Y6) (rs:=Xa) (Zb (Yz Tryz.func122 (by kernel_rfl) VO) (Zb (Yz Tryz.func154 (by kernel_rfl) Nj) (Zb (Yz Tryz.func187 (by kernel_rfl) Ma) Zk))) ZT Tryz.func123 (by kernel_rfl) (by kernel_rfl) (by kernel_rfl) LV
theorem b9t:Z6 Tryz.prog 188 JN Dw:=WO (T:=a5n) (ic:=Fq) (rs:=LD) Zk ZT Tryz.func188 (by kernel_rfl) (by kernel_rfl) (by kernel_rfl) b7x
theorem c1o:Z6 Tryz.prog 109 (VB 188) Db:=WO (T:=CV) (ic:=K5) (rs:=Jc) (Zb (Yz Tryz.func188 (by kernel_rfl) b9t) Zk) ZT Tryz.func109 (by kernel_rfl) (by kernel_rfl) (by kernel_rfl) b4c
theorem b3t:Zq Tryz.prog 284 (fun x:List Int×Int×Unit=>Zt x.1) (fun x:List Int×Int×Unit=>Zx (fun n:Int=>decide (x.2.1=n)) x.1):=Zq.of (T:=Jp) (ic:=Qx) (rs:=Qw) Zk ZT Tryz.func284 (by kernel_rfl) (by kernel_rfl) (by kernel_rfl) a9d
theorem a2x:Zq Tryz.prog 246 (fun x:List Int×Int×Unit=>Zt x.1) (fun x:List Int×Int×Unit=>x.1.contains x.2.1):=Zq.of (T:=DX) (ic:=H8) (rs:=H6) (Zb (Yz Tryz.func284 (by kernel_rfl) b3t) Zk) ZT Tryz.func246 (by kernel_rfl) (by kernel_rfl) (by kernel_rfl) M9
theorem CQ:Zq Tryz.prog 189 (fun x:List Int×Unit=>Zt x.1) (fun x:List Int×Unit=>Y0 x.1):=Zq.of (T:=UD) (ic:=Uf) (rs:=VE) (Zb (Yz Tryz.func246 (by kernel_rfl) a2x) (Zb (Yz Tryz.func247 (by kernel_rfl) LZ) Zk)) ZT Tryz.func189 (by kernel_rfl) (by kernel_rfl) (by kernel_rfl) a0t
theorem GH:Zq Tryz.prog 125 (fun x:List Mono×List Coef×Unit=>Yc x.1&&Zt x.2.1) (fun x:List Mono×List Coef×Unit=>YO x.1 x.2.1):=Zq.of (T:=ZK) (ic:=ZC) (rs:=ZB) (Zb (Yz Tryz.func122 (by kernel_rfl) VO) (Zb (Yz Tryz.func109 (by kernel_rfl) c1o) (Zb (Yz Tryz.func189 (by kernel_rfl) CQ) (Zb (Yz Tryz.func190 (by kernel_rfl) FJ) Zk)))) ZT Tryz.func125 (by kernel_rfl) (by kernel_rfl) (by kernel_rfl) a3c
theorem a6a:Z6 Tryz.prog 124 VX UF:=WO (T:=TT) (ic:=DD) (rs:=Dp) Zk ZT Tryz.func124 (by kernel_rfl) (by kernel_rfl) (by kernel_rfl) b7m
theorem PK{cd:Code}(h:Va Tryz.prog UZ Tryz.f57 0=some cd):X0 Tryz.prog cd=some (.t 32,[33,34],[(13,34)],WP):=by
 have:(Va Tryz.prog UZ Tryz.f57 0).bind (X0 Tryz.prog)=some (.t 32,[33,34],[(13,34)],WP):=by kernel_rfl
 rw[h]at this
 exact this
theorem a0i(hT:Yj Tryz.prog YE): ∀ (B:Nat) (c:Ctx),c.w0.heap.size=B->(∀ i m,0<=i->c.μ0 i m=none)->Mj (QA B 4 hT ZT) (fun n cd=>Va Tryz.prog UZ Tryz.f57 n=some cd) WX c:=by
 rintro B c hB hk n cd hcd st a w q hr ⟨rfl,hE⟩
 exact U4 hT ZT UW (fun x=>rfl) (PK hcd) hB hk hr hE
theorem Nl{cd:Code}(h:Va Tryz.prog UZ Tryz.f57 0=some cd):X0 Tryz.prog cd=some (.t 32,[33,34],[(13,34)],VF):=by
 have:(Va Tryz.prog UZ Tryz.f57 0).bind (X0 Tryz.prog)=some (.t 32,[33,34],[(13,34)],VF):=by kernel_rfl
 rw[h]at this
 exact this
theorem a3s(hT:Yj Tryz.prog YF): ∀ (B:Nat) (c:Ctx),c.w0.heap.size=B->(∀ i m,0<=i->c.μ0 i m=none)->Mj (QA B 4 hT ZT) (fun n cd=>Va Tryz.prog UZ Tryz.f57 n=some cd) WQ c:=by
 rintro B c hB hk n cd hcd st a w q hr ⟨rfl,hE⟩
 exact U4 hT ZT UW (fun x=>rfl) (Nl hcd) hB hk hr hE
theorem SI:Yj Tryz.prog YE:=(Zb (Yz Tryz.func122 (by kernel_rfl) VO) (Zb (Yz Tryz.func123 (by kernel_rfl) b8u) (Zb (Yz Tryz.func116 (by kernel_rfl) QP) (Zb (Yz Tryz.func117 (by kernel_rfl) BO) (Zb (Yz Tryz.func125 (by kernel_rfl) GH) (Zb (Yz Tryz.func124 (by kernel_rfl) a6a) (Zb (Yz Tryz.func126 (by kernel_rfl) DU) Zk)))))))
theorem Sg:Yj Tryz.prog YF:=(Zb (Yz Tryz.func122 (by kernel_rfl) VO) (Zb (Yz Tryz.func123 (by kernel_rfl) c0j) (Zb (Yz Tryz.func116 (by kernel_rfl) a5m) (Zb (Yz Tryz.func117 (by kernel_rfl) BO) (Zb (Yz Tryz.func125 (by kernel_rfl) GH) (Zb (Yz Tryz.func124 (by kernel_rfl) a6a) (Zb (Yz Tryz.func126 (by kernel_rfl) DU) Zk)))))))
theorem ER:Zq Tryz.prog 57 (fun x:BoxT×List Fact×List Mono×Unit=>Jh x.1 x.2.1 x.2.2.1) (fun x:BoxT×List Fact×List Mono×Unit=>X9 x.1 x.2.1 x.2.2.1):=Zq.or (fun x=> !ZZ x.2.2.1||(Xq x.2.2.1).isEmpty)
 (Zq.ofM (T:=YE) (ic:=YK) (rs:=YP) (E:=WX) (sel:=UZ) SI ZT Tryz.func57 (by kernel_rfl) (by kernel_rfl) (by kernel_rfl) (a0i SI) a2p)
 (Zq.ofM (T:=YF) (ic:=YU) (rs:=YV) (E:=WQ) (sel:=UZ) Sg ZT Tryz.func57 (by kernel_rfl) (by kernel_rfl) (by kernel_rfl) (a3s Sg) (fun a h=>a3a a (by
  simp only[Bool.and_eq_true,Bool.not_eq_true',Bool.or_eq_false_iff,Bool.not_eq_false']at h ⊢
  exact h)))
theorem Ac:Zq Tryz.prog 51 (fun x:BoxT×Unit=>ZW x.1) (fun x:BoxT×Unit=>Xh x.1):=Zq.of (T:=Qd) (ic:=Vn) (rs:=Vg) (Zb (Yz Tryz.func84 (by kernel_rfl) Gr) Zk) ZT Tryz.func51 (by kernel_rfl) (by kernel_rfl) (by kernel_rfl) b3z
theorem Bz:Zq Tryz.prog 49 (fun x:BoxT×List Int×Unit=>decide (x.1.v.length<=1000)&&Zt x.2.1) (fun x:BoxT×List Int×Unit=>Zj x.1.v x.2.1):=Zq.of (T:=WT) (ic:=X3) (rs:=XX) Zk ZT Tryz.func49 (by kernel_rfl) (by kernel_rfl) (by kernel_rfl) Lx
theorem Pt:Zq Tryz.prog 44 (fun x:BoxT×List Fact×Unit=>ZW x.1&&YM x.2.1) (fun x:BoxT×List Fact×Unit=>Ux x.1 x.2.1):=Zq.of (T:=WJ) (ic:=Vi) (rs:=X4) (Zb (Yz Tryz.func51 (by kernel_rfl) Ac) (Zb (Yz Tryz.func31 (by kernel_rfl) M6) Zk)) ZT Tryz.func44 (by kernel_rfl) (by kernel_rfl) (by kernel_rfl) MW
theorem GU:Zq Tryz.prog 54 (fun x:List Int×List Int×Unit=>Zt x.1) (fun x:List Int×List Int×Unit=>decide (x.1=x.2.1)):=Zq.of (T:=Uk) (ic:=Vw) (rs:=Vl) Zk ZT Tryz.func54 (by kernel_rfl) (by kernel_rfl) (by kernel_rfl) Oi
theorem RZ:Zq Tryz.prog 115 (fun _:Int×Int×Int×Unit=>true) (fun x:Int×Int×Int×Unit=>QW x.1 x.2.1 x.2.2.1):=Zq.of (T:=Gj) (ic:=K4) (rs:=Jm) (Zb (Yz Tryz.func91 (by kernel_rfl) a0z) (Zb (Yz Tryz.func89 (by kernel_rfl) PP) Zk)) ZT Tryz.func115 (by kernel_rfl) (by kernel_rfl) (by kernel_rfl) NY
theorem P8:Zq Tryz.prog 43 (fun _:Unit=>true) (fun _:Unit=>true):=Zq.of (T:=Hr) (ic:=Jd) (rs:=Jv) (Zb (Yz Tryz.func115 (by kernel_rfl) RZ) (Zb (Yz Tryz.func47 (by kernel_rfl) Mx) (Zb (Yz Tryz.func58 (by kernel_rfl) NZ) (Zb (Yz Tryz.func57 (by kernel_rfl) ER) (Zb (Yz Tryz.func50 (by kernel_rfl) Q0) Zk))))) ZT Tryz.func43 (by kernel_rfl) (by kernel_rfl) (by kernel_rfl) PN
end Go.Proofs.YtjfgiaooglnomaaGreatDoor

namespace Go.Proofs.YtjfgiaooglnomaaGreatDoor
open Go.Pl
open Enc (enc dec is)
open EncL (encL decL isL)
set_option maxRecDepth 100000
theorem a2a:Zq Tryz.prog 8 (fun x:BoxT×List Fact×List Int×Unit=>ZW x.1&&YM x.2.1&&Zt x.2.2.1) (fun _:BoxT×List Fact×List Int×Unit=>true):=Zq.of (T:=Z0) (ic:=ZM) (rs:=ZL) (Zb (Yz Tryz.func43 (by kernel_rfl) P8) (Zb (Yz Tryz.func44 (by kernel_rfl) Pt) (Zb (Yz Tryz.func45 (by kernel_rfl) JZ) (Zb (Yz Tryz.func49 (by kernel_rfl) Bz) (Zb (Yz Tryz.func53 (by kernel_rfl) R7) (Zb (Yz Tryz.func54 (by kernel_rfl) GU) Zk)))))) ZT Tryz.func8 (by kernel_rfl) (by kernel_rfl) (by kernel_rfl) Og
end Go.Proofs.YtjfgiaooglnomaaGreatDoor

namespace Go.Proofs.YtjfgiaooglnomaaGreatDoor
open Go.Pl
open Enc (enc dec is)
open EncL (encL decL isL)
set_option maxRecDepth 100000
theorem DC:Tryz.prog.underlying 3=some (.int .i64):=by kernel_rfl
theorem b3q:Tryz.prog.underlying 4=some .bool:=by kernel_rfl
theorem Eo:Tryz.prog.underlying 9=some .string:=by kernel_rfl
theorem b2p:Tryz.prog.underlying 34=some (.slice 3):=by kernel_rfl
theorem a4x:Tryz.prog.underlying 22=some (.slice 61):=by kernel_rfl
theorem a9m:Tryz.prog.underlying 52=some (.slice 100):=by kernel_rfl
theorem Dk:Tryz.prog.cellsOf 3=1:=by kernel_rfl
theorem b3v:Tryz.prog.cellsOf 4=1:=by kernel_rfl
theorem OT:Tryz.prog.cellsOf 9=1:=by kernel_rfl
theorem b1v:Tryz.prog.cellsOf 22=1:=by kernel_rfl
theorem MM:Tryz.prog.cellsOf 61=2:=by kernel_rfl
theorem Nn:Tryz.prog.cellsOf 24=2:=by kernel_rfl
theorem Ns:Tryz.prog.cellsOf 100=3:=by kernel_rfl
theorem c0d:YZ Tryz.prog 61=true:=by kernel_rfl
theorem b9l:YZ Tryz.prog 100=true:=by kernel_rfl
theorem b9n:YZ Tryz.prog 52=false:=by kernel_rfl
theorem c0l:YZ Tryz.prog 34=false:=by kernel_rfl
theorem a9j:UC Tryz.prog 61=some [(0,9),(1,3)]:=by kernel_rfl
theorem a9z:UC Tryz.prog 24=some [(0,3),(1,22)]:=by kernel_rfl
theorem a4i:UC Tryz.prog 100=some [(0,4),(1,24)]:=by kernel_rfl
theorem Dr{α:Type}[Enc α]{P:α->Prop}{f:List PV->PV}: ∀ {qs:List (List PV)},(∀ q∈qs,∃ a:α,f q=enc a∧P a)-> ∃ l:List α,qs.map f=l.map enc∧ ∀ a∈l,P a
 | [],_=>⟨[],rfl,fun a h=>by cases h⟩
 | q::qs,h=>by
  obtain⟨a,h1,h2⟩:=h q (by simp)
  obtain⟨l,h3,h4⟩:=Dr (qs:=qs) fun r hr=>h r (by simp[hr])
  refine⟨a::l,by rw[List.map_cons,List.map_cons,h1,h3],fun b hb=> ?_⟩
  rcases List.mem_cons.1 hb with rfl|hb
  ·exact h2
  ·exact h4 b hb
theorem C9{α:Type}[Enc α]{f:List PV->PV}{qs:List (List PV)}{l:List α}(h:qs.map f=l.map enc):l.length=qs.length:=by
 have:=congrArg List.length h
 simpa using this.symm
theorem b7u{n:Nat}{q:List PV}(h:Vm Tryz.prog n 61 q): ∃ t:Coef,QD Tryz.prog 61 q=enc t∧True:=by
 obtain⟨m,_,hl,h0,h1,_⟩:=QK a9j MM h
 match q,hl with
 | [a,b],_=>
  rw[OT]at h0
  rw[Dk]at h1
  obtain⟨o,e0,w0⟩:=a4k Eo h0
  obtain⟨k,e1,w1⟩:=BI DC h1
  simp at e0 e1
  subst e0 e1
  exact⟨⟨⟨o⟩,k⟩,by rw[QD,c0d];rfl,trivial⟩
theorem b7o{n:Nat}{q:List PV}(h:Vm Tryz.prog n 22 q): ∃ l:List Coef,q=[enc l]∧l.length<=9223372036854775807:=by
 obtain⟨m,_,qs,rfl,hl,hq⟩:=Jr a4x MM h
 obtain⟨l,e,_⟩:=Dr (α:=Coef) (P:=fun _=>True) (f:=QD Tryz.prog 61) fun x hx=>b7u (hq x hx).2
 have hl:qs.length<=9223372036854775807:=hl
 exact⟨l,by rw[e];rfl,by rw[C9 e];exact hl⟩
theorem b7s{n:Nat}{q:List PV}(h:Vm Tryz.prog n 34 q): ∃ l:List Int,q=[enc l]∧l.length<=9223372036854775807:=by
 obtain⟨d,rfl,l1,_⟩:=a0l b2p DC Dk h
 exact⟨d,rfl,l1⟩
theorem b5h{n:Nat}{a b:PV}(h:Vm Tryz.prog n 24 [a,b]): ∃ l:Lin,a=enc l.k∧b=enc l.t∧YW l=true:=by
 obtain⟨m,_,hl,h0,h1,_⟩:=QK a9z Nn h
 rw[Dk]at h0
 rw[b1v]at h1
 obtain⟨o,e0,w0⟩:=BI DC h0
 obtain⟨t,e1,l1⟩:=b7o h1
 simp at e0 e1
 subst e0 e1
 exact⟨⟨o,t⟩,rfl,rfl,by simp only[YW];exact decide_eq_true l1⟩
theorem a1m{n:Nat}{q:List PV}(h:Vm Tryz.prog n 100 q): ∃ f:Fact,QD Tryz.prog 100 q=enc f∧YW f.l=true:=by
 obtain⟨m,_,hl,h0,h1,_⟩:=QK a4i Ns h
 match q,hl with
 | [a,b,c],_=>
  rw[b3v]at h0
  rw[Nn]at h1
  obtain⟨o,e0⟩:=a3e b3q h0
  obtain⟨l,e1,e2,h2⟩:=b5h (a:=b) (b:=c) h1
  simp at e0
  subst e0 e1 e2
  exact⟨⟨o,l⟩,by rw[QD,b9l];rfl,h2⟩
theorem MU{n:Nat}{q:List PV}(h:Vm Tryz.prog n 52 q): ∃ l:List Fact,QD Tryz.prog 52 q=enc l∧l.length<=9223372036854775807∧ ∀ f∈l,YW f.l=true:=by
 obtain⟨m,_,qs,rfl,hl,hq⟩:=Jr a9m Ns h
 obtain⟨l,e,hk⟩:=Dr (α:=Fact) (P:=fun f=>YW f.l=true) (f:=QD Tryz.prog 100) fun x hx=>a1m (hq x hx).2
 have hl:qs.length<=9223372036854775807:=hl
 exact⟨l,by rw[QD,b9n,e];rfl,by rw[C9 e];exact hl,hk⟩
end Go.Proofs.YtjfgiaooglnomaaGreatDoor

namespace Go.Pl
open Go.RowKit Go.WideShapes Go.ChangeShapes
def YG(P:Program):Nat->TypeId->List PV->Prop
 | 0,_,_=>False
 | n+1,t,ps=>match P.underlying t with
  | some .bool=> ∃ b,ps=[.bool b]
  | some (.int k)=> ∃ m,ps=[.int k m]∧(Lit.int k m).wf=true
  | some .string=> ∃ s:List UInt8,ps=[.str s]∧s.length<=reachBytes
  | some (.slice e)=> ∃ qs:List (List PV),ps=[.sl (P.cellsOf e) false (qs.map (QD P e))]∧qs.length*P.bytesOf e<=reachBytes∧qs.length<=maxLen∧ ∀ q∈qs,q.length=P.cellsOf e∧YG P n e q
  | some (.struct fs)=>ps.length=P.cellsOf t∧ ∀ f∈fs.toList,YG P n f.type ((ps.drop f.offset).take (P.cellsOf f.type))
  | some (.array m e)=>ps.length=P.cellsOf t∧ ∀ i<m,YG P n e ((ps.drop (i*P.cellsOf e)).take (P.cellsOf e))
  | _=>False
theorem Ju{P:Program}: ∀ (n:Nat) (t:TypeId) (ps:List PV),YG P n t ps->Vm P n t ps:=by
 intro n
 induction n with
 | zero=>intro t ps h;exact h
 | succ n ih=>
  intro t ps h
  unfold YG at h
  unfold Vm
  split at h <;> (try rename_i hu) <;> (try simp only[hu]) <;> try (exact h.elim)
  ·exact h
  ·exact h
  ·obtain⟨s,h1,h2⟩:=h
   exact⟨s,h1,Nat.le_trans h2 (by decide)⟩
  ·obtain⟨qs,h1,h2,h3,h4⟩:=h
   exact⟨qs,h1,h3,fun q hq=>⟨(h4 q hq).1,ih _ _ (h4 q hq).2⟩⟩
  ·exact⟨h.1,fun f hf=>ih _ _ (h.2 f hf)⟩
  ·exact⟨h.1,fun i hi=>ih _ _ (h.2 i hi)⟩
def wok{H:Type}(P:Program)(t:TypeId)(d:DataW H):Prop:= ∀ n∈d.weights P t,n<=reachBytes
theorem Rm{H:Type}{P:Program}{e:TypeId}: ∀ {l:List (DataW H)},(∀ n∈DataW.weightsAll P e l,n<=reachBytes)-> ∀ d∈l,wok P e d
 | [],_,d,h=>by cases h
 | d::l,hw,x,h=>by
  have h1:DataW.weightsAll P e (d::l)=d.weights P e++DataW.weightsAll P e l:=by rw[DataW.weightsAll]
  rw[h1]at hw
  rcases List.mem_cons.1 h with rfl|h
  ·exact fun n hn=>hw n (List.mem_append_left _ hn)
  ·exact Rm (fun n hn=>hw n (List.mem_append_right _ hn)) x h
section
variable {H:Type} {enc:TypeId×Value->H} {P:Program} {w:World} {base:Nat} {sp:Nat->Bool} {held:Bool} {S:List TypeId}
theorem Ph{n:Nat}{cs:List Value}(ih : ∀ (t:TypeId) (cs:List Value) (x:DataW H×List MemPlace),t∈S->DataW.trod enc P w base sp held n t cs=some x->wok P t x.1-> ∃ ps,Cl w cs ps∧YG P n t ps):
  ∀ (fs:List Field) (o N:Nat) (xs:List (DataW H×List MemPlace)),Qq P o fs N=true->(∀ f∈fs,f.type∈S)->cs.length=N->o<=N ->
   fs.mapM (fun f=>DataW.trod enc P w base sp held n f.type ((cs.drop f.offset).take (P.cellsOf f.type)))=some xs->(∀ k∈DataW.weightsEach P (fs.map (·.type)) (xs.map (·.1)),k<=reachBytes) ->
   ∃ ps,Cl w (cs.drop o) ps∧ ∀ qs:List PV,qs.length=o-> ∀ f∈fs,YG P n f.type (((qs++ps).drop f.offset).take (P.cellsOf f.type)):=by
 intro fs
 induction fs with
 | nil=>
  intro o N xs hc _ hl ho _ _
  simp[Qq]at hc
  refine⟨[],?_,fun qs _ f hf=>by simp at hf⟩
  rw[List.drop_of_length_le (by omega)]
  exact Cl.nil
 | cons f fs ihf=>
  intro o N xs hc hm hl ho h hW
  simp only[Qq,Bool.and_eq_true,beq_iff_eq]at hc
  obtain⟨hfo,hc⟩:=hc
  simp only[List.mapM_cons,Option.bind_eq_bind,Option.bind_eq_some_iff]at h
  obtain⟨x,hx,xs',hxs,e⟩:=h
  cases e
  have hE:DataW.weightsEach P ((f::fs).map (·.type)) ((x::xs').map (·.1))=x.1.weights P f.type++DataW.weightsEach P (fs.map (·.type)) (xs'.map (·.1)):=by rw[List.map_cons,List.map_cons,DataW.weightsEach]
  rw[hE]at hW
  obtain⟨p1,k1,k2⟩:=ih _ _ x (hm f List.mem_cons_self) hx (fun k hk=>hW k (List.mem_append_left _ hk))
  have hle:o+P.cellsOf f.type<=N:=by
   have : ∀ (fs:List Field) (a:Nat),Qq P a fs N=true->a<=N:=by
    intro fs
    induction fs with
    | nil=>intro a h;simp[Qq]at h;omega
    | cons g fs ih=>intro a h;simp only[Qq,Bool.and_eq_true]at h;have:=ih _ h.2;omega
   exact this _ _ hc
  obtain⟨p2,k3,k4⟩:=ihf (o+P.cellsOf f.type) N xs' hc (fun g hg=>hm g (List.mem_cons_of_mem _ hg)) hl hle hxs (fun k hk=>hW k (List.mem_append_right _ hk))
  have hp1:p1.length=P.cellsOf f.type:=by
   rw[<- k1.1.1,List.length_take,List.length_drop,hfo]
   omega
  refine⟨p1++p2,?_,fun qs hq g hg=> ?_⟩
  ·have:=k1.append k3
   rw[hfo]at this
   have e:cs.drop o=(cs.drop o).take (P.cellsOf f.type)++cs.drop (o+P.cellsOf f.type):=by rw[<- List.drop_drop,List.take_append_drop]
   rw[e]
   exact this
  ·rcases List.mem_cons.1 hg with rfl|hg
   ·rw[hfo,<- hq,List.drop_left,<- hp1,List.take_left]
    exact k2
   ·have:=k4 (qs++p1) (by simp[hq,hp1]) g hg
    rwa [List.append_assoc]at this
theorem RJ{n m sz:Nat}{e:TypeId}(he:P.cellsOf e=sz){cs:List Value}(ih : ∀ i,i<m-> ∃ ps,Cl w ((cs.drop (i*sz)).take sz) ps∧YG P n e ps)(hl:cs.length=m*sz):
  ∃ ps,Cl w cs ps∧ ∀ i<m,YG P n e ((ps.drop (i*sz)).take sz):=by
 induction m generalizing cs with
 | zero=>
  have:cs=[]:=List.length_eq_zero_iff.1 (by omega)
  subst this
  exact⟨[],Cl.nil,fun i h=>by omega⟩
 | succ m ihm=>
  obtain⟨p1,k1,k2⟩:=ih 0 (by omega)
  simp only[Nat.zero_mul,List.drop_zero]at k1
  have hl1:p1.length=sz:=by
   rw[<- k1.1.1,List.length_take,hl,Nat.succ_mul]
   omega
  obtain⟨p2,k3,k4⟩:=ihm (cs:=cs.drop sz) (fun i hi=>by
   have:=ih (i+1) (by omega)
   rwa [Nat.succ_mul,Nat.add_comm,<- List.drop_drop]at this) (by rw[List.length_drop,hl,Nat.succ_mul];omega)
  refine⟨p1++p2,by have:=k1.append k3;rwa [List.take_append_drop]at this,fun i hi=> ?_⟩
  cases i with
  | zero=>
   simp only[Nat.zero_mul,List.drop_zero]
   rw[<- hl1,List.take_left]
   exact k2
  | succ i=>
   have:=k4 i (by omega)
   have e2:(p1++p2).drop ((i+1)*sz)=p2.drop (i*sz):=by
    rw[Nat.succ_mul,Nat.add_comm,<- List.drop_drop]
    congr 1
    rw[<- hl1,List.drop_left]
   rwa [e2]
theorem NC{n:Nat}{e:TypeId}{a:Addr}{len cap:Nat}{xs:List (DataW H×List MemPlace)}(hsz:0<P.cellsOf e)(hag:YZ P e=true∨P.cellsOf e=1)(hcap:len<=cap)(hmax:cap<=maxLen)
  (ih : ∀ (cs:List Value) (x:DataW H×List MemPlace),DataW.trod enc P w base sp held n e cs=some x->wok P e x.1-> ∃ ps,Cl w cs ps∧YG P n e ps)
  (h:(List.range len).mapM (fun i=>(w.cells? base (a.add (i*P.cellsOf e)) (P.cellsOf e)).bind (DataW.trod enc P w base sp held n e))=some xs) (hW : ∀ x∈xs,wok P e x.1) (hB:xs.length*P.bytesOf e<=reachBytes) :
  ∃ qs:List (List PV),RP (BU w) (.slice (some a) len cap) (.sl (P.cellsOf e) false (qs.map (QD P e)))∧qs.length*P.bytesOf e<=reachBytes∧qs.length<=maxLen∧ ∀ q∈qs,q.length=P.cellsOf e∧YG P n e q:=by
 obtain⟨hl,hg⟩:=Ca h
 rw[List.length_range]at hl
 have key : ∀ i,i<len-> ∃ q:List PV,(q.length=P.cellsOf e∧YG P n e q)∧ ∀ (r:Nat) p,q[r]? = some p-> ∃ v,w.cell? (a.add (i*P.cellsOf e+r))=some v∧v.oneCell'=true∧RP (BU w) v p:=by
  intro i hi
  have hx:=List.getElem?_eq_getElem (show i<xs.length by omega)
  have:=hg i i _ (by simp[hi]) hx
  rw[Option.bind_eq_some_iff]at this
  obtain⟨cs,h1,h2⟩:=this
  obtain⟨q,k1,k2⟩:=ih cs _ h2 (hW _ (List.getElem_mem _))
  obtain⟨c1,c2⟩:=a3k h1
  refine⟨q,⟨by rw[<- k1.1.1,c1],k2⟩,fun r p hp=> ?_⟩
  have hr:r<cs.length:=by rw[k1.1.1];exact(List.getElem?_eq_some_iff.1 hp).1
  have hv:=List.getElem?_eq_getElem hr
  refine⟨_,?_,k1.2 _ (List.getElem_mem hr),k1.1.2 r _ p hv hp⟩
  rw[<- a2g]
  exact c2 r _ hv
 obtain⟨qs,hq1,hq2⟩:=NU len key
 have hcells : ∀ q∈qs,(QD P e q).cells=q:=by
  intro q hq
  obtain⟨i,hi,rfl⟩:=List.getElem_of_mem hq
  have:=(hq2 i _ (List.getElem?_eq_getElem hi)).1
  exact a0w hag this.1 fun ha=>a5t (Ju _ _ _ this.2) ha
 refine⟨qs,?_,by rw[hq1,<- hl];exact hB,by omega,fun q hq=> ?_⟩
 ·by_cases h0:len=0
  ·subst h0
   have:qs=[]:=List.length_eq_zero_iff.1 hq1
   subst this
   exact .sl0 _ _ _ _ fun e=>by cases e
  ·-- the first cell tells the block
   obtain⟨b,off,cs,rfl,hb,-⟩ : ∃ b off cs,a=⟨b,off,none⟩∧BU w b=some cs∧True:=by
    have hq0:=List.getElem?_eq_getElem (show 0<qs.length by omega)
    obtain⟨⟨f1,f2⟩,f3⟩:=hq2 0 _ hq0
    have hp:=List.getElem?_eq_getElem (show 0<(qs[0]'(by omega)).length by omega)
    obtain⟨v,hv,_⟩:=f3 0 _ hp
    simp[Addr.add]at hv
    obtain⟨b,off,cs,e1,e2,_⟩:=Tm hv
    exact⟨b,off,cs,e1,e2,trivial⟩
   have hs : ∀ x∈qs.map (QD P e),x.cells.length=P.cellsOf e:=by
    intro x hx
    obtain⟨q,hq,rfl⟩:=List.mem_map.1 hx
    rw[hcells q hq]
    obtain⟨i,hi,rfl⟩:=List.getElem_of_mem hq
    exact(hq2 i _ (List.getElem?_eq_getElem hi)).1.1
   have hat : ∀ (j:Nat) p,(flat (qs.map (QD P e)))[j]? = some p-> ∃ v,cs[off+j]? = some v∧v.oneCell'=true∧RP (BU w) v p:=by
    intro j p hp
    have hj:j<len*P.cellsOf e:=by
     have:=(List.getElem?_eq_some_iff.1 hp).1
     rw[WE hs]at this
     simpa [hq1]using this
    have hi:j / P.cellsOf e<qs.length:=by rw[hq1];exact(Nat.div_lt_iff_lt_mul hsz).2 hj
    have hr:j % P.cellsOf e<P.cellsOf e:=Nat.mod_lt _ hsz
    have hqi:=List.getElem?_eq_getElem hi
    have e0:j=j / P.cellsOf e*P.cellsOf e+j % P.cellsOf e:=by rw[Nat.mul_comm];exact(Nat.div_add_mod _ _).symm
    have hxi:(qs.map (QD P e))[j / P.cellsOf e]? = some (QD P e qs[j / P.cellsOf e]):=by rw[List.getElem?_map,hqi];rfl
    have hfg:=Mv hs hxi hr
    rw[<- e0,hcells _ (List.getElem_mem hi)]at hfg
    rw[hfg]at hp
    obtain⟨v,hv,h1,h2⟩:=(hq2 _ _ hqi).2 _ p hp
    rw[<- e0,XD]at hv
    obtain⟨b',off',cs',e1,e2,e3⟩:=Tm hv
    cases e1
    rw[hb]at e2
    cases e2
    exact⟨v,e3,h1,h2⟩
   have hlen:len=(qs.map (QD P e)).length:=by simp[hq1]
   rw[hlen]
   refine .sl b off cs cap _ false _ (fun j=>(cs[off+j]?).getD default) hb (by rw[<- hlen];exact hcap) (fun e=>by cases e) hs (fun j p hp=> ?_) (fun j p hp=> ?_)
   ·obtain⟨v,h1,h2,h3⟩:=hat j p hp
    rw[h1]
    exact⟨rfl,h2⟩
   ·obtain⟨v,h1,h2,h3⟩:=hat j p hp
    rw[h1]
    exact h3
 ·obtain⟨i,hi,rfl⟩:=List.getElem_of_mem hq
  exact(hq2 i _ (List.getElem?_eq_getElem hi)).1
theorem FK(hS:TV P S=true): ∀ (n:Nat) (t:TypeId) (cs:List Value) (x:DataW H×List MemPlace),t∈S->DataW.trod enc P w base sp held n t cs=some x->wok P t x.1-> ∃ ps,Cl w cs ps∧YG P n t ps:=by
  intro n
  induction n with
  | zero=>intro t cs x _ h _;simp[DataW.trod]at h
  | succ n ih=>
    intro t cs x ht h hW
    have hp:=SY hS ht
    unfold DataW.trod at h
    unfold YG
    split at h <;> (try rename_i hu) <;> (try simp only[hu]at hp ⊢) <;> try (cases hp;done)
    all_goals first
      | (exact⟨_,Cl.one (.bool _) rfl,_,rfl⟩)
      | (split at h
         · rename_i hc
           obtain⟨rfl,hw⟩:=hc
           exact⟨_,Cl.one (.int _ _) rfl,_,rfl,hw⟩
         · cases h)
      | (split at h
         · rename_i hc
           cases h
           exact⟨_,Cl.one (.str _) rfl,_,rfl,hW _ (by rw[DataW.weights];exact List.mem_singleton.2 rfl)⟩
         · cases h)
      | (cases h;done)
      | skip
    · exact⟨_,Cl.one (.sl0 _ _ _ false (fun e=>by cases e)) rfl,[],rfl,by simp,by simp,fun q hq=>by simp at hq⟩
    · rename_i e a len cap
      simp only[Bool.and_eq_true,Bool.or_eq_true,beq_iff_eq,decide_eq_true_eq]at hp
      simp only at h
      split at h
      · rename_i hc
        obtain⟨xs,h1,h3⟩:=Option.bind_eq_some_iff.1 h
        obtain⟨ys,h4,rfl⟩:=Option.map_eq_some_iff.1 h3
        have hE:DataW.weights P t (DataW.slice (xs.map (·.1)) (ys.map (·.1)):DataW H)=((xs.map (·.1)).length+(ys.map (·.1)).length)*P.bytesOf e::(DataW.weightsAll P e (xs.map (·.1))++DataW.weightsAll P e (ys.map (·.1))):=by
          rw[DataW.weights];simp only[hu]
        have hW' : ∀ k∈((xs.map (·.1)).length+(ys.map (·.1)).length)*P.bytesOf e::(DataW.weightsAll P e (xs.map (·.1))++DataW.weightsAll P e (ys.map (·.1))),k<=reachBytes:=by rw[<- hE];exact hW
        have hB:xs.length*P.bytesOf e<=reachBytes:=by
          have h5:=hW' _ List.mem_cons_self
          rw[List.length_map,List.length_map]at h5
          exact Nat.le_trans (Nat.mul_le_mul_right _ (Nat.le_add_right _ _)) h5
        have hA : ∀ x∈xs,wok P e x.1:=fun x hx=>Rm (fun k hk=>hW' k (List.mem_cons_of_mem _ (List.mem_append_left _ hk))) x.1 (List.mem_map.2 ⟨x,hx,rfl⟩)
        obtain⟨qs,k1,k2,k2',k3⟩:=NC hp.1.2 hp.2 hc.2.1 hc.2.2 (fun cs x hx hw=>ih e cs x (by simpa using hp.1.1.2) hx hw) h1 hA hB
        exact⟨_,Cl.one k1 rfl,qs,rfl,k2,k2',k3⟩
      · cases h
    · rename_i cs2 fs
      simp only[Bool.and_eq_true]at hp
      split at h
      · rename_i hc
        rw[Option.map_eq_some_iff]at h
        obtain⟨xs,h1,rfl⟩:=h
        have hE:DataW.weights P t (DataW.agg (xs.map (·.1)):DataW H)=DataW.weightsEach P (fs.toList.map (·.type)) (xs.map (·.1)):=by
          rw[DataW.weights];simp only[hu]
        have hW' : ∀ k∈DataW.weightsEach P (fs.toList.map (·.type)) (xs.map (·.1)),k<=reachBytes:=by rw[<- hE];exact hW
        obtain⟨ps,k1,k2⟩:=Ph ih fs.toList 0 (P.cellsOf t) xs hp.1 (fun f hf=>by simpa using List.all_eq_true.1 hp.2 f hf) hc (Nat.zero_le _) h1 hW'
        rw[List.drop_zero]at k1
        exact⟨ps,k1,by rw[<- k1.1.1,hc],fun f hf=>by simpa using k2 [] rfl f hf⟩
      · cases h
    · rename_i cs1 _ cs2 m e
      simp only[Bool.and_eq_true,beq_iff_eq]at hp
      split at h
      · rename_i hc
        rw[Option.map_eq_some_iff]at h
        obtain⟨xs,h1,rfl⟩:=h
        have hE:DataW.weights P t (DataW.agg (xs.map (·.1)):DataW H)=DataW.weightsAll P e (xs.map (·.1)):=by
          rw[DataW.weights];simp only[hu]
        have hW' : ∀ k∈DataW.weightsAll P e (xs.map (·.1)),k<=reachBytes:=by rw[<- hE];exact hW
        obtain⟨hl,hg⟩:=Ca h1
        rw[List.length_range]at hl
        obtain⟨ps,k1,k2⟩:=RJ (n:=n) (m:=m) (e:=e) rfl (cs:=cs1) (fun i hi=>by
          have hx:=List.getElem?_eq_getElem (show i<xs.length by omega)
          exact ih e _ _ (by simpa using hp.1) (hg i i _ (by simp[hi]) hx) (Rm hW' _ (List.mem_map.2 ⟨_,List.getElem_mem (show i<xs.length by omega),rfl⟩))) (by rw[hc,hp.2])
        exact⟨ps,k1,by rw[<- k1.1.1,hc],k2⟩
      · cases h
theorem Ha(hS:TV P S=true){t:TypeId}(ht:t∈S){r:Reach}{b0:Nat}{v:Value}{d:DataW H}{p:List MemPlace}(hval:Value.okWide P w r b0 t v)(h:DataW.Trod enc P w base sp held t v d p)(hW:wok P t d):
  ∃ n q,RP (BU w) v (QD P t q)∧YG P n t q:=by
 obtain⟨n,h⟩:=h
 obtain⟨q,k1,k2⟩:=FK hS n t _ _ ht h hW
 refine⟨n,q,?_,k2⟩
 have hp:=SY hS ht
 have scal:v.cells = #[v]->YZ P t=false->RP (BU w) v (QD P t q):=by
  intro hc ha
  rw[hc]at k1
  have hl:=k1.1.1
  match q,hl with
  | [x],_=>simp only[QD,ha,List.headD_cons];exact k1.1.2 0 v x rfl rfl
 have agg : ∀ cs,v = .agg cs->YZ P t=true->RP (BU w) v (QD P t q):=by
  rintro cs rfl ha
  simp only[QD,ha]
  exact .agg cs q (by have:=k1.1.1;simpa [Value.cells]using this) (fun x hx=>k1.2 x (by simpa [Value.cells]using hx)) fun j x y hx hy=>k1.1.2 j x y (by simpa [Value.cells]using hx) hy
 split at hp
 ·rename_i hu
  obtain⟨b,rfl⟩:=okWide_bool hu hval
  exact scal rfl (by simp[YZ,hu])
 ·rename_i hu
  obtain⟨b,rfl⟩:=okWide_int hu hval
  exact scal rfl (by simp[YZ,hu])
 ·rename_i hu
  obtain⟨b,rfl⟩:=okWide_string hu hval
  exact scal rfl (by simp[YZ,hu])
 ·rename_i hu
  obtain⟨a,l,c,rfl⟩:=okWide_slice hu hval
  exact scal rfl (by simp[YZ,hu])
 ·rename_i hu
  simp only[Value.okWide,hu]at hval
  obtain⟨cs,rfl,_⟩:=hval
  exact agg cs rfl (by simp[YZ,hu])
 ·rename_i hu
  simp only[Value.okWide,hu]at hval
  obtain⟨cs,rfl,_⟩:=hval
  exact agg cs rfl (by simp[YZ,hu])
 ·cases hp
end
section
variable {P:Program}
def b2c(P:Program)(n:Nat)(q:List PV):List (Nat×TypeId)->Prop
 | []=>True
 | (o,t)::r=>YG P n t ((q.drop o).take (P.cellsOf t))∧b2c P n q r
theorem Ri{n c:Nat}{t:TypeId}{q:List PV}{l:List (Nat×TypeId)}(hs:UC P t=some l)(hc:P.cellsOf t=c)(h:YG P n t q): ∃ m,n=m+1∧q.length=c∧b2c P m q l:=by
 cases n with
 | zero=>exact h.elim
 | succ m=>
  unfold UC at hs
  split at hs
  ·rename_i fs hu
   cases hs
   simp only[YG,hu]at h
   refine⟨m,rfl,by rw[h.1,hc],?_⟩
   have key : ∀ l:List Field,(∀ f∈l,YG P m f.type ((q.drop f.offset).take (P.cellsOf f.type)))->b2c P m q (l.map fun f=>(f.offset,f.type)):=by
    intro l
    induction l with
    | nil=>intro _;trivial
    | cons f l ih=>intro h;exact⟨h f List.mem_cons_self,ih fun g hg=>h g (List.mem_cons_of_mem _ hg)⟩
   exact key _ h.2
  ·cases hs
theorem a0f{n:Nat}{t:TypeId}{k:IntKind}{q:List PV}(hu:P.underlying t=some (.int k))(h:YG P n t q): ∃ m,q=[.int k m]∧(Lit.int k m).wf=true:=by
 cases n with
 | zero=>exact h.elim
 | succ m=>simpa only[YG,hu]using h
theorem a3i{n:Nat}{t:TypeId}{q:List PV}(hu:P.underlying t=some .string)(h:YG P n t q): ∃ s:List UInt8,q=[.str s]∧s.length<=reachBytes:=by
 cases n with
 | zero=>exact h.elim
 | succ m=>simpa only[YG,hu]using h
theorem Mw{n c:Nat}{t e:TypeId}{q:List PV}(hu:P.underlying t=some (.slice e))(hc:P.cellsOf e=c)(h:YG P n t q): ∃ m,n=m+1∧ ∃ qs:List (List PV),q=[.sl c false (qs.map (QD P e))]∧qs.length*P.bytesOf e<=reachBytes∧qs.length<=maxLen∧ ∀ x∈qs,x.length=c∧YG P m e x:=by
 cases n with
 | zero=>exact h.elim
 | succ m=>
  subst hc
  simp only[YG,hu]at h
  exact⟨m,rfl,h⟩
end
end Go.Pl

namespace Go.Proofs.YtjfgiaooglnomaaGreatDoor
open Go.Pl
open Enc (enc dec is)
open EncL (encL decL isL)
set_option maxRecDepth 100000
theorem Gm{H:Type}{P:Program}{t:TypeId}{ts:List TypeId}{d:DataW H}{ds:List (DataW H)}(h:(DataW.weightsEach P (t::ts) (d::ds)).all (· <= reachBytes)=true):wok P t d∧(DataW.weightsEach P ts ds).all (· <= reachBytes)=true:=by
 have e:DataW.weightsEach P (t::ts) (d::ds)=d.weights P t++DataW.weightsEach P ts ds:=by rw[DataW.weightsEach]
 rw[e,List.all_append,Bool.and_eq_true]at h
 exact⟨fun n hn=>of_decide_eq_true (List.all_eq_true.1 h.1 n hn),h.2⟩
theorem b0v:Tryz.prog.underlying 76=some (.slice 9):=by kernel_rfl
theorem a6r:Tryz.prog.cellsOf 76=1:=by kernel_rfl
theorem c3k:YZ Tryz.prog 9=false:=by kernel_rfl
theorem c2o:YZ Tryz.prog 78=true:=by kernel_rfl
theorem a4w:Tryz.prog.cellsOf 78=2:=by kernel_rfl
theorem a8b:UC Tryz.prog 78=some [(0,76),(1,3)]:=by kernel_rfl
theorem b7k{n:Nat}{q:List PV}(h:YG Tryz.prog n 9 q): ∃ s:Str,QD Tryz.prog 9 q=enc s∧s.s.length<=281474976710656:=by
 obtain⟨s,rfl,hs⟩:=a3i Eo h
 exact⟨⟨s⟩,by rw[QD,c3k];rfl,Nat.le_trans hs (by decide)⟩
theorem a5d{n:Nat}{q:List PV}(h:YG Tryz.prog n 76 q): ∃ l:List Str,q=[enc l]∧Wj l=true:=by
 obtain⟨m,_,qs,rfl,_,hl,hq⟩:=Mw b0v OT h
 obtain⟨l,e,hk⟩:=Dr (α:=Str) (P:=fun s=>s.s.length<=281474976710656) (f:=QD Tryz.prog 9) fun x hx=>b7k (hq x hx).2
 have hl:qs.length<=9223372036854775807:=hl
 refine⟨l,by rw[e];rfl,?_⟩
 unfold Wj
 rw[Bool.and_eq_true]
 exact⟨ZN.2 (by rw[C9 e];exact hl),List.all_eq_true.2 fun s hs=>decide_eq_true (hk s hs)⟩
theorem a5s{n:Nat}{q:List PV}(h:YG Tryz.prog n 78 q): ∃ b:BoxT,QD Tryz.prog 78 q=enc b∧ZW b=true:=by
 obtain⟨m,_,hl,h0,h1,_⟩:=Ri a8b a4w h
 match q,hl with
 | [a,b],_=>
  rw[a6r]at h0
  rw[Dk]at h1
  obtain⟨v,e0,w0⟩:=a5d h0
  obtain⟨k,e1,w1⟩:=a0f DC h1
  simp at e0 e1
  subst e0 e1
  exact⟨⟨v,k⟩,by rw[QD,c2o];rfl,w0⟩
theorem b0f{n:Nat}{q:List PV}(h:YG Tryz.prog n 52 q): ∃ l:List Fact,QD Tryz.prog 52 q=enc l∧YM l=true:=by
 obtain⟨l,e,h1,h2⟩:=MU (Ju _ _ _ h)
 refine⟨l,e,?_⟩
 simp only[YM,Bool.and_eq_true,decide_eq_true_eq,List.all_eq_true]
 exact⟨h1,h2⟩
theorem a8u{n:Nat}{q:List PV}(h:YG Tryz.prog n 34 q): ∃ l:List Int,QD Tryz.prog 34 q=enc l∧Zt l=true:=by
 obtain⟨d,rfl,h1⟩:=b7s (Ju _ _ _ h)
 exact⟨d,by rw[QD,c0l];rfl,ZN.2 h1⟩
theorem a4a{n0 n1 n2:Nat}{q0 q1 q2:List PV}(h0:YG Tryz.prog n0 78 q0)(h1:YG Tryz.prog n1 52 q1)(h2:YG Tryz.prog n2 34 q2):
  preT (fun x:BoxT×List Fact×List Int×Unit=>ZW x.1&&YM x.2.1&&Zt x.2.2.1) [QD Tryz.prog 78 q0,QD Tryz.prog 52 q1,QD Tryz.prog 34 q2]=true:=by
 obtain⟨b,e0,a0⟩:=a5s h0
 obtain⟨fs,e1,a1⟩:=b0f h1
 obtain⟨p,e2,a2⟩:=a8u h2
 rw[e0,e1,e2]
 exact Zl (b,fs,p,()) rfl (by show(ZW b&&YM fs&&Zt p)=true;rw[a0,a1,a2];rfl)
end Go.Proofs.YtjfgiaooglnomaaGreatDoor

