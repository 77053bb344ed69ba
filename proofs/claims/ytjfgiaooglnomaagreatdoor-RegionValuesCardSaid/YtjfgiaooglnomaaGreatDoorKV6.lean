/-
  Texts of mine that belong together (packed by pack.py), for every input: Post, PlGl, LaidY, Sh, ShB, OkCe, ShE, OkGa, OkN, OkR, Int10, Irp, VwS, VwT, OkGb, Irs, OkGc, OkGl, OpY, PlGs, OpG, OpH.
-/
import Derived.Test.YtjfgiaooglnomaaGreatDoorChecked
import Derived.Test.YtjfgiaooglnomaaGreatDoorRows
import Derived.Test.YtjfgiaooglnomaaGreatDoorKV2
import Derived.Test.YtjfgiaooglnomaaGreatDoorKV3
import Derived.Test.YtjfgiaooglnomaaGreatDoorKV4
import Derived.Test.YtjfgiaooglnomaaGreatDoorKV5
import Derived.Below
import Derived.ChangeSame
import Derived.ChangeShapes
import Derived.ChangeSlices
import Derived.WideShapes
import Derived.RowKit
import Derived.Stop.LaidErr
import Derived.Lib.LaidTab
import Derived.Shelf.Strconv.AtoiAll
import Derived.Shelf.Strconv.Itoa3
import Derived.Shelf.Strings.Prefix
import Derived.Shelf.Sort.Plain
import Derived.Shelf.Small.Strs
import Derived.Shelf.Slices.In.SortNone
import Derived.KernelRfl
import Derived.Shelf.Slices.Clone
import Derived.Shelf.Slices.CompactS
import Derived.BigQuiet
import Derived.Calls
import Derived.Deep.AppendLies
import Derived.Deep.DeepCutAuto
import Derived.Deep.Draws
import Derived.Deep.QuietTactic
import Derived.Deep.RegionHeld3
import Derived.Deep.RegionWith
import Derived.IntWalk
import Derived.Laws.Bits64b
import Derived.Laws.Externs
import Derived.Laws.OwnMore
import Derived.Laws.Rows
import Derived.Lib.Hide
import Derived.Lib.Mul64
import Derived.Outline
import Derived.WalkKit
import Derived.WalkLawsBesides
import Derived.WalkSpells
import Derived.RangeFuncBox
import Derived.RangeFuncLeaves
import Derived.RangeFuncNested
import Derived.RangeFuncCalls
import Derived.Shelf.Abstract
import Derived.OwnWalkIn
import Derived.TacticsInMore
import Derived.LoopNIn
import Derived.LoopIn
import Derived.Maps.AppendAt
import Derived.Sort.LoopGhostIn
set_option linter.unusedVariables false
set_option linter.unusedSimpArgs false
namespace Go.Proofs.YtjfgiaooglnomaaGreatDoor
open Go.RowKit Go.WideShapes Go.ChangeShapes
section
variable {H:Type} {enc:TypeId×Value->H} {P:Program}
theorem Nb{f:Func}{s:ChangeSpec}{apart fresh handsOn again:Bool}{W W':World}{args:Array Value}{v:Value}{ds gs:List (DataW H)}{before pa pv:List MemPlace}
  (hW:DataW.Whole enc P f.params.toList s.vars apart W args.toList ds gs before)
  (hres : ∀ (b:Nat) (sp:Nat->Bool) (hd:Bool),DataW.TrodAll enc P W' b sp hd f.resultTypes.toList (v.resultList f.resultTypes.size) (s.fn H (ds++gs)).results [])
  (hargs : ∀ sp:Nat->Bool,(∀ p∈before,sp p.block=true)->DataW.TrodAll enc P W' 0 sp true f.params.toList args.toList (s.fn H (ds++gs)).args pa)
  (hvars : ∀ sp:Nat->Bool,(∀ p∈before,sp p.block=true)->DataW.TrodVars enc P W' sp s.vars (s.fn H (ds++gs)).vars pv)
  (hps:before=pa++pv) (hb:Below W.heap.size W W')
  (hok : ∀ (j:Nat) (t:TypeId) (r:Value),f.resultTypes[j]? = some t->(v.resultList f.resultTypes.size)[j]? = some r->Value.okWide P W' .any 0 t r) :
  s.post enc P f apart fresh handsOn again W args v W':=by
 have hlt : ∀ p∈before,p.block<W.heap.size:=fun p hp=>hW.lt p hp
 have hold : ∀ p∈before,(fun b=>decide (b<W.heap.size)) p.block=true:=fun p hp=>by simpa using hlt p hp
 refine⟨ds,gs,before,[],pa,pv,hW,hres _ _ _,hargs _ hold,hvars _ hold,World.keptBut_mono (fun p hp=>⟨hp,?_⟩) (hb.frame (· ∈ before)),fun _=> ?_⟩
 ·rw[hps,List.mem_append]at hp
  exact Or.inr hp
 ·obtain⟨_,_,_,_,_,hz,hn⟩:=hW
  refine⟨hok,_,_,([]++pa)++pv,⟨[]++pa,pv,trodAll_append (hargs _ (fun _ _=>rfl)) (hres _ _ _),hvars _ (fun _ _=>rfl),rfl,?_,?_⟩,?_⟩
  ·intro b off hp
   have hin:MemPlace.cell b off∈before:=by rw[hps];simpa using hp
   rw[hb.frozen (hlt _ hin)]
   exact hz b off hin
  ·intro ha
   have:=hn ha
   rw[hps]at this
   simpa using this
  ·intro p hp _
   rw[hps]
   simpa using hp
end
end Go.Proofs.YtjfgiaooglnomaaGreatDoor
namespace Go.Pl
open Go.RowKit Go.WideShapes Go.ChangeShapes
def PR(w:World):Yb:=fun b=>match w.heap[b]? with|some (.cells cs _ _)=>some cs|_=>none
theorem d7g(w:World):XO (PR w) w:=fun b cs h=>by
 unfold PR at h
 split at h
 ·rename_i c T fz hb
  cases h
  exact⟨T,fz,hb⟩
 ·cases h
def Jy(P:Program)(e:TypeId)(ps:List PV):PV:=match XH P e with|true=>.agg ps|false=>ps.headD .nilp
def Qx(P:Program):Nat->TypeId->List PV->Prop
 | 0,_,_=>False
 | n+1,t,ps=>match P.underlying t with
  | some .bool=> ∃ b,ps=[.bool b]
  | some (.int k)=> ∃ m,ps=[.int k m]∧(Lit.int k m).wf=true
  | some .string=> ∃ s:List UInt8,ps=[.str s]∧s.length<=maxLen
  | some (.slice e)=> ∃ qs:List (List PV),ps=[.sl (P.cellsOf e) false (qs.map (Jy P e))]∧qs.length<=maxLen∧ ∀ q∈qs,q.length=P.cellsOf e∧Qx P n e q
  | some (.struct fs)=>ps.length=P.cellsOf t∧ ∀ f∈fs.toList,Qx P n f.type ((ps.drop f.offset).take (P.cellsOf f.type))
  | some (.array m e)=>ps.length=P.cellsOf t∧ ∀ i<m,Qx P n e ((ps.drop (i*P.cellsOf e)).take (P.cellsOf e))
  | _=>False
def JO(P:Program):Nat->List Field->Nat->Bool
 | o,[],n=>o==n
 | o,f::fs,n=>f.offset==o&&JO P (o+P.cellsOf f.type) fs n
def Fy(P:Program)(S:List TypeId):Bool:=S.all fun t=>match P.underlying t with
 | some .bool|some (.int _)|some .string=>P.cellsOf t==1
 | some (.slice e)=>P.cellsOf t==1&&S.contains e&&decide (0<P.cellsOf e)&&(XH P e||P.cellsOf e==1)
 | some (.struct fs)=>JO P 0 fs.toList (P.cellsOf t)&&fs.toList.all fun f=>S.contains f.type
 | some (.array m e)=>S.contains e&&m*P.cellsOf e==P.cellsOf t
 | _=>false
section
variable {H:Type} {enc:TypeId×Value->H} {P:Program} {w:World} {base:Nat} {sp:Nat->Bool} {held:Bool} {S:List TypeId}
theorem Pk{α β:Type}{f:α->Option β}: ∀ {l:List α} {r:List β},l.mapM f=some r->r.length=l.length∧ ∀ (j:Nat) x y,l[j]? = some x->r[j]? = some y->f x=some y:=by
 intro l
 induction l with
 | nil=>intro r h;simp at h;subst h;exact⟨rfl,fun j x y h=>by simp at h⟩
 | cons a l ih=>
  intro r h
  simp only[List.mapM_cons,Option.bind_eq_bind,Option.bind_eq_some_iff]at h
  obtain⟨b,hb,bs,hbs,h⟩:=h
  simp at h
  subst h
  obtain⟨h1,h2⟩:=ih hbs
  refine⟨by simp[h1],fun j x y hx hy=> ?_⟩
  cases j with
  | zero=>cases hx;cases hy;exact hb
  | succ j=>exact h2 j x y hx hy
def Cl(w:World)(cs:List Value)(ps:List PV):Prop:=WW (PR w) cs ps∧Xv cs
theorem Cl.one{v:Value}{p:PV}(h:RP (PR w) v p)(h1:v.oneCell'=true):Cl w [v] [p]:=⟨⟨rfl,fun j x q hx hq=>match j with
 | 0=>by cases hx;cases hq;exact h
 | j+1=>by simp at hx⟩,fun v hv=>by simp at hv;subst hv;exact h1⟩
theorem Cl.append{cs ds:List Value}{ps qs:List PV}(h:Cl w cs ps)(k:Cl w ds qs):Cl w (cs++ds) (ps++qs):=by
 refine⟨⟨by simp[h.1.1,k.1.1],fun j v p hv hp=> ?_⟩,fun v hv=> ?_⟩
 ·by_cases hj:j<cs.length
  ·rw[List.getElem?_append_left hj]at hv
   rw[List.getElem?_append_left (by rw[<- h.1.1];exact hj)]at hp
   exact h.1.2 j v p hv hp
  ·rw[List.getElem?_append_right (by omega)]at hv
   rw[List.getElem?_append_right (by rw[<- h.1.1];omega),<- h.1.1]at hp
   exact k.1.2 _ v p hv hp
 ·rcases List.mem_append.1 hv with h'|h'
  ·exact h.2 v h'
  ·exact k.2 v h'
theorem Cl.nil:Cl w [] []:=⟨⟨rfl,fun j v p h=>by simp at h⟩,fun v h=>by simp at h⟩
theorem NC(hS:Fy P S=true){t:TypeId}(ht:t∈S):(match P.underlying t with
 | some .bool|some (.int _)|some .string=>P.cellsOf t==1
 | some (.slice e)=>P.cellsOf t==1&&S.contains e&&decide (0<P.cellsOf e)&&(XH P e||P.cellsOf e==1)
 | some (.struct fs)=>JO P 0 fs.toList (P.cellsOf t)&&fs.toList.all fun f=>S.contains f.type
 | some (.array m e)=>S.contains e&&m*P.cellsOf e==P.cellsOf t
 | _=>false)=true:=List.all_eq_true.1 hS t ht
theorem b4w{e:TypeId}{q:List PV}(h:XH P e=true∨P.cellsOf e=1)(hl:q.length=P.cellsOf e)(h1:XH P e=false-> ∀ p∈q,p.cells=[p]):(Jy P e q).cells=q:=by
 unfold Jy
 cases ha:XH P e with
 | true=>rfl
 | false=>
  rcases h with h|h
  ·rw[h]at ha;cases ha
  ·rw[h]at hl
   match q,hl with
   | [p],_=>exact h1 ha p (by simp)
theorem c7x{n:Nat}{e:TypeId}{q:List PV}(h:Qx P n e q)(ha:XH P e=false): ∀ p∈q,p.cells=[p]:=by
 cases n with
 | zero=>exact h.elim
 | succ n=>
  unfold Qx at h
  unfold XH at ha
  split at h
  ·obtain⟨b,rfl⟩:=h;intro p hp;simp at hp;subst hp;rfl
  ·obtain⟨m,rfl,_⟩:=h;intro p hp;simp at hp;subst hp;rfl
  ·obtain⟨s,rfl,_⟩:=h;intro p hp;simp at hp;subst hp;rfl
  ·obtain⟨s,rfl,_⟩:=h;intro p hp;simp at hp;subst hp;rfl
  ·rename_i hu;rw[hu]at ha;cases ha
  ·rename_i hu;rw[hu]at ha;cases ha
  ·exact h.elim
theorem Ov{α:Type}{R:Nat->α->Prop}: ∀ (n:Nat),(∀ i,i<n-> ∃ q,R i q)-> ∃ qs:List α,qs.length=n∧ ∀ (i:Nat) q,qs[i]? = some q->R i q:=by
 intro n
 induction n with
 | zero=>intro _;exact⟨[],rfl,fun i q h=>by simp at h⟩
 | succ n ih=>
  intro h
  obtain⟨qs,h1,h2⟩:=ih fun i hi=>h i (by omega)
  obtain⟨q,hq⟩:=h n (by omega)
  refine⟨qs++[q],by simp[h1],fun i q' hi=> ?_⟩
  by_cases hlt:i<qs.length
  ·rw[List.getElem?_append_left hlt]at hi;exact h2 i q' hi
  ·rw[List.getElem?_append_right (by omega)]at hi
   have:i=n:=by
    have:=(List.getElem?_eq_some_iff.1 hi).1
    simp at this
    omega
   subst this
   rw[h1,Nat.sub_self]at hi
   cases hi
   exact hq
theorem b4p(a:Addr)(i j:Nat):(a.add i).add j=a.add (i+j):=by
 unfold Addr.add
 by_cases hi:i=0 <;> by_cases hj:j=0 <;> simp[hi,hj,Nat.add_assoc]
theorem b2c{base n:Nat}{a:Addr}{cs:List Value}(h:w.cells? base a n=some cs):cs.length=n∧ ∀ (r:Nat) v,cs[r]? = some v->w.cell? (a.add r)=some v:=by
 unfold World.cells? at h
 split at h
 ·obtain⟨h1,h2⟩:=Pk h
  refine⟨by simpa using h1,fun r v hv=> ?_⟩
  have hr:=(List.getElem?_eq_some_iff.1 hv).1
  have hr2:r<n:=by rw[h1]at hr;simpa using hr
  exact h2 r r v (by simp[hr2]) hv
 ·cases h
theorem Mo{a:Addr}{v:Value}(h:w.cell? a=some v): ∃ b off cs,a=⟨b,off,none⟩∧PR w b=some cs∧cs[off]? = some v:=by
 obtain⟨b,off,spot⟩:=a
 unfold World.cell? at h
 split at h
 ·rename_i c T fz hb
  split at h
  ·cases h
  ·rename_i hs
   have:spot=none:=by cases spot with|none=>rfl|some=>simp at hs
   subst this
   exact⟨b,off,c,rfl,by simp only[PR];rw[hb],h⟩
 ·cases h
def Qh(P:Program)(t:TypeId):Option (List (Nat×TypeId)):=match P.underlying t with
 | some (.struct fs)=>some (fs.toList.map fun f=>(f.offset,f.type))
 | _=>none
def d7q(P:Program)(n:Nat)(q:List PV):List (Nat×TypeId)->Prop
 | []=>True
 | (o,t)::r=>Qx P n t ((q.drop o).take (P.cellsOf t))∧d7q P n q r
theorem Ho{n c:Nat}{t:TypeId}{q:List PV}{l:List (Nat×TypeId)}(hs:Qh P t=some l)(hc:P.cellsOf t=c)(h:Qx P n t q): ∃ m,n=m+1∧q.length=c∧d7q P m q l:=by
 cases n with
 | zero=>exact h.elim
 | succ m=>
  unfold Qh at hs
  split at hs
  ·rename_i fs hu
   cases hs
   simp only[Qx,hu]at h
   refine⟨m,rfl,by rw[h.1,hc],?_⟩
   have key : ∀ l:List Field,(∀ f∈l,Qx P m f.type ((q.drop f.offset).take (P.cellsOf f.type)))->d7q P m q (l.map fun f=>(f.offset,f.type)):=by
    intro l
    induction l with
    | nil=>intro _;trivial
    | cons f l ih=>intro h;exact⟨h f List.mem_cons_self,ih fun g hg=>h g (List.mem_cons_of_mem _ hg)⟩
   exact key _ h.2
  ·cases hs
theorem a2e{n:Nat}{t:TypeId}{k:IntKind}{q:List PV}(hu:P.underlying t=some (.int k))(h:Qx P n t q): ∃ m,q=[.int k m]∧(Lit.int k m).wf=true:=by
 cases n with
 | zero=>exact h.elim
 | succ m=>simpa only[Qx,hu]using h
theorem b6p{n:Nat}{t:TypeId}{q:List PV}(hu:P.underlying t=some .bool)(h:Qx P n t q): ∃ b,q=[.bool b]:=by
 cases n with
 | zero=>exact h.elim
 | succ m=>simpa only[Qx,hu]using h
theorem c0r{n:Nat}{t:TypeId}{q:List PV}(hu:P.underlying t=some .string)(h:Qx P n t q): ∃ s:List UInt8,q=[.str s]∧s.length<=maxLen:=by
 cases n with
 | zero=>exact h.elim
 | succ m=>simpa only[Qx,hu]using h
theorem Pe{n c:Nat}{t e:TypeId}{q:List PV}(hu:P.underlying t=some (.slice e))(hc:P.cellsOf e=c)(h:Qx P n t q): ∃ m,n=m+1∧ ∃ qs:List (List PV),q=[.sl c false (qs.map (Jy P e))]∧qs.length<=maxLen∧ ∀ x∈qs,x.length=c∧Qx P m e x:=by
 cases n with
 | zero=>exact h.elim
 | succ m=>
  subst hc
  simp only[Qx,hu]at h
  exact⟨m,rfl,h⟩
theorem c9v{Φ:Yb}:WW Φ (#[]:Array Value).toList []:=⟨rfl,fun j v p h=>by simp at h⟩
theorem d6v{Φ:Yb}{v:Value}{vs:List Value}{p:PV}{ps:List PV}(h:RP Φ v p)(k:WW Φ vs ps):WW Φ (v::vs) (p::ps):=
 ⟨by simp[k.1],fun j u q hu hq=>match j with
  | 0=>by cases hu;cases hq;exact h
  | j+1=>k.2 j u q (by simpa using hu) (by simpa using hq)⟩
theorem b2j{f:Nat}{pre:List PV->Bool}{val:List PV->PV}(h:Uj P f pre val){ps:List PV}(hp:pre ps=true)(hv:val ps = .bool true){vs:Array Value}(hL:GlobOK (PR w))(hr:WW (PR w) vs.toList ps):
  Calls P f vs w fun e w'=>e = .returned (.bool true)∧Below w.heap.size w w':=by
 refine(h ps hp (PR w) w vs hL (d7g w) hr).mono ?_
 rintro e w' ⟨v,Φ',rfl,_,_,h1,h2,_⟩
 rw[hv]at h1
 cases h1
 exact⟨rfl,h2⟩
end
end Go.Pl
namespace Go.Proofs.YtjfgiaooglnomaaGreatDoor
open Go.Pl Go.RowKit Go.ChangeShapes
set_option maxRecDepth 100000
theorem b1c{P:Program}{W:World}{n:String}{g:Nat}{cs:Array Value}(hg:P.globalNamed n=some g)(h:W.var? P n=some cs):PR W g=some cs:=by
 unfold World.var? at h
 rw[hg]at h
 simp only[Option.bind_some]at h
 unfold PR
 exact h
theorem d5c:Tryz.prog.globalNamed "internal/strconv.uint64pow10" = some 1:=by kernel_rfl
theorem e1d:Tryz.prog.globalNamed "strconv.ErrRange" = some 3:=by kernel_rfl
theorem e0u:Tryz.prog.globalNamed "strconv.ErrSyntax" = some 2:=by kernel_rfl
theorem b5f:Tryz.prog.underlying 213=some (.interface ((match Tryz.prog.underlying 213 with|some (.interface ms)=>ms|_=>#[]))):=by kernel_rfl
theorem d8s{W:World}{r:List (String×DataW Unit)}(h:laidMet Tryz.prog (("internal/strconv.uint64pow10",Rows.laid_internal_strconv_uint64pow10)::r) W):PR W 1=some Tu:=by
 have h1:Lib.TabIs Tryz.prog W "internal/strconv.uint64pow10" .u64 ((List.range 20).map fun i=>((10 ^ i:Nat):Int)):=Lib.tabIs_of_head (e:=200) (t:=301) d5c (by kernel_rfl) (n:=20) (by kernel_rfl) (by kernel_rfl) (by kernel_rfl) (by kernel_rfl) h
 exact(b1c d5c h1).trans rfl
theorem c2l{W:World}{n:String}{g:Nat}{text:List UInt8}{r:List (String×DataW Unit)}(hg:Tryz.prog.globalNamed n=some g)(ht:(Tryz.prog.globals[g]?).map (·.type)=some 213)(h:laidMet Tryz.prog ((n,.iface "*errors.errorString" (.ptr (.agg [.lit (.string text)])))::r) W): ∃ cs,PR W g=some cs∧TF cs:=by
 obtain⟨ps,⟨g0,t0,cs0,f0,p0,q0,hg0,ht0,hv0,hd0,_,e0⟩,_,hrows⟩:=h
 obtain rfl:=Option.some.inj (hg.symm.trans hg0)
 obtain rfl:=Option.some.inj (ht.symm.trans ht0)
 subst e0
 refine⟨cs0,b1c hg hv0,?_⟩
 obtain⟨f1,u,v,e,_⟩:=iface_of_trod b5f hd0
 obtain⟨l0⟩:=cs0
 have e:l0=[.iface u v]:=e
 subst e
 exact⟨_,rfl,.inr ⟨u,v,rfl⟩⟩
theorem d1d{W:World}{x y:String×DataW Unit}{r:List (String×DataW Unit)}(h:laidMet Tryz.prog (x::y::("internal/strconv.uint64pow10",Rows.laid_internal_strconv_uint64pow10)::("strconv.ErrRange",Rows.laid_strconv_ErrRange)::("strconv.ErrSyntax",Rows.laid_strconv_ErrSyntax)::r) W):GlobOK (PR W):=
 ⟨c2l e0u (by kernel_rfl) h.tail.tail.tail.tail,c2l e1d (by kernel_rfl) h.tail.tail.tail,d8s h.tail.tail⟩
noncomputable def e3v:DataW Unit->Value
 | .lit (.int k n)=>.int k n
 | _=>.int .i64 0
noncomputable def a3s:DataW Unit->Array Value
 | .agg ds=>(ds.map e3v).toArray
 | _=>#[]
noncomputable def c5p:DataW Unit->ByteArray
 | .iface _ (.ptr (.agg [.lit (.string bs)]))=>⟨bs.toArray⟩
 | _=>⟨#[]⟩
noncomputable def low:Nat:=(World.holding Tryz.prog default ⟨#[],#[],[]⟩).heap.size
noncomputable def c2t(cs:Array Value):Obj->Obj
 | .cells _ t frozen=>.cells cs t frozen
 | o=>o
noncomputable def Ns(os:Os):World:=
 let w0:=World.holding Tryz.prog os ⟨#[.cells #[.string (c5p Rows.laid_strconv_ErrRange)] 326,.cells #[.string (c5p Rows.laid_strconv_ErrSyntax)] 326],#[],[]⟩
 {w0 with heap:=((((w0.heap.modify 3 (c2t #[.iface 324 (.pointer (some ⟨low,0,none⟩))])).modify 2 (c2t #[.iface 324 (.pointer (some ⟨low+1,0,none⟩))])).modify 1 (c2t (a3s Rows.laid_internal_strconv_uint64pow10))).modify 6 (c2t (a3s Rows.laid_math_bits_deBruijn32tab))).modify 7 (c2t (a3s Rows.laid_math_bits_deBruijn64tab))}
end Go.Proofs.YtjfgiaooglnomaaGreatDoor
namespace Go.Proofs.YtjfgiaooglnomaaGreatDoor
open Go.Shelf
def Tryz.lays172_ren:Go.Shelf.Ren:=⟨fun|172=>182|244=>242|245=>243|247=>278|279=>279|280=>280|281=>281|282=>282|287=>298|316=>299|171=>76|205=>300|321=>308|322=>309|243=>146|246=>214|283=>260|284=>261|285=>262|286=>263|129=>276|317=>287|318=>288|319=>289|320=>290|337=>301|338=>302|n=>n,fun|9=>9|3=>3|75=>213|76=>214|4=>4|5=>5|167=>290|37=>38|0=>0|85=>291|2=>2|168=>293|53=>200|175=>309|46=>171|210=>313|127=>323|145=>326|143=>324|21=>21|171=>273|173=>275|212=>301|51=>288|20=>20|213=>302|232=>327|233=>328|80=>329|n=>n,fun|15=>2|16=>3|17=>1|18=>6|19=>7|n=>n⟩
theorem Tryz.lays172:Go.Proofs.LaysC.n172 Tryz.prog Tryz.lays172_ren:={
 mixed:=by kernel_rfl
 f129:=Tryz.func276.trans (congrArg some (by kernel_rfl))
 f171:=Tryz.func76.trans (congrArg some (by kernel_rfl))
 f172:=Tryz.func182.trans (congrArg some (by kernel_rfl))
 f205:=Tryz.func300.trans (congrArg some (by kernel_rfl))
 f243:=Tryz.func146.trans (congrArg some (by kernel_rfl))
 f244:=Tryz.func242.trans (congrArg some (by kernel_rfl))
 f245:=Tryz.func243.trans (congrArg some (by kernel_rfl))
 f246:=Tryz.func214.trans (congrArg some (by kernel_rfl))
 f247:=Tryz.func278.trans (congrArg some (by kernel_rfl))
 f279:=Tryz.func279.trans (congrArg some (by kernel_rfl))
 f280:=Tryz.func280.trans (congrArg some (by kernel_rfl))
 f281:=Tryz.func281.trans (congrArg some (by kernel_rfl))
 f282:=Tryz.func282.trans (congrArg some (by kernel_rfl))
 f283:=Tryz.func260.trans (congrArg some (by kernel_rfl))
 f284:=Tryz.func261.trans (congrArg some (by kernel_rfl))
 f285:=Tryz.func262.trans (congrArg some (by kernel_rfl))
 f286:=Tryz.func263.trans (congrArg some (by kernel_rfl))
 f287:=Tryz.func298.trans (congrArg some (by kernel_rfl))
 f316:=Tryz.func299.trans (congrArg some (by kernel_rfl))
 f317:=Tryz.func287.trans (congrArg some (by kernel_rfl))
 f318:=Tryz.func288.trans (congrArg some (by kernel_rfl))
 f319:=Tryz.func289.trans (congrArg some (by kernel_rfl))
 f320:=Tryz.func290.trans (congrArg some (by kernel_rfl))
 f321:=Tryz.func308.trans (congrArg some (by kernel_rfl))
 f322:=Tryz.func309.trans (congrArg some (by kernel_rfl))
 f337:=Tryz.func301.trans (congrArg some (by kernel_rfl))
 f338:=Tryz.func302.trans (congrArg some (by kernel_rfl))
 t0:=Tryz.underlying0
 a0:=Tryz.isAgg0
 z0:=Tryz.sizeOf0
 v0:=Tryz.zeroValue0
 t2:=Tryz.underlying2
 a2:=Tryz.isAgg2
 z2:=Tryz.sizeOf2
 v2:=Tryz.zeroValue2
 t3:=Tryz.underlying3
 a3:=Tryz.isAgg3
 z3:=Tryz.sizeOf3
 v3:=Tryz.zeroValue3
 t4:=Tryz.underlying4
 a4:=Tryz.isAgg4
 z4:=Tryz.sizeOf4
 v4:=Tryz.zeroValue4
 t5:=Tryz.underlying5
 a5:=Tryz.isAgg5
 z5:=Tryz.sizeOf5
 v5:=Tryz.zeroValue5
 t9:=Tryz.underlying9
 a9:=Tryz.isAgg9
 z9:=Tryz.sizeOf9
 v9:=Tryz.zeroValue9
 t20:=Tryz.underlying20
 a20:=Tryz.isAgg20
 z20:=Tryz.sizeOf20
 v20:=Tryz.zeroValue20
 t21:=Tryz.underlying21
 a21:=Tryz.isAgg21
 z21:=Tryz.sizeOf21
 v21:=Tryz.zeroValue21
 t37:=Tryz.underlying38
 a37:=Tryz.isAgg38
 z37:=Tryz.sizeOf38
 v37:=Tryz.zeroValue38
 t46:=Tryz.underlying171
 a46:=Tryz.isAgg171
 z46:=Tryz.sizeOf171
 v46:=Tryz.zeroValue171
 t51:=Tryz.underlying288
 a51:=Tryz.isAgg288
 z51:=Tryz.sizeOf288
 v51:=Tryz.zeroValue288
 t53:=Tryz.underlying200
 a53:=Tryz.isAgg200
 z53:=Tryz.sizeOf200
 v53:=Tryz.zeroValue200
 t75:=Tryz.underlying213
 a75:=Tryz.isAgg213
 z75:=Tryz.sizeOf213
 v75:=Tryz.zeroValue213
 t76:=Tryz.underlying214
 a76:=Tryz.isAgg214
 z76:=Tryz.sizeOf214
 v76:=Tryz.zeroValue214
 t85:=Tryz.underlying291
 a85:=Tryz.isAgg291
 z85:=Tryz.sizeOf291
 v85:=Tryz.zeroValue291
 t127:=Tryz.underlying323
 a127:=Tryz.isAgg323
 z127:=Tryz.sizeOf323
 v127:=Tryz.zeroValue323
 t143:=Tryz.underlying324
 a143:=Tryz.isAgg324
 z143:=Tryz.sizeOf324
 v143:=Tryz.zeroValue324
 t145:=Tryz.underlying326
 a145:=Tryz.isAgg326
 z145:=Tryz.sizeOf326
 v145:=Tryz.zeroValue326
 t167:=Tryz.underlying290
 a167:=Tryz.isAgg290
 z167:=Tryz.sizeOf290
 v167:=Tryz.zeroValue290
 t168:=Tryz.underlying293
 a168:=Tryz.isAgg293
 z168:=Tryz.sizeOf293
 v168:=Tryz.zeroValue293
 t171:=Tryz.underlying273
 a171:=Tryz.isAgg273
 z171:=Tryz.sizeOf273
 v171:=Tryz.zeroValue273
 t173:=Tryz.underlying275
 a173:=Tryz.isAgg275
 z173:=Tryz.sizeOf275
 v173:=Tryz.zeroValue275
 t175:=Tryz.underlying309
 a175:=Tryz.isAgg309
 z175:=Tryz.sizeOf309
 v175:=Tryz.zeroValue309
 t210:=Tryz.underlying313
 a210:=Tryz.isAgg313
 z210:=Tryz.sizeOf313
 v210:=Tryz.zeroValue313
 t212:=Tryz.underlying301
 a212:=Tryz.isAgg301
 z212:=Tryz.sizeOf301
 v212:=Tryz.zeroValue301
 t213:=Tryz.underlying302
 a213:=Tryz.isAgg302
 z213:=Tryz.sizeOf302
 t232:=Tryz.underlying327
 a232:=Tryz.isAgg327
 z232:=Tryz.sizeOf327
 v232:=Tryz.zeroValue327
 t233:=Tryz.underlying328
 a233:=Tryz.isAgg328
 z233:=Tryz.sizeOf328
 v233:=Tryz.zeroValue328
 g15:=by kernel_rfl
 g16:=by kernel_rfl
 g17:=by kernel_rfl
 g18:=by kernel_rfl
 g19:=by kernel_rfl
 t80:=Tryz.underlying329
 a80:=Tryz.isAgg329
 z80:=Tryz.sizeOf329
 v80:=Tryz.zeroValue329
 i0:=by kernel_rfl
 i2:=by kernel_rfl
 i3:=by kernel_rfl
 i4:=by kernel_rfl
 i5:=by kernel_rfl
 i9:=by kernel_rfl
 i20:=by kernel_rfl
 i21:=by kernel_rfl
 i37:=by kernel_rfl
 i46:=by kernel_rfl
 i51:=by kernel_rfl
 i53:=by kernel_rfl
 i75:=by kernel_rfl
 i76:=by kernel_rfl
 i80:=by kernel_rfl
 i85:=by kernel_rfl
 i127:=by kernel_rfl
 i143:=by kernel_rfl
 i145:=by kernel_rfl
 i167:=by kernel_rfl
 i168:=by kernel_rfl
 i171:=by kernel_rfl
 i173:=by kernel_rfl
 i175:=by kernel_rfl
 i210:=by kernel_rfl
 i212:=by kernel_rfl
 i232:=by kernel_rfl
 i233:=by kernel_rfl
 m15:=by kernel_rfl
 m16:=by kernel_rfl
 m17:=by kernel_rfl
 m18:=by kernel_rfl
 m19:=by kernel_rfl
 c0:=by kernel_rfl
 c2:=by kernel_rfl
 c3:=by kernel_rfl
 c4:=by kernel_rfl
 c5:=by kernel_rfl
 c9:=by kernel_rfl
 c20:=by kernel_rfl
 c21:=by kernel_rfl
 c37:=by kernel_rfl
 c46:=by kernel_rfl
 c51:=by kernel_rfl
 c53:=by kernel_rfl
 c75:=by kernel_rfl
 c76:=by kernel_rfl
 c80:=by kernel_rfl
 c85:=by kernel_rfl
 c127:=by kernel_rfl
 c143:=by kernel_rfl
 c145:=by kernel_rfl
 c167:=by kernel_rfl
 c168:=by kernel_rfl
 c171:=by kernel_rfl
 c173:=by kernel_rfl
 c175:=by kernel_rfl
 c210:=by kernel_rfl
 c212:=by kernel_rfl
 c213:=by kernel_rfl
 c232:=by kernel_rfl
 c233:=by kernel_rfl}
def Tryz.lays171_ren:Go.Shelf.Ren:=⟨fun|171=>76|243=>146|246=>214|283=>260|284=>261|285=>262|286=>263|129=>276|317=>287|318=>288|319=>289|320=>290|337=>301|338=>302|n=>n,fun|3=>3|9=>9|2=>2|4=>4|171=>273|0=>0|53=>200|37=>38|5=>5|173=>275|212=>301|51=>288|20=>20|213=>302|46=>171|232=>327|233=>328|n=>n,fun|17=>1|18=>6|19=>7|n=>n⟩
theorem Tryz.lays171:Go.Proofs.LaysM.n171 Tryz.prog Tryz.lays171_ren:={
 mixed:=by kernel_rfl
 f129:=Tryz.func276.trans (congrArg some (by kernel_rfl))
 f171:=Tryz.func76.trans (congrArg some (by kernel_rfl))
 f243:=Tryz.func146.trans (congrArg some (by kernel_rfl))
 f246:=Tryz.func214.trans (congrArg some (by kernel_rfl))
 f283:=Tryz.func260.trans (congrArg some (by kernel_rfl))
 f284:=Tryz.func261.trans (congrArg some (by kernel_rfl))
 f285:=Tryz.func262.trans (congrArg some (by kernel_rfl))
 f286:=Tryz.func263.trans (congrArg some (by kernel_rfl))
 f317:=Tryz.func287.trans (congrArg some (by kernel_rfl))
 f318:=Tryz.func288.trans (congrArg some (by kernel_rfl))
 f319:=Tryz.func289.trans (congrArg some (by kernel_rfl))
 f320:=Tryz.func290.trans (congrArg some (by kernel_rfl))
 f337:=Tryz.func301.trans (congrArg some (by kernel_rfl))
 f338:=Tryz.func302.trans (congrArg some (by kernel_rfl))
 t0:=Tryz.underlying0
 a0:=Tryz.isAgg0
 z0:=Tryz.sizeOf0
 v0:=Tryz.zeroValue0
 t2:=Tryz.underlying2
 a2:=Tryz.isAgg2
 z2:=Tryz.sizeOf2
 v2:=Tryz.zeroValue2
 t3:=Tryz.underlying3
 a3:=Tryz.isAgg3
 z3:=Tryz.sizeOf3
 v3:=Tryz.zeroValue3
 t4:=Tryz.underlying4
 a4:=Tryz.isAgg4
 z4:=Tryz.sizeOf4
 v4:=Tryz.zeroValue4
 t5:=Tryz.underlying5
 a5:=Tryz.isAgg5
 z5:=Tryz.sizeOf5
 v5:=Tryz.zeroValue5
 t9:=Tryz.underlying9
 a9:=Tryz.isAgg9
 z9:=Tryz.sizeOf9
 v9:=Tryz.zeroValue9
 t20:=Tryz.underlying20
 a20:=Tryz.isAgg20
 z20:=Tryz.sizeOf20
 v20:=Tryz.zeroValue20
 t37:=Tryz.underlying38
 a37:=Tryz.isAgg38
 z37:=Tryz.sizeOf38
 v37:=Tryz.zeroValue38
 t46:=Tryz.underlying171
 a46:=Tryz.isAgg171
 z46:=Tryz.sizeOf171
 v46:=Tryz.zeroValue171
 t51:=Tryz.underlying288
 a51:=Tryz.isAgg288
 z51:=Tryz.sizeOf288
 v51:=Tryz.zeroValue288
 t53:=Tryz.underlying200
 a53:=Tryz.isAgg200
 z53:=Tryz.sizeOf200
 v53:=Tryz.zeroValue200
 t171:=Tryz.underlying273
 a171:=Tryz.isAgg273
 z171:=Tryz.sizeOf273
 v171:=Tryz.zeroValue273
 t173:=Tryz.underlying275
 a173:=Tryz.isAgg275
 z173:=Tryz.sizeOf275
 v173:=Tryz.zeroValue275
 t212:=Tryz.underlying301
 a212:=Tryz.isAgg301
 z212:=Tryz.sizeOf301
 v212:=Tryz.zeroValue301
 t213:=Tryz.underlying302
 a213:=Tryz.isAgg302
 z213:=Tryz.sizeOf302
 t232:=Tryz.underlying327
 a232:=Tryz.isAgg327
 z232:=Tryz.sizeOf327
 v232:=Tryz.zeroValue327
 t233:=Tryz.underlying328
 a233:=Tryz.isAgg328
 z233:=Tryz.sizeOf328
 v233:=Tryz.zeroValue328
 g17:=by kernel_rfl
 g18:=by kernel_rfl
 g19:=by kernel_rfl
 i0:=by kernel_rfl
 i2:=by kernel_rfl
 i3:=by kernel_rfl
 i4:=by kernel_rfl
 i5:=by kernel_rfl
 i9:=by kernel_rfl
 i20:=by kernel_rfl
 i37:=by kernel_rfl
 i46:=by kernel_rfl
 i51:=by kernel_rfl
 i53:=by kernel_rfl
 i171:=by kernel_rfl
 i173:=by kernel_rfl
 i212:=by kernel_rfl
 i232:=by kernel_rfl
 i233:=by kernel_rfl
 m17:=by kernel_rfl
 m18:=by kernel_rfl
 m19:=by kernel_rfl}
def Tryz.lays99_ren:Go.Shelf.Ren:=⟨fun|99=>152|206=>221|n=>n,fun|9=>9|4=>4|3=>3|n=>n,fun|n=>n⟩
theorem Tryz.lays99:Go.Proofs.Lays.n99 Tryz.prog Tryz.lays99_ren:={
 mixed:=by kernel_rfl
 f99:=Tryz.func152.trans (congrArg some (by kernel_rfl))
 f206:=Tryz.func221.trans (congrArg some (by kernel_rfl))
 t3:=Tryz.underlying3
 a3:=Tryz.isAgg3
 z3:=Tryz.sizeOf3
 v3:=Tryz.zeroValue3
 t4:=Tryz.underlying4
 a4:=Tryz.isAgg4
 z4:=Tryz.sizeOf4
 v4:=Tryz.zeroValue4
 t9:=Tryz.underlying9
 a9:=Tryz.isAgg9
 z9:=Tryz.sizeOf9
 v9:=Tryz.zeroValue9}
def Tryz.lays190_ren:Go.Shelf.Ren:=⟨fun|190=>154|125=>223|258=>222|128=>275|129=>276|302=>267|303=>268|304=>269|305=>270|306=>271|307=>272|308=>244|309=>273|310=>274|333=>293|329=>294|330=>295|334=>296|335=>297|336=>283|344=>307|n=>n,fun|31=>76|9=>9|3=>3|46=>171|0=>0|51=>288|53=>200|4=>4|183=>282|182=>281|131=>129|5=>5|218=>304|222=>148|228=>321|229=>247|n=>n,fun|n=>n⟩
theorem Tryz.lays190:Go.Proofs.Lays.n190 Tryz.prog Tryz.lays190_ren:={
 mixed:=by kernel_rfl
 f125:=Tryz.func223.trans (congrArg some (by kernel_rfl))
 f128:=Tryz.func275.trans (congrArg some (by kernel_rfl))
 f129:=Tryz.func276.trans (congrArg some (by kernel_rfl))
 f190:=Tryz.func154.trans (congrArg some (by kernel_rfl))
 f258:=Tryz.func222.trans (congrArg some (by kernel_rfl))
 f302:=Tryz.func267.trans (congrArg some (by kernel_rfl))
 f303:=Tryz.func268.trans (congrArg some (by kernel_rfl))
 f304:=Tryz.func269.trans (congrArg some (by kernel_rfl))
 f305:=Tryz.func270.trans (congrArg some (by kernel_rfl))
 f306:=Tryz.func271.trans (congrArg some (by kernel_rfl))
 f307:=Tryz.func272.trans (congrArg some (by kernel_rfl))
 f308:=Tryz.func244.trans (congrArg some (by kernel_rfl))
 f309:=Tryz.func273.trans (congrArg some (by kernel_rfl))
 f310:=Tryz.func274.trans (congrArg some (by kernel_rfl))
 f329:=Tryz.func294.trans (congrArg some (by kernel_rfl))
 f330:=Tryz.func295.trans (congrArg some (by kernel_rfl))
 f333:=Tryz.func293.trans (congrArg some (by kernel_rfl))
 f334:=Tryz.func296.trans (congrArg some (by kernel_rfl))
 f335:=Tryz.func297.trans (congrArg some (by kernel_rfl))
 f336:=Tryz.func283.trans (congrArg some (by kernel_rfl))
 f344:=Tryz.func307.trans (congrArg some (by kernel_rfl))
 t0:=Tryz.underlying0
 a0:=Tryz.isAgg0
 z0:=Tryz.sizeOf0
 v0:=Tryz.zeroValue0
 t3:=Tryz.underlying3
 a3:=Tryz.isAgg3
 z3:=Tryz.sizeOf3
 v3:=Tryz.zeroValue3
 t4:=Tryz.underlying4
 a4:=Tryz.isAgg4
 z4:=Tryz.sizeOf4
 v4:=Tryz.zeroValue4
 t5:=Tryz.underlying5
 a5:=Tryz.isAgg5
 z5:=Tryz.sizeOf5
 v5:=Tryz.zeroValue5
 t9:=Tryz.underlying9
 a9:=Tryz.isAgg9
 z9:=Tryz.sizeOf9
 v9:=Tryz.zeroValue9
 t31:=Tryz.underlying76
 a31:=Tryz.isAgg76
 z31:=Tryz.sizeOf76
 v31:=Tryz.zeroValue76
 t46:=Tryz.underlying171
 a46:=Tryz.isAgg171
 z46:=Tryz.sizeOf171
 v46:=Tryz.zeroValue171
 t51:=Tryz.underlying288
 a51:=Tryz.isAgg288
 z51:=Tryz.sizeOf288
 v51:=Tryz.zeroValue288
 t53:=Tryz.underlying200
 a53:=Tryz.isAgg200
 z53:=Tryz.sizeOf200
 v53:=Tryz.zeroValue200
 t131:=Tryz.underlying129
 a131:=Tryz.isAgg129
 z131:=Tryz.sizeOf129
 v131:=Tryz.zeroValue129
 t182:=Tryz.underlying281
 a182:=Tryz.isAgg281
 z182:=Tryz.sizeOf281
 v182:=Tryz.zeroValue281
 t183:=Tryz.underlying282
 a183:=Tryz.isAgg282
 z183:=Tryz.sizeOf282
 v183:=Tryz.zeroValue282
 t218:=Tryz.underlying304
 a218:=Tryz.isAgg304
 z218:=Tryz.sizeOf304
 v218:=Tryz.zeroValue304
 t222:=Tryz.underlying148
 a222:=Tryz.isAgg148
 z222:=Tryz.sizeOf148
 v222:=Tryz.zeroValue148
 t228:=Tryz.underlying321
 a228:=Tryz.isAgg321
 z228:=Tryz.sizeOf321
 v228:=Tryz.zeroValue321
 t229:=Tryz.underlying247
 a229:=Tryz.isAgg247
 z229:=Tryz.sizeOf247
 v229:=Tryz.zeroValue247}
end Go.Proofs.YtjfgiaooglnomaaGreatDoor
namespace Go.Proofs.YtjfgiaooglnomaaGreatDoor
open Go.Pl Go.RowKit
open Enc (enc dec is)
open EncL (encL decL isL)
set_option maxRecDepth 100000
theorem G7:Zt Tryz.prog 152 (fun _:Str×Str×Unit=>true) (fun x:Str×Str×Unit=>x.2.1.s.isPrefixOf x.1.s):=Y4 (by
  rintro⟨⟨s⟩,⟨p⟩,⟨⟩⟩ hps Φ w vs hL hΦ hv
  obtain⟨u,v,rfl,h1,h2⟩:=c4m hv
  rw[M8 h1,M8 h2]
  refine(Any.strings_HasPrefix Tryz.lays99 ⟨s.toArray⟩ ⟨p.toArray⟩ w).mono ?_
  rintro e w' ⟨rfl,rfl⟩
  exact⟨_,rfl,.bool _,.refl _ _⟩)
theorem c1n:Zt Tryz.prog 182 (fun x:Str×Unit=>decide (x.1.s.length<=1000000)) (fun x:Str×Unit=>YW x.1):=Y4 (by
  rintro⟨⟨s⟩,⟨⟩⟩ hps Φ w vs hL hΦ hv
  have hs:s.length<=1000000:=by simpa using hps
  obtain⟨v,rfl,h1⟩:=c0z hv
  rw[M8 h1]
  have hsz:(⟨s.toArray⟩:ByteArray).size=s.length:=rfl
  cases h:Lib.atoiAll s
  ·rename_i n
   have e1:YW ⟨s⟩=(n,⟨false⟩):=by simp only[YW,h]
   rw[e1]
   refine(Any.strconv_Atoi_ok Tryz.lays172 ⟨s.toArray⟩ (by rw[hsz];omega) n h w).mono ?_
   rintro e w' ⟨rfl,hw⟩
   refine⟨_,rfl,.tup _ _ rfl ?_,?_⟩
   ·intro j v x hv hx
    match j with
    | 0=>cases hv;cases hx;exact .int _ _
    | 1=>cases hv;cases hx;exact .nili
    | j+2=>simp at hv
   ·rcases hw with rfl|⟨t,rfl⟩
    ·exact .refl _ _
    ·exact AP _ _ 0 _
  ·skip
   have e1:YW ⟨s⟩=(0,⟨true⟩):=by simp only[YW,h]
   rw[e1]
   obtain⟨cs,hc,ev,he,hev⟩:=hL.syn
   refine(Any.strconv_Atoi_syntax Tryz.lays172 ⟨s.toArray⟩ (by rw[hsz];omega) h ev w (GY hΦ hc he) hev).mono ?_
   rintro e w' ⟨N,rfl,_,_,hb⟩
   refine⟨_,rfl,.tup _ _ rfl ?_,hb⟩
   intro j v x hv hx
   match j with
   | 0=>cases hv;cases hx;exact .int _ _
   | 1=>cases hv;cases hx;exact .ifc _ _
   | j+2=>simp at hv
  ·skip
   have e1:YW ⟨s⟩=(Lib.atoiSat s,⟨true⟩):=by simp only[YW,h]
   rw[e1]
   obtain⟨cs,hc,ev,he,hev⟩:=hL.rng
   refine(Any.strconv_Atoi_range Tryz.lays172 ⟨s.toArray⟩ (by rw[hsz];omega) h ev w (GY hΦ hc he) hev).mono ?_
   rintro e w' ⟨N,rfl,_,_,hb⟩
   refine⟨_,rfl,.tup _ _ rfl ?_,hb⟩
   intro j v x hv hx
   match j with
   | 0=>cases hv;cases hx;exact .int _ _
   | 1=>cases hv;cases hx;exact .ifc _ _
   | j+2=>simp at hv)
theorem O5:Zt Tryz.prog 76 (fun x:Int×Unit=>decide (-9223372036854775808<=x.1)&&decide (x.1<=9223372036854775807)) (fun x:Int×Unit=>a2a x.1):=Y4 (by
  rintro⟨n,⟨⟩⟩ hps Φ w vs hL hΦ hv
  obtain⟨v,rfl,h1⟩:=c0z hv
  have h1:RP Φ v (.int .i64 n):=h1
  rw[JQ h1]
  have hn : -9223372036854775808<=n∧n<=9223372036854775807:=by simpa using hps
  have hg:=hL.pow
  obtain⟨T,fz,hh⟩:=hΦ _ _ hg
  refine(Any.strconv_Itoa Tryz.lays171 n hn.1 hn.2 w ?_).mono ?_
  ·unfold Lib.TabIs World.var?
   rw[show Program.globalNamed Tryz.prog "internal/strconv.uint64pow10" = some 1 by kernel_rfl]
   simp only[Option.bind_some,hh]
   rfl
  ·rintro e w' ⟨rfl,k,os,rfl⟩
   refine⟨_,rfl,.str _,?_⟩
   exact⟨rfl,rfl,rfl,by show w.heap.size<=(w.heap++os).size;simp,fun j hj=>by show(w.heap++os)[j]? = _;rw[Array.getElem?_append_left hj]⟩)
end Go.Proofs.YtjfgiaooglnomaaGreatDoor
namespace Go.Proofs.YtjfgiaooglnomaaGreatDoor
open Go.Pl
open Enc (enc dec is)
open EncL (encL decL isL)
set_option maxRecDepth 100000
theorem ZO:Tryz.prog.follows .mixedOrders=true:=by kernel_rfl
theorem EI:Yu Tryz.prog 154 WC Jf:=b3o (Any.slices_Sort_string Tryz.lays190) (Any.slices_Sort_string_none Tryz.lays190)
theorem M4:Zt Tryz.prog 155 (fun _:UInt8×Unit=>true) (fun x:UInt8×Unit=>digB x.1):=Zt.of (T:=a8e) (ic:=Lr) (rs:=Lh) Zm ZO Tryz.func155 (by kernel_rfl) (by kernel_rfl) (by kernel_rfl) b7t
theorem PW:Zt Tryz.prog 156 (fun _:UInt8×Unit=>true) (fun x:UInt8×Unit=>VF x.1):=Zt.of (T:=a5a) (ic:=Fw) (rs:=LF) Zm ZO Tryz.func156 (by kernel_rfl) (by kernel_rfl) (by kernel_rfl) c8p
theorem LH:Zt Tryz.prog 83 (fun _:Int×Unit=>true) (fun x:Int×Unit=>YT x.1):=Zt.of (T:=Ph) (ic:=GK) (rs:=Af) Zm ZO Tryz.func83 (by kernel_rfl) (by kernel_rfl) (by kernel_rfl) a7j
theorem Gp:Zt Tryz.prog 84 (fun _:Str×Unit=>true) (fun x:Str×Unit=>ZH x.1):=Zt.of (T:=VK) (ic:=Wx) (rs:=Wv) (Zb (Yf Tryz.func155 (by kernel_rfl) M4) (Zb (Yf Tryz.func156 (by kernel_rfl) PW) Zm)) ZO Tryz.func84 (by kernel_rfl) (by kernel_rfl) (by kernel_rfl) b2u
theorem J2:Zt Tryz.prog 20 (fun x:Lin×Unit=>Z9 x.1) (fun x:Lin×Unit=>Zh x.1):=Zt.of (T:=Ux) (ic:=Vr) (rs:=Vl) (Zb (Yf Tryz.func83 (by kernel_rfl) LH) (Zb (Yf Tryz.func84 (by kernel_rfl) Gp) Zm)) ZO Tryz.func20 (by kernel_rfl) (by kernel_rfl) (by kernel_rfl) a6n
theorem Pq:Zt Tryz.prog 16 (fun x:Lin×Int×Unit=>Z9 x.1) (fun x:Lin×Int×Unit=>JK x.1 x.2.1):=Zt.of (T:=Cc) (ic:=JH) (rs:=JF) Zm ZO Tryz.func16 (by kernel_rfl) (by kernel_rfl) (by kernel_rfl) b9f
theorem a7d:Zt Tryz.prog 31 (fun x:List Fact×Int×Unit=>Xu x.1) (fun x:List Fact×Int×Unit=>Sn x.1 x.2.1):=Zt.of (T:=JL) (ic:=Q5) (rs:=Q7) (Zb (Yf Tryz.func16 (by kernel_rfl) Pq) Zm) ZO Tryz.func31 (by kernel_rfl) (by kernel_rfl) (by kernel_rfl) b6l
theorem b4f:Zt Tryz.prog 91 (fun _:Int×Unit=>true) (fun x:Int×Unit=>(⟨x.1,[]⟩:Lin)):=Zt.of (T:=c1g) (ic:=a5d) (rs:=a4l) Zm ZO Tryz.func91 (by kernel_rfl) (by kernel_rfl) (by kernel_rfl) d2s
theorem a1r:Yu Tryz.prog 89 QQ QS:=VI (T:=Yg) (ic:=Z6) (rs:=Z5) Zm ZO Tryz.func89 (by kernel_rfl) (by kernel_rfl) (by kernel_rfl) b4z
theorem AQ:Zt Tryz.prog 89 (fun x:Lin×Str×Int×Unit=>decide (x.1.t.length<=1000000)) (fun x:Lin×Str×Int×Unit=>Wu x.1 x.2.1 x.2.2.1):=b6o a1r
theorem b5z:Zt Tryz.prog 144 (fun _:Int×Unit=>true) (fun x:Int×Unit=>YT x.1):=Zt.of (T:=c5w) (ic:=a3g) (rs:=a5h) Zm ZO Tryz.func144 (by kernel_rfl) (by kernel_rfl) (by kernel_rfl) c8y
theorem O8:Zt Tryz.prog 119 (fun x:Str×Unit=>decide (x.1.s.length<=1000000)) (fun x:Str×Unit=>ZH x.1):=Zt.of (T:=VQ) (ic:=X5) (rs:=Wy) (Zb (Yf Tryz.func152 (by kernel_rfl) G7) (Zb (Yf Tryz.func182 (by kernel_rfl) c1n) (Zb (Yf Tryz.func76 (by kernel_rfl) O5) Zm))) ZO Tryz.func119 (by kernel_rfl) (by kernel_rfl) (by kernel_rfl) b3m
theorem Vf:Zt Tryz.prog 73 (fun x:Lin×Unit=>Z0 x.1) (fun x:Lin×Unit=>Zh x.1):=Zt.of (T:=Ul) (ic:=Vd) (rs:=Vj) (Zb (Yf Tryz.func144 (by kernel_rfl) b5z) (Zb (Yf Tryz.func119 (by kernel_rfl) O8) Zm)) ZO Tryz.func73 (by kernel_rfl) (by kernel_rfl) (by kernel_rfl) a6q
theorem c9d:Zt Tryz.prog 162 (fun x:Fact×Unit=>Z0 x.1.l) (fun x:Fact×Unit=> !(Zh x.1.l)):=Zt.of (T:=c3z) (ic:=a5k) (rs:=a8b) (Zb (Yf Tryz.func73 (by kernel_rfl) Vf) Zm) ZO Tryz.func162 (by kernel_rfl) (by kernel_rfl) (by kernel_rfl) d1k
theorem d8c:Zt Tryz.prog 227 (fun x:List Fact×FnV 162×Unit=>Zl x.1) (fun x:List Fact×FnV 162×Unit=>ZL (fun f:Fact=> !(Zh f.l)) x.1):=Zt.of (T:=TY) (ic:=Gd) (rs:=DC) (Zb (Yf Tryz.func162 (by kernel_rfl) c9d) Zm) ZO Tryz.func227 (by kernel_rfl) (by kernel_rfl) (by kernel_rfl) d3g
theorem d5v:Zt Tryz.prog 161 (fun x:List Fact×FnV 162×Unit=>Zl x.1) (fun x:List Fact×FnV 162×Unit=>x.1.any fun f:Fact=> !(Zh f.l)):=Zt.of (T:=c4o) (ic:=Od) (rs:=a7f) (Zb (Yf Tryz.func227 (by kernel_rfl) d8c) Zm) ZO Tryz.func161 (by kernel_rfl) (by kernel_rfl) (by kernel_rfl) d0q
theorem CU:Zt Tryz.prog 95 (fun x:List Fact×Unit=>Zl x.1) (fun x:List Fact×Unit=>YU x.1):=Zt.of (T:=RD) (ic:=Ac) (rs:=BC) (Zb (Yf Tryz.func161 (by kernel_rfl) d5v) Zm) ZO Tryz.func95 (by kernel_rfl) (by kernel_rfl) (by kernel_rfl) a5b
theorem Fz:Zt Tryz.prog 35 (fun x:List Fact×Unit=>Zl x.1) (fun x:List Fact×Unit=>YU x.1):=Zt.of (T:=JM) (ic:=Ka) (rs:=QW) (Zb (Yf Tryz.func20 (by kernel_rfl) J2) Zm) ZO Tryz.func35 (by kernel_rfl) (by kernel_rfl) (by kernel_rfl) b3h
end Go.Proofs.YtjfgiaooglnomaaGreatDoor
namespace Go.Proofs.YtjfgiaooglnomaaGreatDoor
open Go.Shelf
def Tryz.laysC15_ren:Go.Shelf.Ren:=⟨fun|15=>104|n=>n,fun|22=>34|3=>3|4=>4|n=>n,fun|n=>n⟩
theorem Tryz.laysC15:Go.Proofs.Lays2.n15 Tryz.prog Tryz.laysC15_ren:={
 mixed:=by kernel_rfl
 f15:=Tryz.func104.trans (congrArg some (by kernel_rfl))
 t3:=Tryz.underlying3
 a3:=Tryz.isAgg3
 z3:=Tryz.sizeOf3
 v3:=Tryz.zeroValue3
 t4:=Tryz.underlying4
 a4:=Tryz.isAgg4
 z4:=Tryz.sizeOf4
 v4:=Tryz.zeroValue4
 t22:=Tryz.underlying34
 a22:=Tryz.isAgg34
 z22:=Tryz.sizeOf34
 v22:=Tryz.zeroValue34
 i3:=by kernel_rfl}
def Tryz.lays194_ren:Go.Shelf.Ren:=⟨fun|194=>187|n=>n,fun|31=>76|9=>9|3=>3|4=>4|0=>0|n=>n,fun|n=>n⟩
theorem Tryz.lays194:Go.Proofs.Lays.n194 Tryz.prog Tryz.lays194_ren:={
 mixed:=by kernel_rfl
 f194:=Tryz.func187.trans (congrArg some (by kernel_rfl))
 t0:=Tryz.underlying0
 a0:=Tryz.isAgg0
 z0:=Tryz.sizeOf0
 v0:=Tryz.zeroValue0
 t3:=Tryz.underlying3
 a3:=Tryz.isAgg3
 z3:=Tryz.sizeOf3
 v3:=Tryz.zeroValue3
 t4:=Tryz.underlying4
 a4:=Tryz.isAgg4
 z4:=Tryz.sizeOf4
 v4:=Tryz.zeroValue4
 t9:=Tryz.underlying9
 a9:=Tryz.isAgg9
 z9:=Tryz.sizeOf9
 v9:=Tryz.zeroValue9
 t31:=Tryz.underlying76
 a31:=Tryz.isAgg76
 z31:=Tryz.sizeOf76
 v31:=Tryz.zeroValue76}
end Go.Proofs.YtjfgiaooglnomaaGreatDoor
namespace Go.Proofs.YtjfgiaooglnomaaGreatDoor
open Go.Pl
open Enc (enc dec is)
open EncL (encL decL isL)
set_option maxRecDepth 100000
theorem b6r:Zt Tryz.prog 182 (fun x:Str×Unit=>decide (x.1.s.length<=281474976710656)) (fun x:Str×Unit=>YW x.1):=Y4 (by
  rintro⟨⟨s⟩,⟨⟩⟩ hps Φ w vs hL hΦ hv
  have hs:s.length<=281474976710656:=by simpa using hps
  obtain⟨v,rfl,h1⟩:=c0z hv
  rw[M8 h1]
  have hsz:(⟨s.toArray⟩:ByteArray).size=s.length:=rfl
  cases h:Lib.atoiAll s
  ·rename_i n
   have e1:YW ⟨s⟩=(n,⟨false⟩):=by simp only[YW,h]
   rw[e1]
   refine(Any.strconv_Atoi_ok Tryz.lays172 ⟨s.toArray⟩ (by rw[hsz];omega) n h w).mono ?_
   rintro e w' ⟨rfl,hw⟩
   refine⟨_,rfl,.tup _ _ rfl ?_,?_⟩
   ·intro j v x hv hx
    match j with
    | 0=>cases hv;cases hx;exact .int _ _
    | 1=>cases hv;cases hx;exact .nili
    | j+2=>simp at hv
   ·rcases hw with rfl|⟨t,rfl⟩
    ·exact .refl _ _
    ·exact AP _ _ 0 _
  ·skip
   have e1:YW ⟨s⟩=(0,⟨true⟩):=by simp only[YW,h]
   rw[e1]
   obtain⟨cs,hc,ev,he,hev⟩:=hL.syn
   refine(Any.strconv_Atoi_syntax Tryz.lays172 ⟨s.toArray⟩ (by rw[hsz];omega) h ev w (GY hΦ hc he) hev).mono ?_
   rintro e w' ⟨N,rfl,_,_,hb⟩
   refine⟨_,rfl,.tup _ _ rfl ?_,hb⟩
   intro j v x hv hx
   match j with
   | 0=>cases hv;cases hx;exact .int _ _
   | 1=>cases hv;cases hx;exact .ifc _ _
   | j+2=>simp at hv
  ·skip
   have e1:YW ⟨s⟩=(Lib.atoiSat s,⟨true⟩):=by simp only[YW,h]
   rw[e1]
   obtain⟨cs,hc,ev,he,hev⟩:=hL.rng
   refine(Any.strconv_Atoi_range Tryz.lays172 ⟨s.toArray⟩ (by rw[hsz];omega) h ev w (GY hΦ hc he) hev).mono ?_
   rintro e w' ⟨N,rfl,_,_,hb⟩
   refine⟨_,rfl,.tup _ _ rfl ?_,hb⟩
   intro j v x hv hx
   match j with
   | 0=>cases hv;cases hx;exact .int _ _
   | 1=>cases hv;cases hx;exact .ifc _ _
   | j+2=>simp at hv)
theorem A7:Zt Tryz.prog 119 (fun x:Str×Unit=>decide (x.1.s.length<=281474976710656)) (fun x:Str×Unit=>ZH x.1):=Zt.of (T:=Wt) (ic:=XK) (rs:=XL) (Zb (Yf Tryz.func152 (by kernel_rfl) G7) (Zb (Yf Tryz.func182 (by kernel_rfl) b6r) (Zb (Yf Tryz.func76 (by kernel_rfl) O5) Zm))) ZO Tryz.func119 (by kernel_rfl) (by kernel_rfl) (by kernel_rfl) a7w
theorem b4o:Zt Tryz.prog 183 (fun x:List Str×Str×Unit=>Zr x.1) (fun x:List Str×Str×Unit=>ZL (fun s:Str=>decide (s=x.2.1)) x.1):=Zt.of (T:=QY) (ic:=UW) (rs:=U1) Zm ZO Tryz.func183 (by kernel_rfl) (by kernel_rfl) (by kernel_rfl) a7g
theorem CZ:Zt Tryz.prog 120 (fun x:List Str×Str×Unit=>Zr x.1) (fun x:List Str×Str×Unit=>x.1.contains x.2.1):=Zt.of (T:=F3) (ic:=Rh) (rs:=Ps) (Zb (Yf Tryz.func183 (by kernel_rfl) b4o) Zm) ZO Tryz.func120 (by kernel_rfl) (by kernel_rfl) (by kernel_rfl) b1s
theorem H8:Zt Tryz.prog 50 (fun x:BoxT×Unit=>ZJ x.1) (fun x:BoxT×Unit=>Xd x.1):=Zt.of (T:=Kj) (ic:=UR) (rs:=UX) (Zb (Yf Tryz.func119 (by kernel_rfl) A7) (Zb (Yf Tryz.func120 (by kernel_rfl) CZ) Zm)) ZO Tryz.func50 (by kernel_rfl) (by kernel_rfl) (by kernel_rfl) a4r
theorem d9i:Yu Tryz.prog 48 WM Qg:=c5q (T:=Us) (ic:=Vg) (rs:=Vp) Zm ZO Tryz.func48 (by kernel_rfl) (by kernel_rfl) (by kernel_rfl) a3e
theorem b8f:Yu Tryz.prog 174 QG JY:=VI (T:=Xm) (ic:=YX) (rs:=YV) Zm ZO Tryz.func174 (by kernel_rfl) (by kernel_rfl) (by kernel_rfl) b3v
theorem c3s:Yu Tryz.prog 174 QI GH:=VI (T:=Xm) (ic:=YX) (rs:=YV) Zm ZO Tryz.func174 (by kernel_rfl) (by kernel_rfl) (by kernel_rfl) a5y
theorem RU:Zt Tryz.prog 174 (fun x:Lin×Unit=>decide (x.1.t.length<=1000000)) (fun x:Lin×Unit=>Zd x.1):=Zt.of (T:=Xm) (ic:=YX) (rs:=YV) Zm ZO Tryz.func174 (by kernel_rfl) (by kernel_rfl) (by kernel_rfl) a5c
theorem d6k:Yu Tryz.prog 176 Gy SK:=VI (T:=a7y) (ic:=Lu) (rs:=Fu) (Zb (Yf Tryz.func120 (by kernel_rfl) CZ) Zm) ZO Tryz.func176 (by kernel_rfl) (by kernel_rfl) (by kernel_rfl) c2k
theorem d9u:Yu Tryz.prog 238 (Vi 176) SN:=VI (T:=Dk) (ic:=Q4) (rs:=KR) (Zb (Yf Tryz.func176 (by kernel_rfl) d6k) Zm) ZO Tryz.func238 (by kernel_rfl) (by kernel_rfl) (by kernel_rfl) d0m
theorem c4k:Yu Tryz.prog 175 (Vi 176) LM:=VI (T:=a9f) (ic:=RN) (rs:=MZ) (Zb (Yf Tryz.func238 (by kernel_rfl) d9u) Zm) ZO Tryz.func175 (by kernel_rfl) (by kernel_rfl) (by kernel_rfl) d2i
theorem KA:Zt Tryz.prog 116 (fun x:BoxT×List Fact×Bool×NilS×Unit=>ZJ x.1&&Zl x.2.1&&decide (x.2.1.length<=100)) (fun x:BoxT×List Fact×Bool×NilS×Unit=>Zj x.1 x.2.1 x.2.2.1 []):=Zt.of (T:=YZ) (ic:=YF) (rs:=YJ) (Zb (Yf Tryz.func50 (by kernel_rfl) H8) (Zb (Yf Tryz.func95 (by kernel_rfl) CU) (Zb (Yf Tryz.func174 (by kernel_rfl) RU) (Zb (Yf Tryz.func175 (by kernel_rfl) c4k) Zm)))) ZO Tryz.func116 (by kernel_rfl) (by kernel_rfl) (by kernel_rfl) a5p
theorem a4p:Yu Tryz.prog 116 VL QH:=VI (T:=YZ) (ic:=YF) (rs:=YJ) (Zb (Yf Tryz.func50 (by kernel_rfl) H8) (Zb (Yf Tryz.func95 (by kernel_rfl) CU) (Zb (Yf Tryz.func174 (by kernel_rfl) RU) (Zb (Yf Tryz.func175 (by kernel_rfl) c4k) Zm)))) ZO Tryz.func116 (by kernel_rfl) (by kernel_rfl) (by kernel_rfl) a1b
end Go.Proofs.YtjfgiaooglnomaaGreatDoor
namespace Go.Proofs.YtjfgiaooglnomaaGreatDoor
open Go.Pl
open Enc (enc dec is)
open EncL (encL decL isL)
set_option maxRecDepth 100000
theorem AO:Zt Tryz.prog 65 (fun x:Lin×List Coef×Unit=>Z9 x.1&&decide (x.2.1.length<=9223372036854775807)) (fun x:Lin×List Coef×Unit=>ZZ x.1 x.2.1):=Zt.of (T:=WO) (ic:=XP) (rs:=XR) (Zb (Yf Tryz.func20 (by kernel_rfl) J2) Zm) ZO Tryz.func65 (by kernel_rfl) (by kernel_rfl) (by kernel_rfl) b6b
theorem Fg:Zt Tryz.prog 53 (fun x:List Fact×List Coef×Unit=>Zl x.1&&decide (x.2.1.length<=9223372036854775807)) (fun x:List Fact×List Coef×Unit=>x.1.all fun f=>Yx f x.2.1):=Zt.of (T:=Qs) (ic:=Uc) (rs:=V8) (Zb (Yf Tryz.func65 (by kernel_rfl) AO) Zm) ZO Tryz.func53 (by kernel_rfl) (by kernel_rfl) (by kernel_rfl) a6w
end Go.Proofs.YtjfgiaooglnomaaGreatDoor
namespace Go.Proofs.YtjfgiaooglnomaaGreatDoor
open Go.Pl
open Enc (enc dec is)
open EncL (encL decL isL)
set_option maxRecDepth 100000
theorem Mw:Zt Tryz.prog 196 (fun _:Int×Unit=>true) (fun x:Int×Unit=>YR x.1):=Zt.of (T:=c3h) (ic:=a3v) (rs:=a4j) Zm ZO Tryz.func196 (by kernel_rfl) (by kernel_rfl) (by kernel_rfl) d4e
theorem a6y:Zt Tryz.prog 199 (fun _:Int×Int×Unit=>true) (fun x:Int×Int×Unit=>DN x.1 x.2.1):=Zt.of (T:=a7c) (ic:=F9) (rs:=Li) (Zb (Yf Tryz.func196 (by kernel_rfl) Mw) Zm) ZO Tryz.func199 (by kernel_rfl) (by kernel_rfl) (by kernel_rfl) b8w
theorem c3n:Yu Tryz.prog 89 KY GG:=b5i a1r
theorem b6s:Yu Tryz.prog 66 J5 GU:=VI (T:=Qn) (ic:=Ub) (rs:=Ud) (Zb (Yf Tryz.func89 (by kernel_rfl) c3n) Zm) ZO Tryz.func66 (by kernel_rfl) (by kernel_rfl) (by kernel_rfl) a5e
theorem M0:Zt Tryz.prog 66 (fun x:Lin×Lin×Int×Unit=>decide (x.1.t.length<=500000)&&decide (x.2.1.t.length<=500000)) (fun x:Lin×Lin×Int×Unit=>Uy x.1 x.2.1 x.2.2.1):=a7a b6s
theorem c9p:Yu Tryz.prog 110 RY Og:=VI (T:=c3b) (ic:=a4e) (rs:=a3o) Zm ZO Tryz.func110 (by kernel_rfl) (by kernel_rfl) (by kernel_rfl) d0j
theorem d8e:Yu Tryz.prog 109 (JS 110) Sy:=VI (T:=TT) (ic:=Hz) (rs:=DW) (Zb (Yf Tryz.func110 (by kernel_rfl) c9p) Zm) ZO Tryz.func109 (by kernel_rfl) (by kernel_rfl) (by kernel_rfl) d3o
theorem Qk:Zt Tryz.prog 38 (fun x:Lin×List Coef×Unit=>Z0 x.1&&decide (x.2.1.length<=9223372036854775807)) (fun x:Lin×List Coef×Unit=>ZZ x.1 x.2.1):=Zt.of (T:=Sg) (ic:=Hy) (rs:=Gi) (Zb (Yf Tryz.func73 (by kernel_rfl) Vf) (Zb (Yf Tryz.func109 (by kernel_rfl) d8e) Zm)) ZO Tryz.func38 (by kernel_rfl) (by kernel_rfl) (by kernel_rfl) d3h
theorem d2g:Yu Tryz.prog 239 Cm Ab:=VI (T:=d7l) (ic:=c2m) (rs:=c6c) (Zb (Yf Tryz.func38 (by kernel_rfl) Qk) Zm) ZO Tryz.func239 (by kernel_rfl) (by kernel_rfl) (by kernel_rfl) d5z
theorem d5t:Yu Tryz.prog 227 (VP 239) Tf:=VI (T:=RI) (ic:=Du) (rs:=Dp) (Zb (Yf Tryz.func239 (by kernel_rfl) d2g) Zm) ZO Tryz.func227 (by kernel_rfl) (by kernel_rfl) (by kernel_rfl) d4f
theorem d9p:Yu Tryz.prog 161 (VP 239) Td:=VI (T:=b9y) (ic:=a6x) (rs:=a5f) (Zb (Yf Tryz.func227 (by kernel_rfl) d5t) Zm) ZO Tryz.func161 (by kernel_rfl) (by kernel_rfl) (by kernel_rfl) d4i
theorem Fa:Zt Tryz.prog 178 (fun x:List Fact×List Coef×Unit=>Zl x.1&&decide (x.2.1.length<=9223372036854775807)) (fun x:List Fact×List Coef×Unit=>x.1.all fun f=>Yx f x.2.1):=Zt.of (T:=Py) (ic:=Aw) (rs:=BI) (Zb (Yf Tryz.func161 (by kernel_rfl) d9p) Zm) ZO Tryz.func178 (by kernel_rfl) (by kernel_rfl) (by kernel_rfl) a5v
end Go.Proofs.YtjfgiaooglnomaaGreatDoor
namespace Go.Proofs.YtjfgiaooglnomaaGreatDoor
open Go.RowKit
theorem Tk{k:IntKind}{a b:Int}(h:a=b):Ending.returned (.int k a) = .returned (.int k b):=by rw[h]
theorem PN{a b:Bool}(h:a=b):Ending.returned (.bool a) = .returned (.bool b):=by rw[h]
theorem c2r{W w1:World}(hb:Below W.heap.size W w1):(∀ b o,b<W.heap.size->w1.cell? ⟨b,o,none⟩=W.cell? ⟨b,o,none⟩)∧(∀ b o,b<W.heap.size->w1.frozen? ⟨b,o,none⟩=W.frozen? ⟨b,o,none⟩):=
 ⟨fun b o h=>hb.cell (p:=⟨b,o,none⟩) h,fun b o h=>hb.frozen (p:=⟨b,o,none⟩) h⟩
theorem FV(a:Addr)(n:Nat):(a.add n).block=a.block:=by unfold Addr.add;split <;> rfl
def XX(w:World)(B size:Nat)(A:Option Addr)(n:Nat)(xs:List Value):Prop:=
 xs.length=n*size∧(0<n-> ∃ ad,A=some ad∧ad.block<B∧ ∀ j u,xs[j]? = some u->w.cell? (ad.add j)=some u)
section
variable {w w':World} {B B' size n:Nat} {A:Option Addr} {xs:List Value}
theorem XX.at_{k:Nat}(h:XX w B 1 A n xs)(hk:k<n): ∃ ad u,A=some ad∧ad.block<B∧xs[k]? = some u∧w.cell? (ad.add k)=some u:=by
 obtain⟨ad,e,hb,hc⟩:=h.2 (by omega)
 have hl:k<xs.length:=by have:=h.1;omega
 exact⟨ad,xs[k],e,hb,List.getElem?_eq_getElem hl,hc k _ (List.getElem?_eq_getElem hl)⟩
theorem XX.keep(h:XX w B size A n xs)(hk : ∀ p:Addr,p.block<B->w'.cell? p=w.cell? p):XX w' B size A n xs:=
 ⟨h.1,fun hn=>by
  obtain⟨ad,e,hb,hc⟩:=h.2 hn
  exact⟨ad,e,hb,fun j u hu=>(hk _ (by rw[FV];exact hb)).trans (hc j u hu)⟩⟩
theorem XX.more(h:XX w B size A n xs)(hB:B<=B'):XX w B' size A n xs:=
 ⟨h.1,fun hn=>by
  obtain⟨ad,e,hb,hc⟩:=h.2 hn
  exact⟨ad,e,by omega,hc⟩⟩
theorem XX.below(h:XX w B size A n xs)(hb:Below B w w'):XX w' B size A n xs:=h.keep fun _ hp=>hb.cell hp
theorem XX.of_own{base:Nat}{e:TypeId}{c:Nat}(h:w.ownsRow base e size (.slice A n c) n xs):XX w w.heap.size size A n xs:=by
 refine⟨h.1,fun hn=> ?_⟩
 obtain⟨g,cap,hv,_,hlt⟩:=h.form hn
 have hA:A=some ⟨g,0,none⟩:=by injection hv
 subst hA
 exact⟨_,rfl,hlt,h.cells (g:=g) rfl⟩
theorem XX.of_new(w:World)(e:TypeId)(cs:Array Value):XX (w.alloc (.cells cs e)) (w.heap.size+1) 1 (some ⟨w.heap.size,0,none⟩) cs.size cs.toList:=by
 refine⟨by simp,fun _=>⟨_,rfl,by simp,fun j u hu=> ?_⟩⟩
 have hj:j<cs.size:=by
  have:=(List.getElem?_eq_some_iff.1 hu).1
  simpa using this
 have hu':cs[j]? = some u:=by simpa using hu
 have:(⟨w.heap.size,0,none⟩:Addr).add j=⟨w.heap.size,j,none⟩:=by
  unfold Addr.add;by_cases h0:j=0 <;> simp[h0]
 rw[this,cell_of_row (w.alloc (.cells cs e)) w.heap.size j cs e (0,0) (heap_alloc_new w _)]
 exact hu'
end
def Vx(w:World)(g:Nat)(t:TypeId)(cs:Array Value):Prop:=w.heap[g]? = some (.cells cs t (0,0))
section
variable {w w':World} {g:Nat} {t:TypeId} {cs:Array Value}
theorem Vx.lt(h:Vx w g t cs):g<w.heap.size:=by
 rcases Nat.lt_or_ge g w.heap.size with hlt|hge
 ·exact hlt
 ·unfold Vx at h;rw[Array.getElem?_eq_none hge]at h;cases h
theorem Vx.cell(h:Vx w g t cs)(i:Nat):w.cell? ⟨g,i,none⟩=cs[i]? :=cell_of_row w g i cs t (0,0) h
theorem Vx.frozen(h:Vx w g t cs)(i:Nat):w.frozen? ⟨g,i,none⟩=false:=by
 unfold Vx at h
 simp[World.frozen?,h]
theorem Vx.new(w:World)(t:TypeId)(cs:Array Value):Vx (w.alloc (.cells cs t)) w.heap.size t cs:=heap_alloc_new w _
theorem Vx.drew(h:Vx w g t cs):Vx w.drew g t cs:=h
theorem Vx.alloc(h:Vx w g t cs)(o:Obj):Vx (w.alloc o) g t cs:=(Below.heap_alloc w o g h.lt).trans h
theorem Vx.set_(h:Vx w g t cs)(i:Nat)(u:Value):Vx (w.setCell ⟨g,i,none⟩ u) g t (cs.setIfInBounds i u):=by
 unfold Vx at h ⊢
 simp[World.setCell,Array.getElem?_modify,h]
theorem Vx.far(h:Vx w g t cs){p:Addr}(hp:g≠p.block)(u:Value):Vx (w.setCell p u) g t cs:=(Below.heap_setCell w p u g hp).trans h
theorem Vx.below{B:Nat}(h:Vx w g t cs)(hb:Below B w w')(hg:g<B):Vx w' g t cs:=(hb.block g hg).trans h
end
theorem Nw(w:World)(row:Option Nat):w.grownBy w row:=World.grownBy.refl w row
theorem QR{a w:World}{row:Option Nat}(h:a.grownBy w row):a.grownBy w.drew row:=⟨h.os,h.tape,h.output,h.size,h.block⟩
theorem Vq{a w:World}{g:Nat}(h:a.grownBy w (some g)){p:Addr}(hp:p.block=g∨a.heap.size<=p.block)(u:Value):a.grownBy (w.setCell p u) (some g):=
 ⟨h.os,h.tape,h.output,by simpa [World.setCell]using h.size,fun i hi hne=>(Below.heap_setCell w p u i (by
  rintro rfl
  rcases hp with hp|hp
  ·exact hne (by rw[hp])
  ·omega)).trans (h.block i hi hne)⟩
end Go.Proofs.YtjfgiaooglnomaaGreatDoor
namespace Go.Proofs.YtjfgiaooglnomaaGreatDoor
open Go.RowKit
def rng(n:Int):Bool:=decide (-4611686018427387904<=n∧n<=4611686018427387904)
theorem Ug{n:Int}(h:rng n=true): -4611686018427387904<=n∧n<=4611686018427387904:=by simpa [rng]using h
theorem Q6{n:Int}(h : -4611686018427387904<=n∧n<=4611686018427387904):rng n=true:=by simpa [rng]using h
theorem Vh{n:Int}(h : ¬ (-4611686018427387904<=n∧n<=4611686018427387904)):rng n=false:=by simpa [rng]using h
def vR(n:Int):Int:=bif rng n then n else 0
def eR(n:Int):Int:=bif rng n then 0 else 2
set_option maxHeartbeats 400000 in
theorem XF(n:Int)(w:World):
  Calls Tryz.prog 196 #[.int .i64 n] w fun e w'=>e = .returned (.bool (rng n))∧w=w':=by
 by_cases h1 : -4611686018427387904<=n
 ·by_cases h2:n<=4611686018427387904
  ·rw[Q6 ⟨h1,h2⟩]
   go_enter Tryz.func196,Tryz.ntmps196
   go_wp2
   go_ret
   exact⟨rfl,rfl⟩
  ·rw[Vh (fun h=>h2 h.2)]
   go_enter Tryz.func196,Tryz.ntmps196
   go_wp2
   go_ret
   exact⟨rfl,rfl⟩
 ·rw[Vh (fun h=>h1 h.1)]
  go_enter Tryz.func196,Tryz.ntmps196
  go_wp2
  go_ret
  exact⟨rfl,rfl⟩
theorem c5c(zs:List Int)(k:Nat)(x:Int)(hx:zs[k]? = some x):(zs.take (k+1)).all rng=((zs.take k).all rng&&rng x):=by
 have hk:k<zs.length:=(List.getElem?_eq_some_iff.1 hx).1
 rw[List.take_succ_eq_append_getElem hk]
 have:zs[k]=x:=by rw[List.getElem?_eq_getElem hk]at hx;exact Option.some.inj hx
 simp[this]
theorem a9c(zs:List Int)(k:Nat)(x:Int)(hx:zs[k]? = some x)(hr:rng x=false):zs.all rng=false:=by
 have hk:k<zs.length:=(List.getElem?_eq_some_iff.1 hx).1
 rw[List.all_eq_false]
 refine⟨x,List.mem_of_getElem? hx,by simp[hr]⟩
set_option maxHeartbeats 400000 in
theorem TI(A:Option Addr)(n c:Nat)(zs:List Int)(w:World)(B:Nat)(hr:XX w B 1 A n (zs.map (Value.int .i64)))(hn:n<=9223372036854775807):
  Calls Tryz.prog 191 #[.slice A n c] w fun e w'=>e = .returned (.bool (zs.all rng))∧w=w':=by
 have hlen:=Lib.hid (show zs.length=n by have:=hr.1;simpa using this)
 go_enter Tryz.func191,Tryz.ntmps191
 go_wp2
 go_loop [7] (fun i=> ∃ k:Nat,k<=n∧i = .int .i64 k∧Hid ((zs.take k).all rng=true)) (fun i=>n - (intOf i).toNat)
 case atStart=>exact⟨0,Nat.zero_le _,rfl,Lib.hid (by simp)⟩
 case round=>
  obtain⟨k,hk,rfl,ha⟩:=hrel
  by_cases hlt:k<n
  ·obtain⟨ad,u,rfl,_,hu,hc⟩:=hr.at_ hlt
   rw[List.getElem?_map]at hu
   obtain⟨x,hx,rfl⟩:=Option.map_eq_some_iff.1 hu
   have HX:=Lib.hid hx
   clear hx hu
   by_cases h1 : -4611686018427387904<=x
   ·by_cases h2:x<=4611686018427387904
    ·have HA:Hid ((zs.take (k+1)).all rng=true):=Lib.hid (by rw[c5c zs k x HX.out,ha.out,Q6 ⟨h1,h2⟩];rfl)
     go_wp2
     go_round
     case rel=>exact⟨k+1,by omega,by go_num,HA⟩
     case measure=>simp[intOf];omega
    ·go_wp2
     go_ret
     exact⟨PN (by rw[a9c zs k x HX.out (Vh (by omega))]),rfl⟩
   ·go_wp2
    go_ret
    exact⟨PN (by rw[a9c zs k x HX.out (Vh (by omega))]),rfl⟩
  ·go_wp2
   go_ret
   exact⟨PN (by have:=ha.out;rw[List.take_of_length_le (by rw[hlen.out];omega)]at this;rw[this]),rfl⟩
set_option maxHeartbeats 400000 in
theorem Sb(n:Int)(w:World):
  Calls Tryz.prog 253 #[.int .i64 n] w fun e w'=>e = .returned (.tuple #[.int .i64 (vR n),.int .i64 (eR n)])∧Below w.heap.size w w':=by
 have H1:=fun c=>TI (some ⟨w.heap.size,0,none⟩) 1 c [n] (w.alloc (.cells #[.int .i64 n] 3)) (w.heap.size+1) (XX.of_new w 3 #[.int .i64 n]) (by omega)
 cases hr:rng n
 all_goals
  simp only[List.all_cons,List.all_nil,hr,Bool.and_true]at H1
  have H2:=Lib.hid H1
  clear H1
  go_enter Tryz.func253,Tryz.ntmps253
  go_wp2_with (go_at_call 191;refine(H2.out _).mono ?_;rintro e w' ⟨rfl,rfl⟩)
  go_ret2
  exact⟨by simp[vR,eR,hr],(Below.refl _ _).alloc (Nat.le_refl _) _⟩
end Go.Proofs.YtjfgiaooglnomaaGreatDoor
namespace Go.Proofs.YtjfgiaooglnomaaGreatDoor
open Go.RowKit
set_option maxHeartbeats 400000 in
theorem CE(n:Int)(w:World)(h : -4611686018427387904<=n∧n<=4611686018427387904):
  Calls Tryz.prog 249 #[.int .i64 n] w fun e w'=>e = .returned (.int .i64 (n.natAbs:Int))∧w=w':=by
 obtain⟨h1,h2⟩:=h
 by_cases h0:n<0
 ·go_enter Tryz.func249,Tryz.ntmps249
  go_wp2
  go_ret
  exact⟨Tk (by omega),rfl⟩
 ·go_enter Tryz.func249,Tryz.ntmps249
  go_wp2
  go_ret
  exact⟨Tk (by omega),rfl⟩
set_option maxHeartbeats 400000 in
theorem OU(n:Int)(w:World)(h : -4611686018427387904<=n∧n<=4611686018427387904):
  Calls Tryz.prog 254 #[.int .i64 n] w fun e w'=>e = .returned (.int .i64 (n.natAbs:Int))∧w=w':=by
 obtain⟨h1,h2⟩:=h
 by_cases h0:n<0
 ·go_enter Tryz.func254,Tryz.ntmps254
  go_wp2
  go_ret
  exact⟨Tk (by omega),rfl⟩
 ·go_enter Tryz.func254,Tryz.ntmps254
  go_wp2
  go_ret
  exact⟨Tk (by omega),rfl⟩
theorem a9u(a b:Int)(ha : -4611686018427387904<=a∧a<=4611686018427387904)(_hb:b≠0): -4611686018427387904<=a.tdiv b∧a.tdiv b<=4611686018427387904:=by
 have h1:(a.tdiv b).natAbs=a.natAbs / b.natAbs:=Int.natAbs_tdiv a b
 have h2:=Nat.div_le_self a.natAbs b.natAbs
 generalize a.natAbs / b.natAbs=q at *
 omega
theorem b0b(a b:Int)(hb:b≠0): -(b.natAbs:Int)<a.tmod b∧a.tmod b<(b.natAbs:Int):=by
 have h1:(a.tmod b).natAbs=a.natAbs % b.natAbs:=Int.natAbs_tmod a b
 have h2:=Nat.mod_lt a.natAbs (show 0<b.natAbs by omega)
 omega
theorem Bq(b q1 q2 r1 r2:Int)(h:b*q1+r1=b*q2+r2)(h1:0<b->0<=r1∧r1<b∧0<=r2∧r2<b)(h2:b<0->r1<=0∧b<r1∧r2<=0∧b<r2)(h0 : ¬ b=0):q1=q2∧r1=r2:=by
 have e:b*(q1 - q2)=r2 - r1:=by rw[Int.mul_sub];omega
 have hq:q1 - q2=0:=by
  refine Classical.byContradiction fun hne=> ?_
  have h3:b.natAbs<=(b*(q1 - q2)).natAbs:=by
   rw[Int.natAbs_mul]
   exact Nat.le_mul_of_pos_right _ (by omega)
  rw[e]at h3
  omega
 rw[hq]at e
 omega
theorem Dz(a b:Int)(_h0 : ¬ b=0):b*a.fdiv b+a.fmod b=a∧(0<b->0<=a.fmod b∧a.fmod b<b)∧(b<0->a.fmod b<=0∧b<a.fmod b):=by
 refine⟨Int.mul_fdiv_add_fmod a b,fun h=>⟨Int.fmod_nonneg_of_pos a h,Int.fmod_lt_of_pos a h⟩,fun h=> ?_⟩
 have e:a.fmod b = -((-a).fmod (-b)):=by rw[Int.neg_fmod_neg,Int.neg_neg]
 have h1:=Int.fmod_nonneg_of_pos (-a) (show 0 < -b by omega)
 have h2:=Int.fmod_lt_of_pos (-a) (show 0 < -b by omega)
 omega
theorem DV(a b:Int)(h0 : ¬ b=0):b*a.tdiv b+a.tmod b=a∧ -(b.natAbs:Int)<a.tmod b∧a.tmod b<(b.natAbs:Int):=
 ⟨Int.mul_tdiv_add_tmod a b,b0b a b h0⟩
theorem d7j(a b:Int)(h0 : ¬ b=0)(h:(a.tmod b==0)=false)(h2:(!decide (a.tmod b<0)==decide (b<0))=true):a.tdiv b - 1=a.fdiv b∧a.tmod b+b=a.fmod b:=by
 obtain⟨e1,p1,p2⟩:=Dz a b h0
 obtain⟨e2,p3,p4⟩:=DV a b h0
 have h' : ¬ a.tmod b=0:=by simpa using h
 have h2' : ¬ (a.tmod b<0 ↔ b<0):=by
  intro hi
  by_cases hb:b<0 <;> simp[hb,hi]at h2
 have e3:b*(a.tdiv b - 1)+(a.tmod b+b)=b*a.fdiv b+a.fmod b:=by rw[Int.mul_sub];omega
 exact Bq b _ _ _ _ e3 (fun hb=>by have:=p1 hb;omega) (fun hb=>by have:=p2 hb;omega) h0
theorem c9r(a b:Int)(h0 : ¬ b=0)(h:(a.tmod b==0)=false)(h2:(!decide (a.tmod b<0)==decide (b<0))=false):a.tdiv b=a.fdiv b∧a.tmod b=a.fmod b:=by
 obtain⟨e1,p1,p2⟩:=Dz a b h0
 obtain⟨e2,p3,p4⟩:=DV a b h0
 have h' : ¬ a.tmod b=0:=by simpa using h
 have h2':(a.tmod b<0 ↔ b<0):=by
  by_cases hb:b<0 <;> simp[hb]at h2 <;> simp[hb,h2] <;> omega
 exact Bq b _ _ _ _ (e2.trans e1.symm) (fun hb=>by have:=p1 hb;omega) (fun hb=>by have:=p2 hb;omega) h0
theorem b0x(a b:Int)(h0 : ¬ b=0)(h:(a.tmod b==0)=true):a.tdiv b=a.fdiv b∧a.tmod b=a.fmod b:=by
 obtain⟨e1,p1,p2⟩:=Dz a b h0
 obtain⟨e2,p3,p4⟩:=DV a b h0
 have h':a.tmod b=0:=by simpa using h
 exact Bq b _ _ _ _ (e2.trans e1.symm) (fun hb=>by have:=p1 hb;omega) (fun hb=>by have:=p2 hb;omega) h0
theorem FR{k l:IntKind}{a b c d:Int}(h:a=c∧b=d):Ending.returned (.tuple #[.int k a,.int l b]) = .returned (.tuple #[.int k c,.int l d]):=by rw[h.1,h.2]
end Go.Proofs.YtjfgiaooglnomaaGreatDoor
namespace Go.Proofs.YtjfgiaooglnomaaGreatDoor
open Go.RowKit
def Su(a b:Int):Int:=bif rng a&&rng b&&rng (a+b)then a+b else 0
def Sl(a b:Int):Int:=bif rng a&&rng b&&rng (a+b)then 0 else 2
def Ku(a b:Int):Int:=bif rng a&&rng b&&rng (a*b)then a*b else 0
def Kw(a b:Int):Int:=bif rng a&&rng b&&rng (a*b)then 0 else 2
def Rp(f:Int->Int->Int)(a b:Int):Int:=bif rng a&&rng b&& !(b==0)then f a b else 0
def TQ(a b:Int):Int:=bif rng a&&rng b then(bif b==0 then 1 else 0)else 2
theorem Fj(a b:Int)(w:World):
  Calls Tryz.prog 191 #[.slice (some ⟨w.heap.size,0,none⟩) 2 2] (w.alloc (.cells #[.int .i64 a,.int .i64 b] 3)) fun e w'=>e = .returned (.bool (rng a&&rng b))∧w.alloc (.cells #[.int .i64 a,.int .i64 b] 3)=w':=by
 have h:=TI (some ⟨w.heap.size,0,none⟩) 2 2 [a,b] (w.alloc (.cells #[.int .i64 a,.int .i64 b] 3)) (w.heap.size+1) (XX.of_new w 3 #[.int .i64 a,.int .i64 b]) (by omega)
 simpa using h
theorem d3l{a b:Int}(h:(rng a&&rng b)=true):(-4611686018427387904<=a∧a<=4611686018427387904)∧(-4611686018427387904<=b∧b<=4611686018427387904):=by
 rw[Bool.and_eq_true]at h
 exact⟨Ug h.1,Ug h.2⟩
theorem BV(a b:Int):(0<=a->0<=a.tmod b)∧(a<=0->a.tmod b<=0):=by
 refine⟨fun h=>Int.tmod_nonneg b h,fun h=> ?_⟩
 have h1:=Int.tmod_nonneg b (show 0 <= -a by omega)
 rw[Int.neg_tmod]at h1
 omega
theorem b8s(a b:Int)(h0 : ¬ b=0)(h:(a.tmod b != 0)=true∧(!decide (a<0)==decide (b<0))=true):a.tdiv b - 1=a.fdiv b∧a.tmod b+b=a.fmod b:=by
 obtain⟨h1,h2⟩:=h
 have h1' : ¬ a.tmod b=0:=by simpa using h1
 have hs:=BV a b
 have e:decide (a<0)=decide (a.tmod b<0):=decide_eq_decide.2 (by omega)
 rw[e]at h2
 exact d7j a b h0 (by simpa using h1') h2
theorem d4h(a b:Int)(h0 : ¬ b=0)(h:(a.tmod b != 0)=false∨(!decide (a<0)==decide (b<0))=false):a.tdiv b=a.fdiv b∧a.tmod b=a.fmod b:=by
 by_cases hz:a.tmod b=0
 ·exact b0x a b h0 (by simpa using hz)
 ·rcases h with h|h
  ·exact absurd (by simpa using h) hz
  ·have hs:=BV a b
   have e:decide (a<0)=decide (a.tmod b<0):=decide_eq_decide.2 (by omega)
   rw[e]at h
   exact c9r a b h0 (by simpa using hz) h
theorem d7u(a b:Int)(h0 : ¬ b=0)(h:a.tmod b=0):a.tdiv b=a.fdiv b∧a.tmod b=a.fmod b:=b0x a b h0 (by simpa using h)
set_option maxHeartbeats 400000 in
theorem c3d(a b:Int)(w:World):
  Calls Tryz.prog 199 #[.int .i64 a,.int .i64 b] w fun e w'=>e = .returned (.tuple #[.int .i64 (Rp Int.fdiv a b),.int .i64 (TQ a b)])∧w=w':=by
 cases hra:rng a
 ·have he:TQ a b=2:=by simp[TQ,hra]
  have hv:Rp Int.fdiv a b=0:=by simp[Rp,hra]
  rw[he,hv]
  clear he hv
  go_enter Tryz.func199,Tryz.ntmps199
  go_wp2_with (go_at_call 196;refine(XF _ _).mono ?_;rintro e w' ⟨rfl,rfl⟩)
  go_ret2
  exact⟨rfl,rfl⟩
 ·cases hrb:rng b
  ·have he:TQ a b=2:=by simp[TQ,hrb]
   have hv:Rp Int.fdiv a b=0:=by simp[Rp,hrb]
   rw[he,hv]
   clear he hv
   go_enter Tryz.func199,Tryz.ntmps199
   go_wp2_with (go_at_call 196;refine(XF _ _).mono ?_;rintro e w' ⟨rfl,rfl⟩)
   go_ret2
   exact⟨rfl,rfl⟩
  ·by_cases h0:b=0
   ·subst h0
    have he:TQ a 0=1:=by simp[TQ,hra,hrb]
    have hv:Rp Int.fdiv a 0=0:=by simp[Rp]
    rw[he,hv]
    clear he hv
    go_enter Tryz.func199,Tryz.ntmps199
    go_wp2_with (go_at_call 196;refine(XF _ _).mono ?_;rintro e w' ⟨rfl,rfl⟩)
    go_ret2
    exact⟨rfl,rfl⟩
   ·have h0':(b==0)=false:=beq_eq_false_iff_ne.2 h0
    have he:TQ a b=0:=by simp[TQ,hra,hrb,h0']
    have hv:Rp Int.fdiv a b=a.fdiv b:=by simp[Rp,hra,hrb,h0']
    rw[he,hv]
    clear he hv
    have ha:=Ug hra
    have hb:=Ug hrb
    have hq:=a9u a b ha h0
    have hr:=b0b a b h0
    obtain⟨ha1,ha2⟩:=ha
    obtain⟨hb1,hb2⟩:=hb
    go_enter Tryz.func199,Tryz.ntmps199
    go_wp2_with (go_at_call 196;refine(XF _ _).mono ?_;rintro e w' ⟨rfl,rfl⟩)
    all_goals go_ret2
    all_goals first|exact⟨FR ⟨(b8s a b h0 ‹_›).1,rfl⟩,rfl⟩|exact⟨FR ⟨(d4h a b h0 ‹_›).1,rfl⟩,rfl⟩|exact⟨FR ⟨(d7u a b h0 ‹_›).1,rfl⟩,rfl⟩
end Go.Proofs.YtjfgiaooglnomaaGreatDoor
namespace Go.Proofs.YtjfgiaooglnomaaGreatDoor
open Go.RowKit
theorem a5z(x y c:Nat)(hc:c<=1)(w:World):
  (callFunc 250 #[.int .u64 x,.int .u64 y,.int .u64 c]).run Tryz.prog w =
   .ok (.value (.tuple #[.int .u64 (((x+y+c) % 18446744073709551616:Nat):Int),.int .u64 (((x+y+c) / 18446744073709551616:Nat):Int)])) w:=by
 rw[run_callFunc_extern Tryz.func250 (by kernel_rfl) (by kernel_rfl) (by kernel_rfl) (e:=add64Entry) (by kernel_rfl),run_add64 x y c (by omega) (by omega) (by omega) (by omega)]
 simp only[Result.andThen]
 congr 5 <;> omega
end Go.Proofs.YtjfgiaooglnomaaGreatDoor
namespace Go.Proofs.YtjfgiaooglnomaaGreatDoor
open Go.RowKit
theorem YB{k l:IntKind}{a b c d:Int}(h1:a=c)(h2:b=d):Ending.returned (.tuple #[.int k a,.int l b]) = .returned (.tuple #[.int k c,.int l d]):=by rw[h1,h2]
set_option maxHeartbeats 400000 in
theorem c5h(a b:Int)(w:World):
  Calls Tryz.prog 200 #[.int .i64 a,.int .i64 b] w fun e w'=>e = .returned (.tuple #[.int .i64 (Su a b),.int .i64 (Sl a b)])∧w=w':=by
 cases hra:rng a
 ·have he:Sl a b=2:=by simp[Sl,hra]
  have hv:Su a b=0:=by simp[Su,hra]
  rw[he,hv]
  clear he hv
  go_enter Tryz.func200,Tryz.ntmps200
  go_wp2_with (go_at_call 196;refine(XF _ _).mono ?_;rintro e w' ⟨rfl,rfl⟩)
  go_ret2
  exact⟨rfl,rfl⟩
 ·cases hrb:rng b
  ·have he:Sl a b=2:=by simp[Sl,hrb]
   have hv:Su a b=0:=by simp[Su,hrb]
   rw[he,hv]
   clear he hv
   go_enter Tryz.func200,Tryz.ntmps200
   go_wp2_with (go_at_call 196;refine(XF _ _).mono ?_;rintro e w' ⟨rfl,rfl⟩)
   go_ret2
   exact⟨rfl,rfl⟩
  ·have ha:=Ug hra
   have hb:=Ug hrb
   have hspec:(rng (a+b)=true->Su a b=a+b∧Sl a b=0)∧(rng (a+b)=false->Su a b=0∧Sl a b=2):=by
    constructor <;> intro h <;> simp[Su,Sl,hra,hrb,h]
   have HS:=Lib.hid hspec
   clear hspec
   obtain⟨ha1,ha2⟩:=ha
   obtain⟨hb1,hb2⟩:=hb
   have no : ¬ (-4611686018427387904<=a+b∧a+b<=4611686018427387904)->Su a b=0∧Sl a b=2:=fun h=>HS.out.2 (Vh h)
   have yes:(-4611686018427387904<=a+b∧a+b<=4611686018427387904)->Su a b=a+b∧Sl a b=0:=fun h=>HS.out.1 (Q6 h)
   have NO:=Lib.hid no
   have YES:=Lib.hid yes
   clear no yes HS
   by_cases hpos:0<a
   ·by_cases hin:a+b<=4611686018427387904
    ·go_enter Tryz.func200,Tryz.ntmps200
     go_wp2_with (go_at_call 196;refine(XF _ _).mono ?_;rintro e w' ⟨rfl,rfl⟩)
     go_ret2
     obtain⟨e1,e2⟩:=YES.out (by omega)
     exact⟨YB e1.symm e2.symm,rfl⟩
    ·go_enter Tryz.func200,Tryz.ntmps200
     go_wp2_with (go_at_call 196;refine(XF _ _).mono ?_;rintro e w' ⟨rfl,rfl⟩)
     go_ret2
     obtain⟨e1,e2⟩:=NO.out (by omega)
     exact⟨YB e1.symm e2.symm,rfl⟩
   ·by_cases hneg:a<0
    ·by_cases hin : -4611686018427387904<=a+b
     ·go_enter Tryz.func200,Tryz.ntmps200
      go_wp2_with (go_at_call 196;refine(XF _ _).mono ?_;rintro e w' ⟨rfl,rfl⟩)
      go_ret2
      obtain⟨e1,e2⟩:=YES.out (by omega)
      exact⟨YB e1.symm e2.symm,rfl⟩
     ·go_enter Tryz.func200,Tryz.ntmps200
      go_wp2_with (go_at_call 196;refine(XF _ _).mono ?_;rintro e w' ⟨rfl,rfl⟩)
      go_ret2
      obtain⟨e1,e2⟩:=NO.out (by omega)
      exact⟨YB e1.symm e2.symm,rfl⟩
    ·go_enter Tryz.func200,Tryz.ntmps200
     go_wp2_with (go_at_call 196;refine(XF _ _).mono ?_;rintro e w' ⟨rfl,rfl⟩)
     go_ret2
     obtain⟨e1,e2⟩:=YES.out (by omega)
     exact⟨YB e1.symm e2.symm,rfl⟩
theorem b9b(a:Nat)(ha:a<18446744073709551616):bits .and .u64 (a:Int) 4294967295=((a % 4294967296:Nat):Int):=by
 have h:=bits_and_u64_nat a 4294967295 ha (by omega)
 have e:a &&& 4294967295=a % 4294967296:=Nat.and_two_pow_sub_one_eq_mod a 32
 rw[e]at h
 exact h
theorem e3s(a:Nat):(a:Int) / 4294967296=((a / 4294967296:Nat):Int):=by omega
theorem e3q(a b:Nat):(a:Int)*(b:Int)=((a*b:Nat):Int):=(Int.natCast_mul a b).symm
theorem e2z(a b:Nat):(a:Int)+(b:Int)=((a+b:Nat):Int):=(Int.natCast_add a b).symm
theorem Si(a:Nat)(ha:a<18446744073709551616):IntKind.u64.wrap (a:Int)=(a:Int):=by rw[IntKind.wrap_u64];omega
theorem e0s(a:Nat):IntKind.u64.wrap (a:Int)=((a % 18446744073709551616:Nat):Int):=by rw[IntKind.wrap_u64];omega
set_option maxHeartbeats 1000000 in
theorem b7h(x y:Nat)(hx:x<18446744073709551616)(hy:y<18446744073709551616)(w:World):
  Calls Tryz.prog 248 #[.int .u64 x,.int .u64 y] w fun e w'=>e = .returned (.tuple #[.int .u64 ((x*y / 18446744073709551616:Nat):Int),.int .u64 ((x*y % 18446744073709551616:Nat):Int)])∧w'=w:=by
 obtain⟨bd,bt,bw,hhi⟩:=Lib.mul64_hi x y hx hy
 have ba:=Lib.half_mul_le (a:=x / 4294967296) (b:=y / 4294967296) (by omega) (by omega)
 have bb:=Lib.half_mul_le (a:=x / 4294967296) (b:=y % 4294967296) (by omega) (by omega)
 have bc:=Lib.half_mul_le (a:=x % 4294967296) (b:=y / 4294967296) (by omega) (by omega)
 have ba':x / 4294967296*(y / 4294967296)<18446744073709551616:=by omega
 have bb':x / 4294967296*(y % 4294967296)<18446744073709551616:=by omega
 have bc':x % 4294967296*(y / 4294967296)<18446744073709551616:=by omega
 have bh1:x / 4294967296*(y / 4294967296)+(x / 4294967296*(y % 4294967296)+x % 4294967296*(y % 4294967296) / 4294967296) / 4294967296<18446744073709551616:=by omega
 have bh:x / 4294967296*(y / 4294967296)+(x / 4294967296*(y % 4294967296)+x % 4294967296*(y % 4294967296) / 4294967296) / 4294967296+((x / 4294967296*(y % 4294967296)+x % 4294967296*(y % 4294967296) / 4294967296) % 4294967296+x % 4294967296*(y / 4294967296)) / 4294967296<18446744073709551616:=by omega
 have HH:=Lib.hid hhi
 clear hhi
 go_enter Tryz.func248,Tryz.ntmps248
 go_wp2
 simp only[b9b x hx,b9b y hy,e3s,e3q,e2z,Si _ bd,Si _ bb',Si _ bt,b9b _ bt,Si _ bc',Si _ bw,Si _ ba',Si _ bh1,Si _ bh,e0s (x*y)]
 rw[HH.out]
 go_ret2
 exact⟨rfl,rfl⟩
end Go.Proofs.YtjfgiaooglnomaaGreatDoor
namespace Go.Proofs.YtjfgiaooglnomaaGreatDoor
open Go.RowKit
theorem a0g(x y:Nat)(hx:x<=4611686018427387904)(hy:y<=4611686018427387904)(w:World):
  (x*y<=4611686018427387904∧Calls Tryz.prog 248 #[.int .u64 x,.int .u64 y] w fun e w'=>e = .returned (.tuple #[.int .u64 0,.int .u64 ((x*y:Nat):Int)])∧w=w') ∨
  (4611686018427387904<x*y∧ ∃ h l:Nat,0<h∧Calls Tryz.prog 248 #[.int .u64 x,.int .u64 y] w fun e w'=>e = .returned (.tuple #[.int .u64 (h:Int),.int .u64 (l:Int)])∧w=w') ∨
  (4611686018427387904<x*y∧ ∃ l:Nat,4611686018427387904<l∧Calls Tryz.prog 248 #[.int .u64 x,.int .u64 y] w fun e w'=>e = .returned (.tuple #[.int .u64 0,.int .u64 (l:Int)])∧w=w'):=by
 have h:=b7h x y (by omega) (by omega) w
 generalize x*y=p at *
 by_cases hp:p<=4611686018427387904
 ·refine .inl ⟨hp,h.mono ?_⟩
  rintro e w' ⟨rfl,rfl⟩
  exact⟨YB (by omega) (by omega),rfl⟩
 ·by_cases hh:p<18446744073709551616
  ·refine .inr (.inr ⟨by omega,p,by omega,h.mono ?_⟩)
   rintro e w' ⟨rfl,rfl⟩
   exact⟨YB (by omega) (by omega),rfl⟩
  ·refine .inr (.inl ⟨by omega,p / 18446744073709551616,p % 18446744073709551616,by omega,h.mono ?_⟩)
   rintro e w' ⟨rfl,rfl⟩
   exact⟨rfl,rfl⟩
theorem b0p(a b:Int):(a.natAbs*b.natAbs:Nat)=(a*b).natAbs:=(Int.natAbs_mul a b).symm
theorem Da(a b:Int)(h:(!decide (a<0)==decide (b<0))=true):a*b = -((a.natAbs*b.natAbs:Nat):Int):=by
 rw[Int.natCast_mul]
 by_cases ha:a<0 <;> by_cases hb:b<0
 ·simp[ha,hb]at h
 ·rw[Int.ofNat_natAbs_of_nonpos (by omega),Int.natAbs_of_nonneg (by omega),Int.neg_mul,Int.neg_neg]
 ·rw[Int.ofNat_natAbs_of_nonpos (a:=b) (by omega),Int.natAbs_of_nonneg (a:=a) (by omega),Int.mul_neg,Int.neg_neg]
 ·simp[ha,hb]at h
theorem G9(a b:Int)(h:(!decide (a<0)==decide (b<0))=false):a*b=((a.natAbs*b.natAbs:Nat):Int):=by
 rw[Int.natCast_mul]
 by_cases ha:a<0 <;> by_cases hb:b<0
 ·rw[Int.ofNat_natAbs_of_nonpos (by omega),Int.ofNat_natAbs_of_nonpos (by omega),Int.neg_mul_neg]
 ·simp[ha,hb]at h
 ·simp[ha,hb]at h
 ·rw[Int.natAbs_of_nonneg (by omega),Int.natAbs_of_nonneg (by omega)]
set_option maxRecDepth 20000 in
set_option maxHeartbeats 400000 in
theorem d3w(a b:Int)(w:World):
  Calls Tryz.prog 247 #[.int .i64 a,.int .i64 b] w fun e w'=>e = .returned (.tuple #[.int .i64 (Ku a b),.int .i64 (Kw a b)])∧Below w.heap.size w w':=by
 cases hr:(rng a&&rng b)
 ·have he:Kw a b=2:=by simp[Kw,hr]
  have hv:Ku a b=0:=by simp[Ku,hr]
  rw[he,hv]
  clear he hv
  go_enter Tryz.func247,Tryz.ntmps247
  go_wp2_with (go_at_call 191;refine(Fj _ _ _).mono ?_;rintro e w' ⟨rfl,rfl⟩)
  go_ret2
  exact⟨rfl,(Below.refl _ _).alloc (Nat.le_refl _) _⟩
 ·obtain⟨ha,hb⟩:=d3l hr
  have hspec:(a.natAbs*b.natAbs<=4611686018427387904->Ku a b=a*b∧Kw a b=0)∧(4611686018427387904<a.natAbs*b.natAbs->Ku a b=0∧Kw a b=2):=by
   rw[b0p]
   constructor
   ·intro h
    have h1:rng (a*b)=true:=Q6 (by omega)
    simp[Ku,Kw,hr,h1]
   ·intro h
    have h1:rng (a*b)=false:=Vh (by omega)
    simp[Ku,Kw,hr,h1]
  have HS:=Lib.hid hspec
  clear hspec
  have hsg:=Lib.hid (And.intro (Da a b) (G9 a b))
  have hc:=a0g a.natAbs b.natAbs (by omega) (by omega) (w.alloc (.cells #[.int .i64 a,.int .i64 b] 3))
  have hna:(a.natAbs:Int)<=4611686018427387904:=by omega
  have hnb:(b.natAbs:Int)<=4611686018427387904:=by omega
  have HA:=Lib.hid ha
  have HB:=Lib.hid hb
  have hza:(0:Int)<=(a.natAbs:Int):=by omega
  have hzb:(0:Int)<=(b.natAbs:Int):=by omega
  clear ha hb
  rcases hc with ⟨hp,h⟩|⟨hp,h,l,hh,h2⟩|⟨hp,l,hl,h2⟩
  ·generalize a.natAbs*b.natAbs=p at *
   have H:=Lib.hid h
   clear h
   obtain⟨e1,e2⟩:=HS.out.1 hp
   rw[e1,e2]
   clear e1 e2 HS
   have hp1:(p:Int)<=4611686018427387904:=by omega
   clear hp
   go_enter Tryz.func247,Tryz.ntmps247
   go_wp2_with (first
    | (go_at_call 191;refine(Fj _ _ _).mono ?_;rintro e w' ⟨rfl,rfl⟩)
    | (go_at_call 249;refine(CE _ _ (by first|exact HA.out|exact HB.out)).mono ?_;rintro e w' ⟨rfl,rfl⟩)
    | (go_at_call 248;refine H.out.mono ?_;rintro e w' ⟨rfl,rfl⟩))
   all_goals go_ret2
   all_goals first
    | exact⟨YB (hsg.out.1 ‹_›).symm rfl,(Below.refl _ _).alloc (Nat.le_refl _) _⟩
    | exact⟨YB (hsg.out.2 ‹_›).symm rfl,(Below.refl _ _).alloc (Nat.le_refl _) _⟩
  ·generalize a.natAbs*b.natAbs=p at *
   have H:=Lib.hid h2
   clear h2
   obtain⟨e1,e2⟩:=HS.out.2 hp
   rw[e1,e2]
   clear e1 e2 HS
   have hh1:(0:Int)<(h:Int):=by omega
   clear hp hh
   go_enter Tryz.func247,Tryz.ntmps247
   go_wp2_with (first
    | (go_at_call 191;refine(Fj _ _ _).mono ?_;rintro e w' ⟨rfl,rfl⟩)
    | (go_at_call 249;refine(CE _ _ (by first|exact HA.out|exact HB.out)).mono ?_;rintro e w' ⟨rfl,rfl⟩)
    | (go_at_call 248;refine H.out.mono ?_;rintro e w' ⟨rfl,rfl⟩))
   go_ret2
   exact⟨rfl,(Below.refl _ _).alloc (Nat.le_refl _) _⟩
  ·generalize a.natAbs*b.natAbs=p at *
   have H:=Lib.hid h2
   clear h2
   obtain⟨e1,e2⟩:=HS.out.2 hp
   rw[e1,e2]
   clear e1 e2 HS
   have hh1:(4611686018427387904:Int)<(l:Int):=by omega
   clear hp hl
   go_enter Tryz.func247,Tryz.ntmps247
   go_wp2_with (first
    | (go_at_call 191;refine(Fj _ _ _).mono ?_;rintro e w' ⟨rfl,rfl⟩)
    | (go_at_call 249;refine(CE _ _ (by first|exact HA.out|exact HB.out)).mono ?_;rintro e w' ⟨rfl,rfl⟩)
    | (go_at_call 248;refine H.out.mono ?_;rintro e w' ⟨rfl,rfl⟩))
   go_ret2
   exact⟨rfl,(Below.refl _ _).alloc (Nat.le_refl _) _⟩
end Go.Proofs.YtjfgiaooglnomaaGreatDoor
namespace Go.Proofs.YtjfgiaooglnomaaGreatDoor
open Go.RowKit
set_option maxHeartbeats 400000 in
theorem c0g(a b:Int)(w:World):
  Calls Tryz.prog 197 #[.int .i64 a,.int .i64 b] w fun e w'=>e = .returned (.tuple #[.int .i64 (Ku a b),.int .i64 (Kw a b)])∧w=w':=by
 cases hra:rng a
 ·have he:Kw a b=2:=by simp[Kw,hra]
  have hv:Ku a b=0:=by simp[Ku,hra]
  rw[he,hv]
  clear he hv
  go_enter Tryz.func197,Tryz.ntmps197
  go_wp2_with (go_at_call 196;refine(XF _ _).mono ?_;rintro e w' ⟨rfl,rfl⟩)
  go_ret2
  exact⟨rfl,rfl⟩
 ·cases hrb:rng b
  ·have he:Kw a b=2:=by simp[Kw,hrb]
   have hv:Ku a b=0:=by simp[Ku,hrb]
   rw[he,hv]
   clear he hv
   go_enter Tryz.func197,Tryz.ntmps197
   go_wp2_with (go_at_call 196;refine(XF _ _).mono ?_;rintro e w' ⟨rfl,rfl⟩)
   go_ret2
   exact⟨rfl,rfl⟩
  ·have r0:rng 0=true:=Q6 (by omega)
   by_cases ha0:a=0
   ·subst ha0
    have he:Kw 0 b=0:=by simp[Kw,hra,hrb]
    have hv:Ku 0 b=0:=by simp[Ku]
    rw[he,hv]
    clear he hv
    go_enter Tryz.func197,Tryz.ntmps197
    go_wp2_with (go_at_call 196;refine(XF _ _).mono ?_;rintro e w' ⟨rfl,rfl⟩)
    go_ret2
    exact⟨rfl,rfl⟩
   ·by_cases hb0:b=0
    ·subst hb0
     have he:Kw a 0=0:=by simp[Kw,hra,hrb]
     have hv:Ku a 0=0:=by simp[Ku]
     rw[he,hv]
     clear he hv
     have h1:(a==0)=false:=by simpa using ha0
     go_enter Tryz.func197,Tryz.ntmps197
     go_wp2_with (go_at_call 196;refine(XF _ _).mono ?_;rintro e w' ⟨rfl,rfl⟩)
     go_ret2
     exact⟨rfl,rfl⟩
    ·have ha:=Lib.hid (Ug hra)
     have hb:=Lib.hid (Ug hrb)
     have h1:(a==0)=false:=by simpa using ha0
     have h2:(b==0)=false:=by simpa using hb0
     have hbp:(1:Int)<=(b.natAbs:Int):=by omega
     have hmul:(a.natAbs*b.natAbs<=4611686018427387904 ↔ a.natAbs<=4611686018427387904 / b.natAbs):=(Nat.le_div_iff_mul_le (by omega)).symm
     rw[b0p]at hmul
     by_cases hc:a.natAbs<=4611686018427387904 / b.natAbs
     ·have hab:=hmul.2 hc
      have hr:rng (a*b)=true:=Q6 (by omega)
      have he:Kw a b=0:=by simp[Kw,hra,hrb,hr]
      have hv:Ku a b=a*b:=by simp[Ku,hra,hrb,hr]
      rw[he,hv]
      have hc':(a.natAbs:Int)<=4611686018427387904 / (b.natAbs:Int):=Int.ofNat_le.2 hc
      have hr1 : -4611686018427387904<=a*b:=(Ug hr).1
      have hr2:a*b<=4611686018427387904:=(Ug hr).2
      clear he hv hmul hc hab hr r0 ha0 hb0
      go_enter Tryz.func197,Tryz.ntmps197
      go_wp2_with (first
       | (go_at_call 196;refine(XF _ _).mono ?_;rintro e w' ⟨rfl,rfl⟩)
       | (go_at_call 254;refine(OU _ _ (by first|exact ha.out|exact hb.out)).mono ?_;rintro e w' ⟨rfl,rfl⟩))
      go_ret2
      exact⟨rfl,rfl⟩
     ·have hab : ¬ (a*b).natAbs<=4611686018427387904:=fun h=>hc (hmul.1 h)
      have hr:rng (a*b)=false:=Vh (by omega)
      have he:Kw a b=2:=by simp[Kw,hra,hrb,hr]
      have hv:Ku a b=0:=by simp[Ku,hra,hrb,hr]
      rw[he,hv]
      have hc':4611686018427387904 / (b.natAbs:Int)<(a.natAbs:Int):=Int.ofNat_lt.2 (Nat.lt_of_not_le hc)
      clear he hv hmul hc hab hr r0 ha0 hb0
      go_enter Tryz.func197,Tryz.ntmps197
      go_wp2_with (first
       | (go_at_call 196;refine(XF _ _).mono ?_;rintro e w' ⟨rfl,rfl⟩)
       | (go_at_call 254;refine(OU _ _ (by first|exact ha.out|exact hb.out)).mono ?_;rintro e w' ⟨rfl,rfl⟩))
      go_ret2
      exact⟨rfl,rfl⟩
end Go.Proofs.YtjfgiaooglnomaaGreatDoor
namespace Go.Proofs.YtjfgiaooglnomaaGreatDoor
open Go.RowKit
def WR(n:Nat):Nat:=n % 18446744073709551616
def Vu(n:Nat):Nat:=n / 18446744073709551616 % 18446744073709551616
def Ua(n:Nat):Nat:=n / 340282366920938463463374607431768211456
def Hf(P N:Nat):Array Value:=#[.int .u64 (WR P:Int),.int .u64 (Vu P:Int),.int .u64 (Ua P:Int),.int .u64 (WR N:Int),.int .u64 (Vu N:Int),.int .u64 (Ua N:Int)]
theorem b3i(P x:Nat)(hx:x<340282366920938463463374607431768211456)(h:P+x<6277101735386680763835789423207666416102355444464034512896):
  ∃ c0 c1 c2:Nat,
   (∀ w,(callFunc 250 #[.int .u64 (WR P:Int),.int .u64 ((x % 18446744073709551616:Nat):Int),.int .u64 0]).run Tryz.prog w = .ok (.value (.tuple #[.int .u64 (WR (P+x):Int),.int .u64 (c0:Int)])) w) ∧
   (∀ w,(callFunc 250 #[.int .u64 (Vu P:Int),.int .u64 ((x / 18446744073709551616:Nat):Int),.int .u64 (c0:Int)]).run Tryz.prog w = .ok (.value (.tuple #[.int .u64 (Vu (P+x):Int),.int .u64 (c1:Int)])) w) ∧
   (∀ w,(callFunc 250 #[.int .u64 (Ua P:Int),.int .u64 0,.int .u64 (c1:Int)]).run Tryz.prog w = .ok (.value (.tuple #[.int .u64 (Ua (P+x):Int),.int .u64 (c2:Int)])) w):=by
 have e1:=fun c (hc:c<=1) w=>a5z (WR P) (x % 18446744073709551616) c hc w
 have e2:=fun c (hc:c<=1) w=>a5z (Vu P) (x / 18446744073709551616) c hc w
 have e3:=fun c (hc:c<=1) w=>a5z (Ua P) 0 c hc w
 refine⟨(WR P+x % 18446744073709551616+0) / 18446744073709551616,(Vu P+x / 18446744073709551616+(WR P+x % 18446744073709551616+0) / 18446744073709551616) / 18446744073709551616,
  (Ua P+0+(Vu P+x / 18446744073709551616+(WR P+x % 18446744073709551616+0) / 18446744073709551616) / 18446744073709551616) / 18446744073709551616,fun w=> ?_,fun w=> ?_,fun w=> ?_⟩
 ·refine(e1 0 (by omega) w).trans ?_
  congr 7
  unfold WR;omega
 ·refine(e2 _ (by unfold WR;omega) w).trans ?_
  congr 7
  unfold WR Vu;omega
 ·refine(e3 _ (by unfold WR Vu;omega) w).trans ?_
  congr 7
  unfold WR Vu Ua;omega
theorem Eu(P:Nat)(a b:Int)(ha : -4611686018427387904<=a∧a<=4611686018427387904)(hb : -4611686018427387904<=b∧b<=4611686018427387904)
  (h:P+a.natAbs*b.natAbs<6277101735386680763835789423207666416102355444464034512896) :
  ∃ lo hi c0 c1 c2:Nat,
   (∀ w,Calls Tryz.prog 248 #[.int .u64 (a.natAbs:Int),.int .u64 (b.natAbs:Int)] w fun e w'=>e = .returned (.tuple #[.int .u64 (hi:Int),.int .u64 (lo:Int)])∧w=w') ∧
   (∀ w,(callFunc 250 #[.int .u64 (WR P:Int),.int .u64 (lo:Int),.int .u64 0]).run Tryz.prog w = .ok (.value (.tuple #[.int .u64 (WR (P+a.natAbs*b.natAbs):Int),.int .u64 (c0:Int)])) w) ∧
   (∀ w,(callFunc 250 #[.int .u64 (Vu P:Int),.int .u64 (hi:Int),.int .u64 (c0:Int)]).run Tryz.prog w = .ok (.value (.tuple #[.int .u64 (Vu (P+a.natAbs*b.natAbs):Int),.int .u64 (c1:Int)])) w) ∧
   (∀ w,(callFunc 250 #[.int .u64 (Ua P:Int),.int .u64 0,.int .u64 (c1:Int)]).run Tryz.prog w = .ok (.value (.tuple #[.int .u64 (Ua (P+a.natAbs*b.natAbs):Int),.int .u64 (c2:Int)])) w):=by
 have hm:=fun w=>b7h a.natAbs b.natAbs (by omega) (by omega) w
 have hx:a.natAbs*b.natAbs<340282366920938463463374607431768211456:=by
  have:=Nat.mul_le_mul (show a.natAbs<=4611686018427387904 by omega) (show b.natAbs<=4611686018427387904 by omega)
  omega
 generalize a.natAbs*b.natAbs=x at *
 obtain⟨c0,c1,c2,h0,h1,h2⟩:=b3i P x hx h
 exact⟨_,_,c0,c1,c2,fun w=>(hm w).mono fun e w' ⟨he,hw⟩=>⟨he,hw.symm⟩,h0,h1,h2⟩
theorem c3p(P N Q:Nat):(((Hf P N).setIfInBounds 0 (.int .u64 (WR Q:Int))).setIfInBounds 1 (.int .u64 (Vu Q:Int))).setIfInBounds 2 (.int .u64 (Ua Q:Int))=Hf Q N:=by simp[Hf]
theorem c2f(P N Q:Nat):(((Hf P N).setIfInBounds 3 (.int .u64 (WR Q:Int))).setIfInBounds 4 (.int .u64 (Vu Q:Int))).setIfInBounds 5 (.int .u64 (Ua Q:Int))=Hf P Q:=by simp[Hf]
theorem c1v(x0 x1 x2:Value)(w:World):(Instr.index 221 (.agg #[x0,x1,x2]) (.int .i64 0)).run Tryz.prog w = .ok x0 w:=by kernel_rfl
theorem c8i(x0 x1 x2:Value)(w:World):(Instr.index 221 (.agg #[x0,x1,x2]) (.int .i64 1)).run Tryz.prog w = .ok x1 w:=by kernel_rfl
theorem c0k(x0 x1 x2:Value)(w:World):(Instr.index 221 (.agg #[x0,x1,x2]) (.int .i64 2)).run Tryz.prog w = .ok x2 w:=by kernel_rfl
set_option maxRecDepth 20000 in
set_option maxHeartbeats 1000000 in
theorem b5k(g P N:Nat)(a b:Int)(w:World)(ha : -4611686018427387904<=a∧a<=4611686018427387904)(hb : -4611686018427387904<=b∧b<=4611686018427387904)
  (h:P+a.natAbs*b.natAbs<6277101735386680763835789423207666416102355444464034512896) (hs:(!decide (a<0)==decide (b<0))=false) (hw:Vx w g 223 (Hf P N)) :
  Calls Tryz.prog 192 #[.pointer (some ⟨g,0,none⟩),.int .i64 a,.int .i64 b] w fun e w'=>e = .returned (.tuple #[])∧Vx w' g 223 (Hf (P+a.natAbs*b.natAbs) N)∧w.grownBy w' (some g):=by
 obtain⟨lo,hi,c0,c1,c2,hm,r0,r1,r2⟩:=Eu P a b ha hb h
 generalize P+a.natAbs*b.natAbs=Q at *
 have HM:=Lib.hid hm
 have HA:=Lib.hid ha
 have HB:=Lib.hid hb
 have hna:(a.natAbs:Int)<=4611686018427387904:=by omega
 have hnb:(b.natAbs:Int)<=4611686018427387904:=by omega
 have k0:w.cell? ⟨g,0,none⟩=some (.int .u64 (WR P:Int)):=hw.cell 0
 have k1:w.cell? ⟨g,1,none⟩=some (.int .u64 (Vu P:Int)):=hw.cell 1
 have k2:w.cell? ⟨g,2,none⟩=some (.int .u64 (Ua P:Int)):=hw.cell 2
 have f0:=hw.frozen 0
 have f1:=hw.frozen 1
 have f2:=hw.frozen 2
 have HW:=Lib.hid hw
 clear hm ha hb h hw
 go_enter Tryz.func192,Tryz.ntmps192
 go_wp2_with (first
  | (go_at_call 249;refine(CE _ _ (by first|exact HA.out|exact HB.out)).mono ?_;rintro e w' ⟨rfl,rfl⟩)
  | (go_at_call 248;refine(HM.out _).mono ?_;rintro e w' ⟨rfl,rfl⟩))
 have i0:=c1v
 have i1:=c8i
 have i2:=c0k
 refine wp_loop_rounds 4 ?_
 rw[rounds_succ]
 go_wp2
 go_region
 all_goals go_wp2
 all_goals rw[rounds_succ]
 all_goals go_wp2
 all_goals go_region
 all_goals go_wp2
 all_goals rw[rounds_succ]
 all_goals go_wp2
 all_goals go_region
 all_goals go_wp2
 all_goals rw[rounds_succ]
 all_goals go_wp2
 go_end0
 refine⟨rfl,?_,?_⟩
 ·have h:=((HW.out.set_ 0 (.int .u64 (WR Q:Int))).set_ 1 (.int .u64 (Vu Q:Int))).set_ 2 (.int .u64 (Ua Q:Int))
  rw[c3p]at h
  exact h.drew.drew.drew
 ·exact QR (QR (QR (Vq (p:=⟨g,2,none⟩) (Vq (p:=⟨g,1,none⟩) (Vq (p:=⟨g,0,none⟩) (Nw w (some g)) (.inl rfl) _) (.inl rfl) _) (.inl rfl) _)))
set_option maxRecDepth 20000 in
set_option maxHeartbeats 1000000 in
theorem b4v(g P N:Nat)(a b:Int)(w:World)(ha : -4611686018427387904<=a∧a<=4611686018427387904)(hb : -4611686018427387904<=b∧b<=4611686018427387904)
  (h:N+a.natAbs*b.natAbs<6277101735386680763835789423207666416102355444464034512896) (hs:(!decide (a<0)==decide (b<0))=true) (hw:Vx w g 223 (Hf P N)) :
  Calls Tryz.prog 192 #[.pointer (some ⟨g,0,none⟩),.int .i64 a,.int .i64 b] w fun e w'=>e = .returned (.tuple #[])∧Vx w' g 223 (Hf P (N+a.natAbs*b.natAbs))∧w.grownBy w' (some g):=by
 obtain⟨lo,hi,c0,c1,c2,hm,r0,r1,r2⟩:=Eu N a b ha hb h
 generalize N+a.natAbs*b.natAbs=Q at *
 have HM:=Lib.hid hm
 have HA:=Lib.hid ha
 have HB:=Lib.hid hb
 have hna:(a.natAbs:Int)<=4611686018427387904:=by omega
 have hnb:(b.natAbs:Int)<=4611686018427387904:=by omega
 have k0:w.cell? ⟨g,3,none⟩=some (.int .u64 (WR N:Int)):=hw.cell 3
 have k1:w.cell? ⟨g,4,none⟩=some (.int .u64 (Vu N:Int)):=hw.cell 4
 have k2:w.cell? ⟨g,5,none⟩=some (.int .u64 (Ua N:Int)):=hw.cell 5
 have f0:=hw.frozen 3
 have f1:=hw.frozen 4
 have f2:=hw.frozen 5
 have HW:=Lib.hid hw
 clear hm ha hb h hw
 go_enter Tryz.func192,Tryz.ntmps192
 go_wp2_with (first
  | (go_at_call 249;refine(CE _ _ (by first|exact HA.out|exact HB.out)).mono ?_;rintro e w' ⟨rfl,rfl⟩)
  | (go_at_call 248;refine(HM.out _).mono ?_;rintro e w' ⟨rfl,rfl⟩))
 have i0:=c1v
 have i1:=c8i
 have i2:=c0k
 refine wp_loop_rounds 4 ?_
 rw[rounds_succ]
 go_wp2
 go_region
 all_goals go_wp2
 all_goals rw[rounds_succ]
 all_goals go_wp2
 all_goals go_region
 all_goals go_wp2
 all_goals rw[rounds_succ]
 all_goals go_wp2
 all_goals go_region
 all_goals go_wp2
 all_goals rw[rounds_succ]
 all_goals go_wp2
 go_end0
 refine⟨rfl,?_,?_⟩
 ·have h:=((HW.out.set_ 3 (.int .u64 (WR Q:Int))).set_ 4 (.int .u64 (Vu Q:Int))).set_ 5 (.int .u64 (Ua Q:Int))
  rw[c2f]at h
  exact h.drew.drew.drew
 ·exact QR (QR (QR (Vq (p:=⟨g,5,none⟩) (Vq (p:=⟨g,4,none⟩) (Vq (p:=⟨g,3,none⟩) (Nw w (some g)) (.inl rfl) _) (.inl rfl) _) (.inl rfl) _)))
end Go.Proofs.YtjfgiaooglnomaaGreatDoor
namespace Go.Proofs.YtjfgiaooglnomaaGreatDoor
open Go.RowKit
def OO:Array Value->Sem Value:=fun args=>do
 let (x,y,b) <- Extern.MathBitsCarry.three "Sub64" args
 pure (Extern.MathBitsCarry.pair ((x+Extern.MathBitsCarry.m64 - y - b) % Extern.MathBitsCarry.m64) (if x<y+b then 1 else 0))
theorem FI{P:Program}(x y b:Nat)(hb:b<=1)(w:World):
  (OO #[.int .u64 x,.int .u64 y,.int .u64 b]).run P w =
   .ok (.tuple #[.int .u64 (((x+18446744073709551616 - y - b) % 18446744073709551616:Nat):Int),.int .u64 ((if x<y+b then 1 else 0:Nat):Int)]) w:=by
 have:b=0∨b=1:=by omega
 rcases this with rfl|rfl <;> rfl
theorem a6p(x y b:Nat)(hb:b<=1)(w:World):
  (callFunc 252 #[.int .u64 x,.int .u64 y,.int .u64 b]).run Tryz.prog w =
   .ok (.value (.tuple #[.int .u64 (((x+18446744073709551616 - y - b) % 18446744073709551616:Nat):Int),.int .u64 ((if x<y+b then 1 else 0:Nat):Int)])) w:=by
 rw[run_callFunc_extern Tryz.func252 (by kernel_rfl) (by kernel_rfl) (by kernel_rfl) (e:=OO) (by kernel_rfl),FI x y b hb]
 rfl
theorem Nz(A B:Nat)(hA:A<6277101735386680763835789423207666416102355444464034512896)(hB:B<6277101735386680763835789423207666416102355444464034512896):
  ∃ d0 d1 d2 c0 c1 c2:Nat,
   (∀ w,(callFunc 252 #[.int .u64 (WR A:Int),.int .u64 (WR B:Int),.int .u64 0]).run Tryz.prog w = .ok (.value (.tuple #[.int .u64 (d0:Int),.int .u64 (c0:Int)])) w) ∧
   (∀ w,(callFunc 252 #[.int .u64 (Vu A:Int),.int .u64 (Vu B:Int),.int .u64 (c0:Int)]).run Tryz.prog w = .ok (.value (.tuple #[.int .u64 (d1:Int),.int .u64 (c1:Int)])) w) ∧
   (∀ w,(callFunc 252 #[.int .u64 (Ua A:Int),.int .u64 (Ua B:Int),.int .u64 (c1:Int)]).run Tryz.prog w = .ok (.value (.tuple #[.int .u64 (d2:Int),.int .u64 (c2:Int)])) w) ∧
   ((B<=A∧c2=0∧d0=WR (A - B)∧d1=Vu (A - B)∧d2=Ua (A - B))∨(A<B∧c2=1)):=by
 have e1:=fun c (hc:c<=1) w=>a6p (WR A) (WR B) c hc w
 have e2:=fun c (hc:c<=1) w=>a6p (Vu A) (Vu B) c hc w
 have e3:=fun c (hc:c<=1) w=>a6p (Ua A) (Ua B) c hc w
 have q0:(if WR A<WR B+0 then 1 else 0)<=1:=by split <;> omega
 generalize h0:(if WR A<WR B+0 then 1 else 0)=c0 at q0
 have q1:(if Vu A<Vu B+c0 then 1 else 0)<=1:=by split <;> omega
 generalize h1:(if Vu A<Vu B+c0 then 1 else 0)=c1 at q1
 generalize h2:(if Ua A<Ua B+c1 then 1 else 0)=c2
 refine⟨(WR A+18446744073709551616 - WR B - 0) % 18446744073709551616,(Vu A+18446744073709551616 - Vu B - c0) % 18446744073709551616,(Ua A+18446744073709551616 - Ua B - c1) % 18446744073709551616,c0,c1,c2,fun w=> ?_,fun w=> ?_,fun w=> ?_,?_⟩
 ·rw[<- h0];exact e1 0 (by omega) w
 ·rw[<- h1];exact e2 c0 q0 w
 ·rw[<- h2];exact e3 c1 q1 w
 ·clear e1 e2 e3
  unfold WR at h0
  unfold Vu at h1
  unfold Ua at h2
  by_cases hle:B<=A
  ·refine .inl ⟨hle,?_⟩
   unfold WR Vu Ua
   split at h0 <;> split at h1 <;> split at h2 <;> omega
  ·refine .inr ⟨by omega,?_⟩
   split at h0 <;> split at h1 <;> split at h2 <;> omega
set_option maxRecDepth 20000 in
set_option maxHeartbeats 1000000 in
theorem Mm(A B:Nat)(d0 d1 d2 c0 c1 c2:Nat)(w:World)
  (r0 : ∀ w,(callFunc 252 #[.int .u64 (WR A:Int),.int .u64 (WR B:Int),.int .u64 0]).run Tryz.prog w = .ok (.value (.tuple #[.int .u64 (d0:Int),.int .u64 (c0:Int)])) w)
  (r1 : ∀ w,(callFunc 252 #[.int .u64 (Vu A:Int),.int .u64 (Vu B:Int),.int .u64 (c0:Int)]).run Tryz.prog w = .ok (.value (.tuple #[.int .u64 (d1:Int),.int .u64 (c1:Int)])) w)
  (r2 : ∀ w,(callFunc 252 #[.int .u64 (Ua A:Int),.int .u64 (Ua B:Int),.int .u64 (c1:Int)]).run Tryz.prog w = .ok (.value (.tuple #[.int .u64 (d2:Int),.int .u64 (c2:Int)])) w) :
  Calls Tryz.prog 251 #[.agg #[.int .u64 (WR A:Int),.int .u64 (Vu A:Int),.int .u64 (Ua A:Int)],.agg #[.int .u64 (WR B:Int),.int .u64 (Vu B:Int),.int .u64 (Ua B:Int)]] w fun e w'=>e = .returned (.tuple #[.agg #[.int .u64 (d0:Int),.int .u64 (d1:Int),.int .u64 (d2:Int)],.bool ((c2:Int)==0)])∧Below w.heap.size w w':=by
 go_enter Tryz.func251,Tryz.ntmps251
 go_wp2
 refine wp_loop_rounds 4 ?_
 rw[rounds_succ]
 go_wp2
 go_region
 all_goals go_wp2
 all_goals rw[rounds_succ]
 all_goals go_wp2
 all_goals go_region
 all_goals go_wp2
 all_goals rw[rounds_succ]
 all_goals go_wp2
 all_goals go_region
 all_goals go_wp2
 all_goals rw[rounds_succ]
 all_goals go_wp2
 all_goals exact bodyPost_ret (v:=.tuple #[.agg #[.int .u64 (d0:Int),.int .u64 (d1:Int),.int .u64 (d2:Int)],.bool ((c2:Int)==0)]) (by simp[results,Tryz.results251,go_sem]) rfl ⟨rfl,(((((Below.refl _ _).alloc (Nat.le_refl _) _).alloc (by simp) _).alloc (by simp;omega) _).alloc (by simp;omega) _).drew.drew.drew⟩
theorem a8z(A B:Nat)(hA:A<6277101735386680763835789423207666416102355444464034512896)(hB:B<6277101735386680763835789423207666416102355444464034512896)(h:B<=A)(w:World):
  Calls Tryz.prog 251 #[.agg #[.int .u64 (WR A:Int),.int .u64 (Vu A:Int),.int .u64 (Ua A:Int)],.agg #[.int .u64 (WR B:Int),.int .u64 (Vu B:Int),.int .u64 (Ua B:Int)]] w fun e w'=>e = .returned (.tuple #[.agg #[.int .u64 (WR (A - B):Int),.int .u64 (Vu (A - B):Int),.int .u64 (Ua (A - B):Int)],.bool true])∧Below w.heap.size w w':=by
 obtain⟨d0,d1,d2,c0,c1,c2,r0,r1,r2,hc⟩:=Nz A B hA hB
 rcases hc with ⟨-,rfl,rfl,rfl,rfl⟩|⟨h1,-⟩
 ·exact Mm A B _ _ _ _ _ _ w r0 r1 r2
 ·omega
theorem c7e(x0 x1:Value)(w:World):(Instr.index 267 (.agg #[x0,x1]) (.int .i64 0)).run Tryz.prog w = .ok x0 w:=by kernel_rfl
theorem d7k(x0 x1:Value)(w:World):(Instr.index 267 (.agg #[x0,x1]) (.int .i64 1)).run Tryz.prog w = .ok x1 w:=by kernel_rfl
theorem Rb(d:Nat)(hd:d<6277101735386680763835789423207666416102355444464034512896):
  (d<=4611686018427387904∧Vu d=0∧Ua d=0∧WR d<=4611686018427387904∧WR d=d) ∨
  (4611686018427387904<d∧0<Vu d) ∨
  (4611686018427387904<d∧Vu d=0∧0<Ua d) ∨
  (4611686018427387904<d∧Vu d=0∧Ua d=0∧4611686018427387904<WR d):=by
 by_cases h1:0<Vu d
 ·by_cases hle:d<=4611686018427387904
  ·exfalso;unfold Vu at h1;omega
  ·exact .inr (.inl ⟨by omega,h1⟩)
 ·have e1:Vu d=0:=by omega
  by_cases h2:0<Ua d
  ·by_cases hle:d<=4611686018427387904
   ·exfalso;unfold Ua at h2;omega
   ·exact .inr (.inr (.inl ⟨by omega,e1,h2⟩))
  ·have e2:Ua d=0:=by omega
   by_cases h0:4611686018427387904<WR d
   ·refine .inr (.inr (.inr ⟨?_,e1,e2,h0⟩))
    unfold WR at h0;omega
   ·refine .inl ⟨?_,e1,e2,by omega,?_⟩ <;> (unfold WR at *;unfold Vu at h1;unfold Ua at h2;omega)
theorem Aq(n:Int)(h:rng n=false):vR n=0∧eR n=2:=by simp[vR,eR,h]
def c2v(w:World)(x y z:Value)(q:Bool)(s7 s8:Value)(wx:World):Prop:=
 ∃ b:Nat,s7 = .pointer (some ⟨b,0,none⟩)∧s8 = .bool q∧wx.cell? ⟨b,0,none⟩=some x∧wx.cell? ⟨b,1,none⟩=some y∧wx.cell? ⟨b,2,none⟩=some z∧Below w.heap.size w wx
theorem Gj{w w1:World}(t:TypeId)(x y z:Value)(q:Bool)(hb:Below w.drew.heap.size w.drew w1):
  c2v w x y z q (.pointer (some ⟨w1.heap.size,0,none⟩)) (.bool q) (w1.alloc (.cells #[x,y,z] t)):=
 ⟨_,rfl,rfl,(Vx.new _ _ _).cell 0,(Vx.new _ _ _).cell 1,(Vx.new _ _ _).cell 2,(((Below.refl w.heap.size w).drew).trans hb).alloc hb.size _⟩
theorem Dn{w w1:World}(t:TypeId)(x y z a b c:Value)(q:Bool)(hb:Below (w.alloc (.cells #[a,b,c] t)).drew.heap.size (w.alloc (.cells #[a,b,c] t)).drew w1):
  c2v w x y z q (.pointer (some ⟨w.heap.size,0,none⟩)) (.bool q) (((w1.setCell ⟨w.heap.size,0,none⟩ x).setCell ⟨w.heap.size,1,none⟩ y).setCell ⟨w.heap.size,2,none⟩ z):=by
 have hs:(w.alloc (.cells #[a,b,c] t)).drew.heap.size=w.heap.size+1:=World.size_alloc w _
 have h:=(((((Vx.new w t #[a,b,c]).drew).below hb (by rw[hs];omega)).set_ 0 x).set_ 1 y).set_ 2 z
 refine⟨_,rfl,rfl,(h.cell 0).trans (by simp),(h.cell 1).trans (by simp),(h.cell 2).trans (by simp),?_⟩
 exact((((((Below.refl w.heap.size w).alloc (Nat.le_refl _) _).drew).trans (hb.mono (by rw[hs];omega))).setCell (p:=⟨w.heap.size,0,none⟩) (Nat.le_refl _) x).setCell (p:=⟨w.heap.size,1,none⟩) (Nat.le_refl _) y).setCell (p:=⟨w.heap.size,2,none⟩) (Nat.le_refl _) z
set_option maxRecDepth 20000 in
set_option maxHeartbeats 2000000 in
theorem b7u(g P N d:Nat)(w:World)(hw:Vx w g 223 (Hf P N))(hd:d<6277101735386680763835789423207666416102355444464034512896)
  (hH : ∀ w,Calls Tryz.prog 251 #[.agg #[.int .u64 (WR P:Int),.int .u64 (Vu P:Int),.int .u64 (Ua P:Int)],.agg #[.int .u64 (WR N:Int),.int .u64 (Vu N:Int),.int .u64 (Ua N:Int)]] w fun e w'=>e = .returned (.tuple #[.agg #[.int .u64 (WR d:Int),.int .u64 (Vu d:Int),.int .u64 (Ua d:Int)],.bool true])∧Below w.heap.size w w') :
  Calls Tryz.prog 193 #[.pointer (some ⟨g,0,none⟩)] w fun e w'=>e = .returned (.tuple #[.int .i64 (vR d),.int .i64 (eR d)])∧Below w.heap.size w w':=by
 have k0:w.cell? ⟨g,0,none⟩=some (.int .u64 (WR P:Int)):=hw.cell 0
 have k1:w.cell? ⟨g,1,none⟩=some (.int .u64 (Vu P:Int)):=hw.cell 1
 have k2:w.cell? ⟨g,2,none⟩=some (.int .u64 (Ua P:Int)):=hw.cell 2
 have k3:w.cell? ⟨g,3,none⟩=some (.int .u64 (WR N:Int)):=hw.cell 3
 have k4:w.cell? ⟨g,4,none⟩=some (.int .u64 (Vu N:Int)):=hw.cell 4
 have k5:w.cell? ⟨g,5,none⟩=some (.int .u64 (Ua N:Int)):=hw.cell 5
 have hlt:=hw.lt
 have i0:=c7e
 have n0:=World.new_ne w _ k0
 have hwr:IntKind.i64.wrap 1=1:=IntWalk.i64_in _ (by omega)
 have H:=Lib.hid hH
 have HC:=Lib.hid (Rb d hd)
 clear hw hH hd
 go_enter Tryz.func193,Tryz.ntmps193
 go_wp2
 refine wp_loop_rounds 3 ?_
 rw[rounds_succ]
 go_upto_region 5 with fail
 go_cut [7,8] (fun s7 s8 wx=>c2v w (.int .u64 (WR d:Int)) (.int .u64 (Vu d:Int)) (.int .u64 (Ua d:Int)) true s7 s8 wx)
 case first=>
  go_region_held3 (fun w'=>w'.cell? ⟨g,0,none⟩=some (.int .u64 (WR P:Int))∧w'.cell? ⟨g,1,none⟩=some (.int .u64 (Vu P:Int))∧w'.cell? ⟨g,2,none⟩=some (.int .u64 (Ua P:Int))∧w'.cell? ⟨g,3,none⟩=some (.int .u64 (WR N:Int))∧w'.cell? ⟨g,4,none⟩=some (.int .u64 (Vu N:Int))∧w'.cell? ⟨g,5,none⟩=some (.int .u64 (Ua N:Int)))
   (first|go_keep|(refine⟨?_,?_,?_,?_,?_,?_⟩ <;> (refine(hb.cell (by simp;omega)).trans ?_;simp[*]))|(refine⟨?_,?_,?_,?_,?_,?_⟩ <;> (refine(World.cell?_alloc_lt _ _ _ (Nat.lt_of_lt_of_le hlt hb.size)).trans ?_;refine(hb.cell (by simp;omega)).trans ?_;simp[*])))
   (first|(go_at_call 251;refine(H.out _).mono ?_;rintro e w1 ⟨rfl,hb⟩;obtain⟨hc,hf⟩:=c2r hb;have hz:=hb.size;(try simp only[World.size_alloc]at hz)))
  all_goals go_wp2_with fail
  all_goals go_meet
  all_goals first|exact Gj _ _ _ _ _ hb|exact Dn _ _ _ _ _ _ _ _ hb
 case rest=>
  obtain⟨b,rfl,rfl,h0,h1,h2,hbl⟩:=hcut
  rcases HC.out with ⟨hin,t1,t2,t3,hd0⟩|⟨hout,t1⟩|⟨hout,t1,t2⟩|⟨hout,t1,t2,t3⟩
  ·have HR:=Lib.hid hd0
   have hb1:(WR d:Int)<=4611686018427387904:=by omega
   clear hin hd0 HC
   go_wp2_with (go_at_call 253;refine(Sb _ _).mono ?_;rintro e w2 ⟨rfl,hb2⟩)
   go_ret2
   exact⟨YB (by rw[HR.out]) (by rw[HR.out]),hbl.trans (hb2.mono hbl.size)⟩
  ·have HR:=Lib.hid (Aq d (Vh (by omega)))
   clear hout HC
   go_wp2
   all_goals go_ret2
   all_goals exact⟨YB HR.out.1.symm HR.out.2.symm,hbl⟩
  ·have HR:=Lib.hid (Aq d (Vh (by omega)))
   clear hout HC
   go_wp2
   all_goals go_ret2
   all_goals exact⟨YB HR.out.1.symm HR.out.2.symm,hbl⟩
  ·have HR:=Lib.hid (Aq d (Vh (by omega)))
   clear hout HC
   go_wp2
   all_goals go_ret2
   all_goals exact⟨YB HR.out.1.symm HR.out.2.symm,hbl⟩
end Go.Proofs.YtjfgiaooglnomaaGreatDoor
namespace Go.Proofs.YtjfgiaooglnomaaGreatDoor
open Go.RowKit
set_option maxRecDepth 20000 in
set_option maxHeartbeats 2000000 in
theorem b8l(g P N d:Nat)(w:World)(hw:Vx w g 223 (Hf P N))(hd:d<6277101735386680763835789423207666416102355444464034512896)
  (d0 d1 d2:Nat)
  (hF : ∀ w,Calls Tryz.prog 251 #[.agg #[.int .u64 (WR P:Int),.int .u64 (Vu P:Int),.int .u64 (Ua P:Int)],.agg #[.int .u64 (WR N:Int),.int .u64 (Vu N:Int),.int .u64 (Ua N:Int)]] w fun e w'=>e = .returned (.tuple #[.agg #[.int .u64 (d0:Int),.int .u64 (d1:Int),.int .u64 (d2:Int)],.bool false])∧Below w.heap.size w w')
  (hH : ∀ w,Calls Tryz.prog 251 #[.agg #[.int .u64 (WR N:Int),.int .u64 (Vu N:Int),.int .u64 (Ua N:Int)],.agg #[.int .u64 (WR P:Int),.int .u64 (Vu P:Int),.int .u64 (Ua P:Int)]] w fun e w'=>e = .returned (.tuple #[.agg #[.int .u64 (WR d:Int),.int .u64 (Vu d:Int),.int .u64 (Ua d:Int)],.bool true])∧Below w.heap.size w w') :
  Calls Tryz.prog 193 #[.pointer (some ⟨g,0,none⟩)] w fun e w'=>e = .returned (.tuple #[.int .i64 (vR (-d)),.int .i64 (eR (-d))])∧Below w.heap.size w w':=by
 have k0:w.cell? ⟨g,0,none⟩=some (.int .u64 (WR P:Int)):=hw.cell 0
 have k1:w.cell? ⟨g,1,none⟩=some (.int .u64 (Vu P:Int)):=hw.cell 1
 have k2:w.cell? ⟨g,2,none⟩=some (.int .u64 (Ua P:Int)):=hw.cell 2
 have k3:w.cell? ⟨g,3,none⟩=some (.int .u64 (WR N:Int)):=hw.cell 3
 have k4:w.cell? ⟨g,4,none⟩=some (.int .u64 (Vu N:Int)):=hw.cell 4
 have k5:w.cell? ⟨g,5,none⟩=some (.int .u64 (Ua N:Int)):=hw.cell 5
 have hlt:=hw.lt
 have i0:=c7e
 have i1:=d7k
 have n0:=World.new_ne w _ k0
 have hwr:IntKind.i64.wrap 1=1:=IntWalk.i64_in _ (by omega)
 have hwr0:IntKind.i64.wrap 0=0:=IntWalk.i64_in _ (by omega)
 have H:=Lib.hid hH
 have F:=Lib.hid hF
 have HC:=Lib.hid (Rb d hd)
 clear hw hH hF hd
 go_enter Tryz.func193,Tryz.ntmps193
 go_wp2
 refine wp_loop_rounds 3 ?_
 rw[rounds_succ]
 go_upto_region 5 with fail
 go_cut [7,8] (fun s7 s8 wx=>c2v w (.int .u64 (d0:Int)) (.int .u64 (d1:Int)) (.int .u64 (d2:Int)) false s7 s8 wx)
 case first=>
  go_region_held3 (fun w'=>w'.cell? ⟨g,0,none⟩=some (.int .u64 (WR P:Int))∧w'.cell? ⟨g,1,none⟩=some (.int .u64 (Vu P:Int))∧w'.cell? ⟨g,2,none⟩=some (.int .u64 (Ua P:Int))∧w'.cell? ⟨g,3,none⟩=some (.int .u64 (WR N:Int))∧w'.cell? ⟨g,4,none⟩=some (.int .u64 (Vu N:Int))∧w'.cell? ⟨g,5,none⟩=some (.int .u64 (Ua N:Int)))
   (first|go_keep|(refine⟨?_,?_,?_,?_,?_,?_⟩ <;> (refine(hb.cell (by simp;omega)).trans ?_;simp[*]))|(refine⟨?_,?_,?_,?_,?_,?_⟩ <;> (refine(World.cell?_alloc_lt _ _ _ (Nat.lt_of_lt_of_le hlt hb.size)).trans ?_;refine(hb.cell (by simp;omega)).trans ?_;simp[*])))
   (first|(go_at_call 251;refine(F.out _).mono ?_;rintro e w1 ⟨rfl,hb⟩;obtain⟨hc,hf⟩:=c2r hb;have hz:=hb.size;(try simp only[World.size_alloc]at hz)))
  all_goals go_wp2_with fail
  all_goals go_meet
  all_goals first|exact Gj _ _ _ _ _ hb|exact Dn _ _ _ _ _ _ _ _ hb
 case rest=>
  obtain⟨b,rfl,rfl,-,-,-,hbl⟩:=hcut
  obtain⟨wq,rfl⟩ : ∃ wq:World,wq=wc:=⟨_,rfl⟩
  have hlq:g<wq.heap.size:=Nat.lt_of_lt_of_le hlt hbl.size
  have q0:=(hbl.cell (p:=⟨g,0,none⟩) hlt).trans k0
  have q1:=(hbl.cell (p:=⟨g,1,none⟩) hlt).trans k1
  have q2:=(hbl.cell (p:=⟨g,2,none⟩) hlt).trans k2
  have q3:=(hbl.cell (p:=⟨g,3,none⟩) hlt).trans k3
  have q4:=(hbl.cell (p:=⟨g,4,none⟩) hlt).trans k4
  have q5:=(hbl.cell (p:=⟨g,5,none⟩) hlt).trans k5
  have n1:=World.new_ne wq _ q0
  have HBL:=Lib.hid hbl
  clear k0 k1 k2 k3 k4 k5 hlt n0 F hbl
  go_wp2
  rw[rounds_succ]
  go_upto_region 5 with fail
  go_cut [7,8] (fun s7 s8 wx=>c2v wq (.int .u64 (WR d:Int)) (.int .u64 (Vu d:Int)) (.int .u64 (Ua d:Int)) true s7 s8 wx)
  case first=>
   go_region_held3 (fun w'=>w'.cell? ⟨g,0,none⟩=some (.int .u64 (WR P:Int))∧w'.cell? ⟨g,1,none⟩=some (.int .u64 (Vu P:Int))∧w'.cell? ⟨g,2,none⟩=some (.int .u64 (Ua P:Int))∧w'.cell? ⟨g,3,none⟩=some (.int .u64 (WR N:Int))∧w'.cell? ⟨g,4,none⟩=some (.int .u64 (Vu N:Int))∧w'.cell? ⟨g,5,none⟩=some (.int .u64 (Ua N:Int)))
    (first|go_keep|(refine⟨?_,?_,?_,?_,?_,?_⟩ <;> (refine(hb.cell (by simp;omega)).trans ?_;simp[*]))|(refine⟨?_,?_,?_,?_,?_,?_⟩ <;> (refine(World.cell?_alloc_lt _ _ _ (Nat.lt_of_lt_of_le hlq hb.size)).trans ?_;refine(hb.cell (by simp;omega)).trans ?_;simp[*])))
    (first|(go_at_call 251;refine(H.out _).mono ?_;rintro e w1 ⟨rfl,hb⟩;obtain⟨hc,hf⟩:=c2r hb;have hz:=hb.size;(try simp only[World.size_alloc]at hz)))
   all_goals go_wp2_with fail
   all_goals go_meet
   all_goals first|exact Gj _ _ _ _ _ hb|exact Dn _ _ _ _ _ _ _ _ hb
  case rest=>
   obtain⟨b,rfl,rfl,h0,h1,h2,hb2l⟩:=hcut
   have hbl:=HBL.out.trans (hb2l.mono HBL.out.size)
   rcases HC.out with ⟨hin,t1,t2,t3,hd0⟩|⟨hout,t1⟩|⟨hout,t1,t2⟩|⟨hout,t1,t2,t3⟩
   ·have HR:=Lib.hid (show((WR d:Nat):Int)=d by rw[hd0])
    have hb1:(WR d:Int)<=4611686018427387904:=by omega
    clear hin hd0 HC
    go_wp2_with (go_at_call 253;refine(Sb _ _).mono ?_;rintro e w2 ⟨rfl,hb2⟩)
    go_ret2
    exact⟨YB (by first|rw[HR.out]|(rw[<- HR.out];simp)) (by first|rw[HR.out]|(rw[<- HR.out];simp)),hbl.trans (hb2.mono hbl.size)⟩
   ·have HR:=Lib.hid (Aq (-d) (Vh (by omega)))
    clear hout HC
    go_wp2
    all_goals go_ret2
    all_goals exact⟨YB HR.out.1.symm HR.out.2.symm,hbl⟩
   ·have HR:=Lib.hid (Aq (-d) (Vh (by omega)))
    clear hout HC
    go_wp2
    all_goals go_ret2
    all_goals exact⟨YB HR.out.1.symm HR.out.2.symm,hbl⟩
   ·have HR:=Lib.hid (Aq (-d) (Vh (by omega)))
    clear hout HC
    go_wp2
    all_goals go_ret2
    all_goals exact⟨YB HR.out.1.symm HR.out.2.symm,hbl⟩
theorem R8(g P N:Nat)(w:World)(hP:P<6277101735386680763835789423207666416102355444464034512896)(hN:N<6277101735386680763835789423207666416102355444464034512896)
  (hw:Vx w g 223 (Hf P N)) :
  Calls Tryz.prog 193 #[.pointer (some ⟨g,0,none⟩)] w fun e w'=>e = .returned (.tuple #[.int .i64 (vR ((P:Int) - N)),.int .i64 (eR ((P:Int) - N))])∧Below w.heap.size w w':=by
 by_cases h:N<=P
 ·have e:(P:Int) - N=((P - N:Nat):Int):=by omega
  rw[e]
  exact b7u g P N (P - N) w hw (by omega) (fun w=>a8z P N hP hN h w)
 ·have e:(P:Int) - N = -((N - P:Nat):Int):=by omega
  rw[e]
  obtain⟨d0,d1,d2,r0⟩ : ∃ d0 d1 d2:Nat,∀ w,Calls Tryz.prog 251 #[.agg #[.int .u64 (WR P:Int),.int .u64 (Vu P:Int),.int .u64 (Ua P:Int)],.agg #[.int .u64 (WR N:Int),.int .u64 (Vu N:Int),.int .u64 (Ua N:Int)]] w fun e w'=>e = .returned (.tuple #[.agg #[.int .u64 (d0:Int),.int .u64 (d1:Int),.int .u64 (d2:Int)],.bool false])∧Below w.heap.size w w':=by
   obtain⟨d0,d1,d2,c0,c1,c2,r0,r1,r2,hc⟩:=Nz P N hP hN
   rcases hc with ⟨h1,-⟩|⟨-,rfl⟩
   ·omega
   ·exact⟨d0,d1,d2,fun w=>Mm P N _ _ _ _ _ _ w r0 r1 r2⟩
  exact b8l g P N (N - P) w hw (by omega) d0 d1 d2 r0 (fun w=>a8z N P hN hP (by omega) w)
end Go.Proofs.YtjfgiaooglnomaaGreatDoor
namespace Go.Proofs.YtjfgiaooglnomaaGreatDoor
open Go.RowKit
theorem a0m(g P N:Nat)(a b:Int)(w:World)(ha : -4611686018427387904<=a∧a<=4611686018427387904)(hb : -4611686018427387904<=b∧b<=4611686018427387904)
  (h:P+N+a.natAbs*b.natAbs<6277101735386680763835789423207666416102355444464034512896) (hw:Vx w g 223 (Hf P N)) :
  Calls Tryz.prog 192 #[.pointer (some ⟨g,0,none⟩),.int .i64 a,.int .i64 b] w fun e w'=>e = .returned (.tuple #[]) ∧
   ∃ P' N':Nat,Vx w' g 223 (Hf P' N')∧Hid ((P':Int) - N'=(P:Int) - N+a*b)∧Hid (P'+N'=P+N+a.natAbs*b.natAbs)∧w.grownBy w' (some g):=by
 cases hs:(!decide (a<0)==decide (b<0))
 ·refine(b5k g P N a b w ha hb (by omega) hs hw).mono ?_
  rintro e w' ⟨rfl,h1,h2⟩
  refine⟨rfl,_,_,h1,Lib.hid ?_,Lib.hid (by omega),h2⟩
  rw[G9 a b hs]
  omega
 ·refine(b4v g P N a b w ha hb (by omega) hs hw).mono ?_
  rintro e w' ⟨rfl,h1,h2⟩
  refine⟨rfl,_,_,h1,Lib.hid ?_,Lib.hid (by omega),h2⟩
  rw[Da a b hs]
  omega
def J9:List Int->List Int->Int
 | a::l,b::m=>a*b+J9 l m
 | _,_=>0
theorem OX(k:Nat)(xs ys:List Int)(x y:Int)(hx:xs[k]? = some x)(hy:ys[k]? = some y):J9 (xs.take (k+1)) (ys.take (k+1))=J9 (xs.take k) (ys.take k)+x*y:=by
 induction k generalizing xs ys with
 | zero=>
  cases xs <;> cases ys <;> simp_all[J9]
 | succ k ih=>
  cases xs with
  | nil=>simp at hx
  | cons a l=>
   cases ys with
   | nil=>simp at hy
   | cons b m=>
    have:=ih l m (by simpa using hx) (by simpa using hy)
    simp only[List.take_succ_cons,J9]at this ⊢
    rw[this]
    omega
theorem c6x(zs:List Int): ∀ m,zs.length<=m->J9 zs (List.replicate m 1)=zs.sum:=by
 induction zs with
 | nil=>intro m _;cases m <;> simp[J9]
 | cons a l ih=>
  intro m hm
  cases m with
  | zero=>simp at hm
  | succ m=>
   have:=ih m (by simpa using hm)
   simp[List.replicate_succ,J9,this]
theorem c1s(k:Nat)(zs:List Int)(x:Int)(hx:zs[k]? = some x):(zs.take (k+1)).sum=(zs.take k).sum+x:=by
 have hk:k<zs.length:=(List.getElem?_eq_some_iff.1 hx).1
 have e:zs[k]=x:=by rw[List.getElem?_eq_getElem hk]at hx;exact Option.some.inj hx
 rw[List.take_succ_eq_append_getElem hk,List.sum_append,e]
 simp
def PU(zs:List Int):Int:=bif zs.all rng then vR zs.sum else 0
def P9(zs:List Int):Int:=bif zs.all rng then eR zs.sum else 2
theorem JR{zs:List Int}(h:zs.all rng=true){k:Nat}{x:Int}(hx:zs[k]? = some x): -4611686018427387904<=x∧x<=4611686018427387904:=
 Ug (List.all_eq_true.1 h x (List.mem_of_getElem? hx))
theorem SF{a b:Int}(ha : -4611686018427387904<=a∧a<=4611686018427387904)(hb : -4611686018427387904<=b∧b<=4611686018427387904):a.natAbs*b.natAbs<=21267647932558653966460912964485513216:=by
 have:=Nat.mul_le_mul (show a.natAbs<=4611686018427387904 by omega) (show b.natAbs<=4611686018427387904 by omega)
 omega
set_option maxRecDepth 20000 in
set_option maxHeartbeats 1000000 in
theorem d1a(A:Option Addr)(n c:Nat)(zs:List Int)(w:World)(hr:XX w w.heap.size 1 A n (zs.map (Value.int .i64)))(hn:n<=10000):
  Calls Tryz.prog 190 #[.slice A n c] w fun e w'=>e = .returned (.tuple #[.int .i64 (PU zs),.int .i64 (P9 zs)])∧Below w.heap.size w w':=by
 have H1:=Lib.hid (TI A n c zs w w.heap.size hr (by omega))
 have hlen:=Lib.hid (show zs.length=n by have:=hr.1;simpa using this)
 cases ha:zs.all rng
 ·have he:P9 zs=2:=by simp only[P9,ha,cond_false]
  have hv:PU zs=0:=by simp only[PU,ha,cond_false]
  rw[ha]at H1
  rw[he,hv]
  clear he hv ha
  go_enter Tryz.func190,Tryz.ntmps190
  go_wp2_with (go_at_call 191;refine H1.out.mono ?_;rintro e w' ⟨rfl,rfl⟩)
  go_ret2
  exact⟨rfl,Below.refl _ _⟩
 ·have he:P9 zs=eR zs.sum:=by simp only[P9,ha,cond_true]
  have hv:PU zs=vR zs.sum:=by simp only[PU,ha,cond_true]
  rw[ha]at H1
  rw[he,hv]
  have HA:=Lib.hid ha
  clear he hv ha
  go_enter Tryz.func190,Tryz.ntmps190
  go_wp2_with (go_at_call 191;refine H1.out.mono ?_;rintro e w' ⟨rfl,rfl⟩)
  go_loopw [15] (fun i wr=> ∃ k P N:Nat,k<=n∧i = .int .i64 k∧Vx wr w.heap.size 223 (Hf P N)∧Hid ((P:Int) - N=(zs.take k).sum)∧Hid (P+N<=k*21267647932558653966460912964485513216)∧Below w.heap.size w wr) (fun i _=>n - (intOf i).toNat)
  case atStart=>exact⟨0,0,0,Nat.zero_le _,rfl,Vx.new _ _ _,Lib.hid (by simp),Lib.hid (by omega),(Below.refl _ _).alloc (Nat.le_refl _) _⟩
  case round=>
   obtain⟨k,P,N,hk,rfl,hblk,hs,hbd,hbl⟩:=hrel
   by_cases hlt:k<n
   ·obtain⟨ad,u,rfl,hB,hu,hc⟩:=(hr.below hbl).at_ hlt
    rw[List.getElem?_map]at hu
    obtain⟨x,hx,rfl⟩:=Option.map_eq_some_iff.1 hu
    have hxr:=JR HA.out hx
    have HC:=Lib.hid (a0m w.heap.size P N x 1 wr hxr (by omega) (by have:=hbd.out;have h2:=SF hxr (b:=1) (by omega);omega) hblk)
    have HX:=Lib.hid hx
    have HP:=Lib.hid (SF hxr (b:=1) (by omega))
    clear hx hu hxr hblk
    go_wp2_with (go_at_call 192;refine HC.out.mono ?_;rintro e w' ⟨rfl,P',N',hblk',hs',hbd',hg⟩)
    go_roundw
    case rel=>exact⟨k+1,P',N',by omega,by go_num,hblk',Lib.hid (by have h1:=hs'.out;have h2:=hs.out;rw[c1s k zs x HX.out];omega),Lib.hid (by have h1:=hbd'.out;have h2:=hbd.out;have h3:=HP.out;omega),hbl.grown hg hbl.size (by rintro _ ⟨⟩;exact Nat.le_refl _)⟩
    case measure=>simp[intOf];omega
   ·have hkn:k=n:=by omega
    subst hkn
    have HT:=Lib.hid (R8 w.heap.size P N wr (by have:=hbd.out;omega) (by have:=hbd.out;omega) hblk)
    have HZ:Hid ((P:Int) - N=zs.sum):=Lib.hid (by have:=hs.out;rw[List.take_of_length_le (by rw[hlen.out];omega)]at this;exact this)
    clear hblk
    go_wp2_with (go_at_call 193;refine HT.out.mono ?_;rintro e w' ⟨rfl,hb⟩)
    go_ret2
    exact⟨YB (by rw[HZ.out]) (by rw[HZ.out]),hbl.trans (hb.mono hbl.size)⟩
def K7(xs ys:List Int):Int:=bif xs.length==ys.length&&xs.all rng&&ys.all rng then vR (J9 xs ys)else 0
def Js(xs ys:List Int):Int:=bif xs.length==ys.length then(bif xs.all rng&&ys.all rng then eR (J9 xs ys)else 2)else 1
set_option maxRecDepth 20000 in
set_option maxHeartbeats 1000000 in
theorem c9z(A B:Option Addr)(n m c d:Nat)(xs ys:List Int)(w:World)(hr:XX w w.heap.size 1 A n (xs.map (Value.int .i64)))(hq:XX w w.heap.size 1 B m (ys.map (Value.int .i64)))(hn:n<=10000)(hm:m<=10000):
  Calls Tryz.prog 126 #[.slice A n c,.slice B m d] w fun e w'=>e = .returned (.tuple #[.int .i64 (K7 xs ys),.int .i64 (Js xs ys)])∧Below w.heap.size w w':=by
 have H1:=Lib.hid (TI A n c xs w w.heap.size hr (by omega))
 have H2:=Lib.hid (TI B m d ys w w.heap.size hq (by omega))
 have hl1:=Lib.hid (show xs.length=n by have:=hr.1;simpa using this)
 have hl2:=Lib.hid (show ys.length=m by have:=hq.1;simpa using this)
 by_cases hnm:n=m
 ·subst hnm
  have hll:(xs.length==ys.length)=true:=by rw[hl1.out,hl2.out];simp
  have hnn:((n:Int)==n)=true:=by simp
  have hnn':((n:Int) != n)=false:=by simp
  cases ha:xs.all rng
  ·have he:Js xs ys=2:=by simp only[Js,hll,ha,cond_true,Bool.false_and,cond_false]
   have hv:K7 xs ys=0:=by simp only[K7,hll,ha,Bool.and_false,Bool.false_and,cond_false]
   rw[ha]at H1
   rw[he,hv]
   clear he hv ha hll H2
   go_enter Tryz.func126,Tryz.ntmps126
   go_wp2_with (go_at_call 191;refine H1.out.mono ?_;rintro e w' ⟨rfl,rfl⟩)
   go_ret2
   exact⟨rfl,Below.refl _ _⟩
  ·cases hb:ys.all rng
   ·have he:Js xs ys=2:=by simp only[Js,hll,ha,hb,cond_true,Bool.and_false,cond_false]
    have hv:K7 xs ys=0:=by simp only[K7,hll,ha,hb,Bool.and_false,cond_false]
    rw[ha]at H1
    rw[hb]at H2
    rw[he,hv]
    clear he hv ha hb hll
    go_enter Tryz.func126,Tryz.ntmps126
    go_wp2_with fail
    refine H1.out.mono ?_
    rintro e w' ⟨rfl,rfl⟩
    go_wp2_with fail
    refine H2.out.mono ?_
    rintro e w' ⟨rfl,rfl⟩
    go_wp2
    go_ret2
    exact⟨rfl,Below.refl _ _⟩
   ·have he:Js xs ys=eR (J9 xs ys):=by simp only[Js,hll,ha,hb,cond_true,Bool.and_self]
    have hv:K7 xs ys=vR (J9 xs ys):=by simp only[K7,hll,ha,hb,cond_true,Bool.and_self]
    rw[ha]at H1
    rw[hb]at H2
    rw[he,hv]
    have HA:=Lib.hid ha
    have HB:=Lib.hid hb
    clear he hv ha hb hll
    go_enter Tryz.func126,Tryz.ntmps126
    go_wp2_with fail
    refine H1.out.mono ?_
    rintro e w' ⟨rfl,rfl⟩
    go_wp2_with fail
    refine H2.out.mono ?_
    rintro e w' ⟨rfl,rfl⟩
    go_wp2
    go_loopw [30] (fun i wr=> ∃ k P N:Nat,k<=n∧i = .int .i64 k∧Vx wr w.heap.size 223 (Hf P N)∧Hid ((P:Int) - N=J9 (xs.take k) (ys.take k))∧Hid (P+N<=k*21267647932558653966460912964485513216)∧Below w.heap.size w wr) (fun i _=>n - (intOf i).toNat)
    case atStart=>exact⟨0,0,0,Nat.zero_le _,rfl,Vx.new _ _ _,Lib.hid (by simp[J9]),Lib.hid (by omega),(Below.refl _ _).alloc (Nat.le_refl _) _⟩
    case round=>
     obtain⟨k,P,N,hk,rfl,hblk,hs,hbd,hbl⟩:=hrel
     by_cases hlt:k<n
     ·obtain⟨ad,u,rfl,hB,hu,hc⟩:=(hr.below hbl).at_ hlt
      rw[List.getElem?_map]at hu
      obtain⟨x,hx,rfl⟩:=Option.map_eq_some_iff.1 hu
      obtain⟨ae,v,rfl,hB',hv,hc'⟩:=(hq.below hbl).at_ hlt
      rw[List.getElem?_map]at hv
      obtain⟨y,hy,rfl⟩:=Option.map_eq_some_iff.1 hv
      have hxr:=JR HA.out hx
      have hyr:=JR HB.out hy
      have HC:=Lib.hid (a0m w.heap.size P N x y wr hxr hyr (by have:=hbd.out;have h2:=SF hxr hyr;omega) hblk)
      have HX:=Lib.hid hx
      have HY:=Lib.hid hy
      have HP:=Lib.hid (SF hxr hyr)
      clear hx hu hxr hy hv hyr hblk
      go_wp2_with (go_at_call 192;refine HC.out.mono ?_;rintro e w' ⟨rfl,P',N',hblk',hs',hbd',hg⟩)
      go_roundw
      case rel=>exact⟨k+1,P',N',by omega,by go_num,hblk',Lib.hid (by have h1:=hs'.out;have h2:=hs.out;rw[OX k xs ys x y HX.out HY.out];omega),Lib.hid (by have h1:=hbd'.out;have h2:=hbd.out;have h3:=HP.out;omega),hbl.grown hg hbl.size (by rintro _ ⟨⟩;exact Nat.le_refl _)⟩
      case measure=>simp[intOf];omega
     ·have hkn:k=n:=by omega
      subst hkn
      have HT:=Lib.hid (R8 w.heap.size P N wr (by have:=hbd.out;omega) (by have:=hbd.out;omega) hblk)
      have HZ:Hid ((P:Int) - N=J9 xs ys):=Lib.hid (by have:=hs.out;rw[List.take_of_length_le (by rw[hl1.out];omega),List.take_of_length_le (by rw[hl2.out];omega)]at this;exact this)
      clear hblk
      go_wp2_with (go_at_call 193;refine HT.out.mono ?_;rintro e w' ⟨rfl,hb⟩)
      go_ret2
      exact⟨YB (by rw[HZ.out]) (by rw[HZ.out]),hbl.trans (hb.mono hbl.size)⟩
 ·have hll:(xs.length==ys.length)=false:=by rw[hl1.out,hl2.out];simpa using hnm
  have he:Js xs ys=1:=by simp only[Js,hll,cond_false]
  have hv:K7 xs ys=0:=by simp only[K7,hll,Bool.false_and,cond_false]
  have hnn:((n:Int)==m)=false:=by simpa using (show ¬ (n:Int)=m by omega)
  rw[he,hv]
  clear he hv hll
  go_enter Tryz.func126,Tryz.ntmps126
  go_wp2
  go_ret2
  exact⟨rfl,Below.refl _ _⟩
end Go.Proofs.YtjfgiaooglnomaaGreatDoor
namespace Go.Proofs.YtjfgiaooglnomaaGreatDoor
end Go.Proofs.YtjfgiaooglnomaaGreatDoor
namespace Go.Proofs.YtjfgiaooglnomaaGreatDoor
open Go.RowKit
end Go.Proofs.YtjfgiaooglnomaaGreatDoor
namespace Go.Proofs.YtjfgiaooglnomaaGreatDoor
open Go.RowKit
end Go.Proofs.YtjfgiaooglnomaaGreatDoor
namespace Go.Proofs.YtjfgiaooglnomaaGreatDoor
open Go.RowKit
end Go.Proofs.YtjfgiaooglnomaaGreatDoor
namespace Go.Proofs.YtjfgiaooglnomaaGreatDoor
def val:List Int->Int
 | []=>0
 | c::l=>c+2097152*val l
theorem M3(L:List Int)(m:Nat)(c p:Int)(h:L[m]? = some c):val (L.set m (c+p))=val L+p*2097152 ^ m:=by
 induction L generalizing m with
 | nil=>simp at h
 | cons d l ih=>
  cases m with
  | zero=>
   simp only[List.getElem?_cons_zero,Option.some.injEq]at h
   subst h
   simp only[List.set_cons_zero,val,Int.pow_zero]
   omega
  | succ m=>
   have:=ih m (by simpa using h)
   simp only[List.set_cons_succ,val,this]
   rw[Int.mul_add,Int.pow_succ]
   have e:2097152*(p*2097152 ^ m)=p*(2097152 ^ m*2097152):=by
    rw[Int.mul_left_comm,Int.mul_comm 2097152 (2097152 ^ m)]
   omega
theorem b2p(L:List Int)(m:Nat)(c d q:Int)(hc:L[m]? = some c)(hd:L[m+1]? = some d):
  val ((L.set m (c - q*2097152)).set (m+1) (d+q))=val L:=by
 have h1:(L.set m (c + -(q*2097152)))[m+1]? = some d:=by rw[List.getElem?_set_ne (by omega)];exact hd
 have e:c - q*2097152=c + -(q*2097152):=by omega
 rw[e,M3 _ _ _ _ h1,M3 _ _ _ _ hc,Int.pow_succ,Int.neg_mul,Int.mul_assoc q 2097152,Int.mul_comm 2097152 (2097152 ^ m)]
 omega
theorem c2y(L:List Int)(m:Nat)(c:Int)(h:L[m]? = some c):val (L.drop m)=val (L.drop (m+1))*2097152+c:=by
 have hm:m<L.length:=(List.getElem?_eq_some_iff.1 h).1
 have e:L[m]=c:=by rw[List.getElem?_eq_getElem hm]at h;exact Option.some.inj h
 rw[List.drop_eq_getElem_cons hm,e]
 simp only[val]
 omega
theorem b0k(L:List Int)(m:Nat)(h : ∀ j c,j<m->L[j]? = some c->0<=c∧c<=2097151)(hm:m<=L.length):
  2097152 ^ m*val (L.drop m)<=val L∧val L+1<=2097152 ^ m*(val (L.drop m)+1):=by
 induction m generalizing L with
 | zero=>simp
 | succ m ih=>
  cases L with
  | nil=>simp at hm
  | cons d l=>
   have h0:=h 0 d (by omega) (by simp)
   have:=ih l (fun j c hj hc=>h (j+1) c (by omega) (by simpa using hc)) (by simpa using hm)
   simp only[List.drop_succ_cons,val]
   have e : ∀ z:Int,2097152 ^ (m+1)*z=2097152*(2097152 ^ m*z):=by
    intro z
    rw[Int.pow_succ,Int.mul_comm (2097152 ^ m) 2097152,Int.mul_assoc]
   rw[e,e]
   generalize (2097152:Int) ^ m*val (List.drop m l)=A at *
   generalize (2097152:Int) ^ m*(val (List.drop m l)+1)=B at *
   omega
theorem c1w(m:Nat)(h:1<=m):(2097152:Int)<=2097152 ^ m:=by
 obtain⟨k,rfl⟩ : ∃ k,m=k+1:=⟨m - 1,by omega⟩
 have h1:(0:Int)<2097152 ^ k:=Int.pow_pos (by omega)
 rw[Int.pow_succ]
 omega
theorem c1r(L:List Int)(m:Nat)(h : ∀ j c,j<m->L[j]? = some c->0<=c∧c<=2097151)(hm:m<=L.length)(h1:1<=m)(hn:2199023255552<val (L.drop m)):4611686018427387904<val L:=by
 have:=(b0k L m h hm).1
 have hp:=c1w m h1
 have h3:=Int.mul_le_mul_of_nonneg_right hp (show 0<=val (L.drop m) by omega)
 omega
theorem b4y(L:List Int)(m:Nat)(h : ∀ j c,j<m->L[j]? = some c->0<=c∧c<=2097151)(hm:m<=L.length)(h1:1<=m)(hn:val (L.drop m) < -2199023255552):val L < -4611686018427387904:=by
 have:=(b0k L m h hm).2
 have hp:=c1w m h1
 have h3:=Int.mul_le_mul_of_nonpos_right hp (show val (L.drop m)+1<=0 by omega)
 omega
theorem FM(n:Int)(h : -4611686018427387904<=n∧n<=4611686018427387904):
  n.tmod 2097152+2097152*((n.tdiv 2097152).tmod 2097152+2097152*(n.tdiv 2097152).tdiv 2097152)=n ∧
  (-2097152<n.tmod 2097152∧n.tmod 2097152<2097152)∧(-2097152<(n.tdiv 2097152).tmod 2097152∧(n.tdiv 2097152).tmod 2097152<2097152)∧(-2097152<(n.tdiv 2097152).tdiv 2097152∧(n.tdiv 2097152).tdiv 2097152<2097152):=by
 have e1:=Int.mul_tdiv_add_tmod n 2097152
 have e2:=Int.mul_tdiv_add_tmod (n.tdiv 2097152) 2097152
 have a1:(n.tmod 2097152).natAbs=n.natAbs % 2097152:=Int.natAbs_tmod n 2097152
 have a2:((n.tdiv 2097152).tmod 2097152).natAbs=(n.tdiv 2097152).natAbs % 2097152:=Int.natAbs_tmod _ 2097152
 have a3:(n.tdiv 2097152).natAbs=n.natAbs / 2097152:=Int.natAbs_tdiv n 2097152
 have a4:((n.tdiv 2097152).tdiv 2097152).natAbs=(n.tdiv 2097152).natAbs / 2097152:=Int.natAbs_tdiv _ 2097152
 refine⟨by omega,by omega,by omega,by omega⟩
end Go.Proofs.YtjfgiaooglnomaaGreatDoor
namespace Go.Proofs.YtjfgiaooglnomaaGreatDoor
open Go.RowKit
set_option maxHeartbeats 400000 in
theorem Tt(n:Int)(w:World)(h : -4611686018427387904<=n∧n<=4611686018427387904):
  Calls Tryz.prog 285 #[.int .i64 n] w fun e w'=>e = .returned (.agg #[.int .i64 (n.tmod 2097152),.int .i64 ((n.tdiv 2097152).tmod 2097152),.int .i64 ((n.tdiv 2097152).tdiv 2097152)])∧w.alloc (.cells #[.int .i64 (n.tmod 2097152),.int .i64 ((n.tdiv 2097152).tmod 2097152),.int .i64 ((n.tdiv 2097152).tdiv 2097152)] 298)=w':=by
 obtain⟨h1,h2⟩:=h
 obtain⟨-,b1,b2,b3⟩:=FM n ⟨h1,h2⟩
 have b4 : -4611686018427387904<=n.tdiv 2097152∧n.tdiv 2097152<=4611686018427387904:=a9u n 2097152 ⟨h1,h2⟩ (by omega)
 go_enter Tryz.func285,Tryz.ntmps285
 go_wp2
 exact bodyPost_ret (v:=.agg #[.int .i64 (n.tmod 2097152),.int .i64 ((n.tdiv 2097152).tmod 2097152),.int .i64 ((n.tdiv 2097152).tdiv 2097152)]) (by simp[results,Tryz.results285,go_sem]) rfl ⟨rfl,rfl⟩
theorem a2k{wr W:World}{p:Addr}{v:Value}(hg:Below wr.heap.size wr W)(h:wr.cell? p=some v)(hp:p.block<wr.heap.size):W.cell? p=some v:=(hg.cell hp).trans h
def G8(L:List Int)(b:Nat):Prop:= ∀ (m:Nat) (c:Int),L[m]? = some c->c.natAbs<=b
def cellsOf(L:List Int):Array Value:=(L.map (Value.int .i64)).toArray
theorem Vx.new_at{w:World}{g:Nat}(t:TypeId)(cs:Array Value)(h:g=w.heap.size):Vx (w.alloc (.cells cs t)) g t cs:=by subst h;exact Vx.new w t cs
theorem Jl{L:List Int}{m:Nat}{c:Int}(h:L[m]? = some c):(cellsOf L)[m]? = some (.int .i64 c):=by
 unfold cellsOf
 simp[h]
theorem Bj(L:List Int)(m:Nat)(c:Int):(cellsOf L).setIfInBounds m (.int .i64 c)=cellsOf (L.set m c):=by
 unfold cellsOf
 simp[List.map_set]
theorem G8.set_{L:List Int}{b b':Nat}(h:G8 L b)(hb:b<=b')(m:Nat)(c:Int)(hc:c.natAbs<=b'):G8 (L.set m c) b':=by
 intro j d hj
 rcases Nat.lt_or_ge j L.length with hl|hl
 ·by_cases e:m=j
  ·subst e
   rw[List.getElem?_set_self hl]at hj
   cases hj
   exact hc
  ·rw[List.getElem?_set_ne e]at hj
   exact Nat.le_trans (h j d hj) hb
 ·rw[List.getElem?_eq_none (by simpa using hl)]at hj
  cases hj
theorem OA(X:List Int)(j:Nat)(x:Int)(h:X[j]? = some x):val (X.take (j+1))=val (X.take j)+x*2097152 ^ j:=by
 have hj:j<X.length:=(List.getElem?_eq_some_iff.1 h).1
 have e:X[j]=x:=by rw[List.getElem?_eq_getElem hj]at h;exact Option.some.inj h
 induction X generalizing j with
 | nil=>simp at hj
 | cons d l ih=>
  cases j with
  | zero=>simp at e;simp[val,e]
  | succ j=>
   have:=ih j (by simpa using h) (by simpa using hj) (by simpa using e)
   simp only[List.take_succ_cons,val,this]
   rw[Int.mul_add,Int.pow_succ]
   have e2:2097152*(x*2097152 ^ j)=x*(2097152 ^ j*2097152):=by rw[Int.mul_left_comm,Int.mul_comm 2097152 (2097152 ^ j)]
   omega
theorem G8.mono{L:List Int}{b b':Nat}(h:G8 L b)(hb:b=b'):G8 L b':=hb▸h
@[irreducible] def Jr (k j m : Nat) : Nat := k * 39582418599936 + j * 13194139533312 + m * 4398046511104
theorem e3o(k j:Nat):Jr k j 3=Jr k (j+1) 0:=by unfold Jr;omega
theorem e3i(k:Nat):Jr k 3 0=Jr (k+1) 0 0:=by unfold Jr;omega
theorem d6x{k j m:Nat}(h:k<60)(hj:j<3)(hm:m<3):Jr k j m<=2374945115996160:=by unfold Jr;omega
theorem c9j{k:Nat}(h:k<=60):Jr k 0 0<=2374945115996160:=by unfold Jr;omega
theorem c7t(k j m:Nat):Jr k j m<=Jr k j (m+1):=by unfold Jr;omega
theorem c5i{k j m:Nat}{c p:Int}(hc:c.natAbs<=Jr k j m)(hp:p.natAbs<=4398046511104):(c+p).natAbs<=Jr k j (m+1):=by unfold Jr at *;omega
def InM(w:World)(xs ys:List Int)(k:Nat)(L:List Int)(wr:World):Prop:=
 L.length=8∧Vx wr w.heap.size 297 (cellsOf L)∧val L=J9 (xs.take k) (ys.take k)∧G8 L (Jr k 0 0)∧Below w.heap.size w wr
def Dig(i:Nat)(L:List Int):Prop:= ∀ (j:Nat) (c:Int),L[j]? = some c->(j<i->0<=c∧c<=2097151)∧(j=i->c.natAbs<=9007199254740992)∧(i<j->c.natAbs<=2374945115996160)
def InN(w:World)(D:Int)(i:Nat)(N:List Int)(wr:World):Prop:=
 N.length=8∧Vx wr w.heap.size 297 (cellsOf N)∧val N=D∧Dig i N∧Below w.heap.size w wr
theorem Dig.zero{L:List Int}{b:Nat}(h:G8 L b)(hb:b<=2374945115996160):Dig 0 L:=by
 intro j c hc
 have:=h j c hc
 refine⟨fun h=>absurd h (by omega),fun _=>by omega,fun _=>by omega⟩
theorem Dig.step{i:Nat}{L:List Int}(h:Dig i L)(hl:L.length=8){c d:Int}(hc:L[i]? = some c)(hd:L[i+1]? = some d):Dig (i+1) ((L.set i (c - c / 2097152*2097152)).set (i+1) (d+c / 2097152)):=by
 intro j z hz
 have h1:=(h i c hc).2.1 rfl
 have h2:=(h (i+1) d hd).2.2 (by omega)
 have hi1:i+1<L.length:=(List.getElem?_eq_some_iff.1 hd).1
 by_cases ej:i+1=j
 ·subst ej
  rw[List.getElem?_set_self (by simpa using hi1)]at hz
  cases hz
  refine⟨fun h=>absurd h (by omega),fun _=>by omega,fun h=>absurd h (by omega)⟩
 ·rw[List.getElem?_set_ne ej]at hz
  by_cases ei:i=j
  ·subst ei
   rw[List.getElem?_set_self (by omega)]at hz
   cases hz
   refine⟨fun _=>by omega,fun h=>absurd h (by omega),fun h=>absurd h (by omega)⟩
  ·rw[List.getElem?_set_ne ei]at hz
   have:=h j z hz
   refine⟨fun _=>this.1 (by omega),fun h=>absurd h (by omega),fun _=>this.2.2 (by omega)⟩
theorem b6y(c:Int)(h:c.natAbs<=9007199254740992):Rp Int.fdiv c 2097152=c / 2097152∧TQ c 2097152=0:=by
 have h1:rng c=true:=Q6 (by omega)
 have h2:rng 2097152=true:=Q6 (by omega)
 refine⟨?_,by simp[TQ,h1,h2]⟩
 rw[<- Int.fdiv_eq_ediv_of_nonneg c (by omega:(0:Int)<=2097152)]
 simp[Rp,h1,h2]
def InJ(w:World)(L X Y:List Int)(k p q j:Nat)(M:List Int)(wj:World):Prop:=
 M.length=8∧Vx wj w.heap.size 297 (cellsOf M)∧Vx wj p 298 (cellsOf X)∧Vx wj q 298 (cellsOf Y)∧val M=val L+val (X.take j)*val Y∧G8 M (Jr k j 0)∧Below w.heap.size w wj
def InK(w:World)(L X Y:List Int)(k p q j:Nat)(xj:Int)(m:Nat)(N:List Int)(wk:World):Prop:=
 N.length=8∧Vx wk w.heap.size 297 (cellsOf N)∧Vx wk p 298 (cellsOf X)∧Vx wk q 298 (cellsOf Y)∧val N=val L+val (X.take j)*val Y+xj*2097152 ^ j*val (Y.take m)∧G8 N (Jr k j m)∧Below w.heap.size w wk
def e2g(wr:World)(X Y:List Int)(s9 s10:Value)(wx:World):Prop:=
 ∃ p q:Nat,s9 = .pointer (some ⟨p,0,none⟩)∧s10 = .pointer (some ⟨q,0,none⟩)∧Vx wx p 298 (cellsOf X)∧Vx wx q 298 (cellsOf Y)∧wr.heap.size<=p∧wr.heap.size<=q∧Below wr.heap.size wr wx
set_option maxRecDepth 20000 in
set_option maxHeartbeats 4000000 in
theorem d0i(A B:Option Addr)(n c d:Nat)(xs ys:List Int)(w:World)(hr:XX w w.heap.size 1 A n (xs.map (Value.int .i64)))(hq:XX w w.heap.size 1 B n (ys.map (Value.int .i64)))(hn:n<=60)
  (hx:xs.all rng=true) (hy:ys.all rng=true) :
  Calls Tryz.prog 255 #[.slice A n c,.slice B n d] w fun e w'=>e = .returned (.tuple #[.int .i64 (vR (J9 xs ys)),.int .i64 (eR (J9 xs ys))])∧Below w.heap.size w w':=by
 have hl1:=Lib.hid (show xs.length=n by have:=hr.1;simpa using this)
 have hl2:=Lib.hid (show ys.length=n by have:=hq.1;simpa using this)
 have HX:=Lib.hid hx
 have HY:=Lib.hid hy
 have hnn:((n:Int)==n)=true:=by simp
 have hnn':((n:Int) != n)=false:=by simp
 clear hx hy
 go_enter Tryz.func255,Tryz.ntmps255
 go_wp2
 go_loop [6] (fun i=> ∃ k:Nat,k<=n∧i = .int .i64 k) (fun i=>n - (intOf i).toNat)
 case atStart=>exact⟨0,Nat.zero_le _,rfl⟩
 case round=>
  obtain⟨k,hk,rfl⟩:=hrel
  by_cases hlt:k<n
  ·obtain⟨ad,u,rfl,hB,hu,hc⟩:=hr.at_ hlt
   rw[List.getElem?_map]at hu
   obtain⟨x,hx,rfl⟩:=Option.map_eq_some_iff.1 hu
   obtain⟨ae,v,rfl,hB',hv,hc'⟩:=hq.at_ hlt
   rw[List.getElem?_map]at hv
   obtain⟨y,hy,rfl⟩:=Option.map_eq_some_iff.1 hv
   have hrx:rng x=true:=Q6 (JR HX.out hx)
   have hry:rng y=true:=Q6 (JR HY.out hy)
   clear hx hu hy hv
   go_wp2_with (go_at_call 196;refine(XF _ _).mono ?_;rintro e w' ⟨rfl,rfl⟩)
   go_round
   case rel=>exact⟨k+1,by omega,by go_num⟩
   case measure=>simp[intOf];omega
  ·obtain rfl:n=k:=by omega
   clear hlt
   go_wp2
   go_loopw [8] (fun i wr=> ∃ (k:Nat) (L:List Int),k<=n∧i = .int .i64 k∧InM w xs ys k L wr) (fun i _=>n - (intOf i).toNat)
   case atStart=>exact⟨0,[0,0,0,0,0,0,0,0],Nat.zero_le _,rfl,rfl,Vx.new _ _ _,by simp[val,J9],(fun m c h=>by have h1:c∈[0,0,0,0,0,0,0,(0:Int)]:=List.mem_of_getElem? h;simp at h1;omega),(Below.refl _ _).alloc (Nat.le_refl _) _⟩
   case round=>
    obtain⟨k,L,hk,rfl,hL,hblk,hv,hbd,hbl⟩:=hrel
    have hv:=Lib.hid hv
    by_cases hlt:k<n
    ·obtain⟨ad,u,rfl,hB,hu,hc⟩:=(hr.below hbl).at_ hlt
     rw[List.getElem?_map]at hu
     obtain⟨x,hx,rfl⟩:=Option.map_eq_some_iff.1 hu
     obtain⟨ae,v,rfl,hB',hv,hc'⟩:=(hq.below hbl).at_ hlt
     rw[List.getElem?_map]at hv
     obtain⟨y,hy,rfl⟩:=Option.map_eq_some_iff.1 hv
     have DX:=Lib.hid (fun w=>Tt x w (JR HX.out hx))
     have DY:=Lib.hid (fun w=>Tt y w (JR HY.out hy))
     obtain⟨tx,tx0,tx1,tx2⟩:=FM x (JR HX.out hx)
     obtain⟨ty,ty0,ty1,ty2⟩:=FM y (JR HY.out hy)
     have HXK:=Lib.hid hx
     have HYK:=Lib.hid hy
     clear hx hu hy hv
     generalize x.tmod 2097152=x0 at *
     generalize (x.tdiv 2097152).tmod 2097152=x1 at *
     generalize (x.tdiv 2097152).tdiv 2097152=x2 at *
     generalize y.tmod 2097152=y0 at *
     generalize (y.tdiv 2097152).tmod 2097152=y1 at *
     generalize (y.tdiv 2097152).tdiv 2097152=y2 at *
     have VX:Hid (val [x0,x1,x2]=x):=Lib.hid (by simp only[val];omega)
     have VY:Hid (val [y0,y1,y2]=y):=Lib.hid (by simp only[val];omega)
     have DXB:Hid (∀ (j:Nat) (z:Int),[x0,x1,x2][j]? = some z->z.natAbs<=2097152):=Lib.hid (fun j z h=>by have h1:z∈[x0,x1,x2]:=List.mem_of_getElem? h;simp at h1;omega)
     have DYB:Hid (∀ (j:Nat) (z:Int),[y0,y1,y2][j]? = some z->z.natAbs<=2097152):=Lib.hid (fun j z h=>by have h1:z∈[y0,y1,y2]:=List.mem_of_getElem? h;simp at h1;omega)
     clear tx ty tx0 tx1 tx2 ty0 ty1 ty2
     have l1:=World.block_lt_of_cell? wr _ hc
     have l2:=World.block_lt_of_cell? wr _ hc'
     go_upto_region 14 with fail
     go_cut [9,10] (fun s9 s10 wx=>e2g wr [x0,x1,x2] [y0,y1,y2] s9 s10 wx)
     case first=>as_aux_lemma=>
      go_region_held3 (fun w'=>w'.cell? (ad.add k)=some (.int .i64 x)∧w'.cell? (ae.add k)=some (.int .i64 y))
       (first|(refine⟨a2k ?_ hc l1,a2k ?_ hc' l2⟩ <;> (repeat (first|exact Below.refl _ _|refine Below.drew ?_|refine Below.alloc ?_ (by simp <;> omega) _|refine Below.setCell ?_ (by simp <;> omega) _))))
       (first|(go_at_call 285;((with_reducible refine(DX.out _).mono ?_);clear DX;rintro e w1 ⟨rfl,rfl⟩))|(go_at_call 285;((with_reducible refine(DY.out _).mono ?_);rintro e w1 ⟨rfl,rfl⟩)))
      all_goals go_wp2_with fail
      all_goals go_meet
      all_goals refine⟨_,_,rfl,rfl,?_,?_,?_,?_,?_⟩
      all_goals first
       | (refine Below.alloc (Below.alloc (Below.alloc (Below.alloc (Below.refl _ _) ?_ _) ?_ _) ?_ _) ?_ _ <;> (simp <;> omega))
       | (refine Below.drew (Below.alloc (Below.alloc (Below.alloc (Below.alloc (Below.refl _ _) ?_ _) ?_ _) ?_ _) ?_ _) <;> (simp <;> omega))
       | (refine Vx.new_at _ _ ?_;simp;done)
       | (refine Vx.alloc (Vx.new_at _ _ ?_) _;simp;done)
       | (refine Vx.alloc (Vx.alloc (Vx.new_at _ _ ?_) _) _;simp;done)
       | (refine Vx.alloc (Vx.alloc (Vx.alloc (Vx.new_at _ _ ?_) _) _) _;simp;done)
       | (simp;done)
       | (simp <;> omega)
       | (exact Nat.le_refl _)
       | omega
     case rest=>
      obtain⟨p,q,rfl,rfl,hpX,hqY,hp,hq2,hbx⟩:=hcut
      have hgl:=hblk.lt
      have hblkc:=hblk.below hbx hgl
      have hblc:=hbl.trans (hbx.mono hbl.size)
      have hpg:p≠w.heap.size:=by omega
      have hqg:q≠w.heap.size:=by omega
      obtain⟨wo,rfl⟩ : ∃ wo:World,wo=wr:=⟨_,rfl⟩
      have VO:=Lib.hid hv
      clear hc hc' l1 l2 DX DY hblk hbl hbx hp hq2 hv
      generalize hXL:[x0,x1,x2]=X at *
      generalize hYL:[y0,y1,y2]=Y at *
      have hXlen:X.length=3:=by rw[<- hXL];rfl
      have hYlen:Y.length=3:=by rw[<- hYL];rfl
      have HXlen:=Lib.hid hXlen
      have HYlen:=Lib.hid hYlen
      have HLlen:=Lib.hid hL
      clear hXL hYL hXlen hYlen hL
      go_wp2
      go_loopw [11] (fun s11 wj=> ∃ (j:Nat) (M:List Int),j<=3∧s11 = .int .i64 j∧InJ w L X Y k p q j M wj) (fun s11 _=>3 - (intOf s11).toNat)
      case atStart=>exact⟨0,L,Nat.zero_le _,rfl,HLlen.out,hblkc,hpX,hqY,by simp[val],hbd,hblc⟩
      case round=>
       clear hblkc hpX hqY hblc
       obtain⟨j,M,hj,rfl,hM,hbM,hbX,hbY,hvM,hbdM,hblM⟩:=hrel
       have hM:=Lib.hid hM
       have hvM:=Lib.hid hvM
       by_cases hj3:j<3
       ·obtain⟨xj,hxj⟩ : ∃ z,X[j]? = some z:=⟨X[j]'(by rw[HXlen.out];exact hj3),List.getElem?_eq_getElem _⟩
        have HXJ:=Lib.hid hxj
        have hxjb:=DXB.out j xj hxj
        clear hxj
        go_wp2
        go_loopw [12] (fun s12 wk=> ∃ (m:Nat) (N:List Int),m<=3∧s12 = .int .i64 m∧InK w L X Y k p q j xj m N wk) (fun s12 _=>3 - (intOf s12).toNat)
        case atStart=>exact⟨0,M,Nat.zero_le _,rfl,hM.out,hbM,hbX,hbY,by rw[hvM.out];simp[val],hbdM,hblM⟩
        case round=>
         clear hM hbM hbX hbY hvM hbdM hblM
         obtain⟨m,N,hm,rfl,hN,hbN,hbX,hbY,hvN,hbdN,hblN⟩:=hrel
         have hN:=Lib.hid hN
         have hvN:=Lib.hid hvN
         by_cases hm3:m<3
         ·obtain⟨ym,hym⟩ : ∃ z,Y[m]? = some z:=⟨Y[m]'(by rw[HYlen.out];exact hm3),List.getElem?_eq_getElem _⟩
          obtain⟨c,hcN⟩ : ∃ z,N[j+m]? = some z:=⟨N[j+m]'(by rw[hN.out];omega),List.getElem?_eq_getElem _⟩
          have hymb:=DYB.out m ym hym
          have HCB:=Lib.hid (hbdN _ _ hcN)
          have hcb:=Nat.le_trans HCB.out (d6x (show k<60 by omega) hj3 hm3)
          have e1:=(hbX.cell j).trans (Jl HXJ.out)
          have e2:=(hbY.cell m).trans (Jl hym)
          have e3:=(hbN.cell (j+m)).trans (Jl hcN)
          have e4:=hbN.frozen (j+m)
          have hprod:(xj*ym).natAbs<=4398046511104:=by
           rw[Int.natAbs_mul];exact Nat.mul_le_mul hxjb hymb
          have HYM:=Lib.hid hym
          have HCN:=Lib.hid hcN
          clear hym hcN
          go_wp2
          go_region
          all_goals go_wp2
          as_aux_lemma=>
           go_roundw
           case rel=>
            refine⟨m+1,N.set (j+m) (c+xj*ym),by omega,rfl,by rw[List.length_set];exact hN.out,?_,?_,?_,?_,?_,?_⟩
            ·have h:=hbN.set_ (j+m) (.int .i64 (c+xj*ym))
             rw[Bj]at h
             exact h.drew
            ·exact(hbX.far (p:=⟨w.heap.size,j+m,none⟩) hpg _).drew
            ·exact(hbY.far (p:=⟨w.heap.size,j+m,none⟩) hqg _).drew
            ·rw[M3 _ _ _ _ HCN.out,hvN.out,OA _ _ _ HYM.out,Int.mul_add,Int.pow_add]
             have e:xj*ym*(2097152 ^ j*2097152 ^ m)=xj*2097152 ^ j*(ym*2097152 ^ m):=by
              simp only[Int.mul_assoc,Int.mul_left_comm]
             rw[e]
             omega
            ·exact hbdN.set_ (c7t k j m) _ _ (c5i HCB.out hprod)
            ·exact(hblN.setCell (p:=⟨w.heap.size,j+m,none⟩) (Nat.le_refl _) _).drew
           case measure=>simp[intOf];omega
         ·obtain rfl:m=3:=by omega
          go_wp2
          as_aux_lemma=>
           go_roundw
           case rel=>
            refine⟨j+1,N,by omega,rfl,hN.out,hbN,hbX,hbY,?_,hbdN.mono (e3o k j),hblN⟩
            have h:=hvN.out
            rw[List.take_of_length_le (l:=Y) (by rw[HYlen.out];omega)]at h
            rw[h,OA _ _ _ HXJ.out,Int.add_mul]
            omega
           case measure=>simp[intOf];omega
       ·obtain rfl:j=3:=by omega
        go_wp2
        as_aux_lemma=>
         go_roundw
         case rel=>
          refine⟨k+1,M,by omega,rfl,hM.out,hbM,?_,hbdM.mono (e3i k),hblM⟩
          have h:=hvM.out
          rw[List.take_of_length_le (l:=X) (by rw[HXlen.out];omega),VX.out,VY.out]at h
          rw[h,OX k xs ys x y HXK.out HYK.out,VO.out]
         case measure=>simp[intOf];omega
    ·obtain rfl:n=k:=by omega
     have hD:val L=J9 xs ys:=by rw[hv.out,List.take_of_length_le (l:=xs) (by rw[hl1.out];omega),List.take_of_length_le (l:=ys) (by rw[hl2.out];omega)]
     have hdz:=Dig.zero hbd (c9j hn)
     clear hlt hr hq HX HY hv hbd
     go_wp2
     go_loopw [13] (fun s wr=> ∃ (i:Nat) (N:List Int),i<=7∧s = .int .i64 i∧InN w (J9 xs ys) i N wr) (fun s _=>7 - (intOf s).toNat)
     case atStart=>exact⟨0,L,by omega,rfl,hL,hblk,hD,hdz,hbl⟩
     case round=>
      clear hblk hD hdz hbl hL
      obtain⟨i,N,hi,rfl,hN,hbN,hvN,hdg,hblN⟩:=hrel
      have hN:=Lib.hid hN
      have hvN:=Lib.hid hvN
      by_cases hi7:i<7
      ·obtain⟨c1,hc1⟩ : ∃ z,N[i]? = some z:=⟨N[i]'(by rw[hN.out];omega),List.getElem?_eq_getElem _⟩
       obtain⟨d1,hd1⟩ : ∃ z,N[i+1]? = some z:=⟨N[i+1]'(by rw[hN.out];omega),List.getElem?_eq_getElem _⟩
       have hcb:=(hdg _ _ hc1).2.1 rfl
       have hdb:=(hdg _ _ hd1).2.2 (by omega)
       obtain⟨f1,f2⟩:=b6y c1 hcb
       have CD:=Lib.hid (fun w=>c3d c1 2097152 w)
       rw[f1,f2]at CD
       have hq1:2097152*(c1 / 2097152)<=c1∧c1<2097152*(c1 / 2097152)+2097152:=by omega
       have HST:=Lib.hid (hdg.step hN.out hc1 hd1)
       have HVC:=Lib.hid ((b2p N i c1 d1 (c1 / 2097152) hc1 hd1).trans hvN.out)
       generalize c1 / 2097152=q at *
       have e1:=(hbN.cell i).trans (Jl hc1)
       have e2:=hbN.frozen i
       have hbN1:=hbN.set_ i (.int .i64 (c1 - q*2097152))
       rw[Bj]at hbN1
       have e3:=(hbN1.cell (i+1)).trans (Jl (show(N.set i (c1 - q*2097152))[i+1]? = some d1 by rw[List.getElem?_set_ne (by omega)];exact hd1))
       have e4:=hbN1.frozen (i+1)
       clear f1 f2 hc1 hd1 hdg
       go_wp2_with (first|(go_at_call 199;((with_reducible refine(CD.out _).mono ?_);rintro e w1 ⟨rfl,rfl⟩)))
       as_aux_lemma=>
        go_roundw
        case rel=>
         refine⟨i+1,(N.set i (c1 - q*2097152)).set (i+1) (d1+q),by omega,rfl,by rw[List.length_set,List.length_set];exact hN.out,?_,HVC.out,HST.out,?_⟩
         ·have h:=hbN1.set_ (i+1) (.int .i64 (d1+q))
          rw[Bj]at h
          exact h
         ·exact(hblN.setCell (p:=⟨w.heap.size,i,none⟩) (Nat.le_refl _) _).setCell (p:=⟨w.heap.size,i+1,none⟩) (Nat.le_refl _) _
        case measure=>simp[intOf];omega
      ·obtain rfl:i=7:=by omega
       have HDG:=Lib.hid hdg
       clear hdg hi7 hi
       go_wp2
       go_loopw [16,17] (fun s16 s17 wk=> ∃ (m:Nat) (v j:Int),m<=8∧s16 = .int .i64 v∧s17 = .int .i64 j∧j=(m:Int) - 1∧v.natAbs<=4620693217682128896∧Hid (v=val (N.drop m))∧wr=wk) (fun _ s17 _=>((intOf s17)+1).toNat)
       case atStart=>exact⟨8,0,7,by omega,rfl,rfl,by omega,by omega,Lib.hid (by rw[List.drop_of_length_le (by rw[hN.out];omega)];rfl),rfl⟩
       case round=>
        obtain⟨m,v,j,hm,rfl,rfl,hj,hvb,hv,rfl⟩:=hrel
        cases m with
        | zero=>
         obtain rfl:j = -1:=by omega
         have hvD:v=J9 xs ys:=by rw[hv.out,<- hvN.out,List.drop_zero]
         clear hv HDG hvN hvb hj
         subst hvD
         cases hR:rng (J9 xs ys)with
         | false=>
          have hv1:vR (J9 xs ys)=0:=by simp[vR,hR]
          have he:eR (J9 xs ys)=2:=by simp[eR,hR]
          go_wp2_with (go_at_call 196;refine(XF _ _).mono ?_;rintro e w' ⟨rfl,rfl⟩)
          go_ret2
          first|exact⟨YB hv1.symm he.symm,hblN⟩|exact⟨rfl,hblN⟩
         | true=>
          have hv1:vR (J9 xs ys)=J9 xs ys:=by simp[vR,hR]
          have he:eR (J9 xs ys)=0:=by simp[eR,hR]
          go_wp2_with (go_at_call 196;refine(XF _ _).mono ?_;rintro e w' ⟨rfl,rfl⟩)
          go_ret2
          first|exact⟨YB hv1.symm he.symm,hblN⟩|exact⟨rfl,hblN⟩
        | succ m=>
         obtain rfl:j=(m:Int):=by omega
         clear hj
         have h8:m=7->v=0:=by
          rintro rfl
          rw[hv.out,List.drop_of_length_le (by rw[hN.out];omega)]
          rfl
         by_cases h1:2199023255552<v
         ·have hR:rng (J9 xs ys)=false:=by
           have hm7 : ¬ m=7:=fun h=>by have:=h8 h;omega
           have:=c1r N (m+1) (fun j c hj hc=>(HDG.out j c hc).1 (by omega)) (by rw[hN.out];omega) (by omega) (hv.out▸h1)
           rw[hvN.out]at this
           simp[rng];omega
          have hv1:vR (J9 xs ys)=0:=by simp[vR,hR]
          have he:eR (J9 xs ys)=2:=by simp[eR,hR]
          clear hvN
          go_wp2
          go_ret2
          first|exact⟨YB hv1.symm he.symm,hblN⟩|exact⟨rfl,hblN⟩
         ·by_cases h2:v < -2199023255552
          ·have hR:rng (J9 xs ys)=false:=by
            have hm7 : ¬ m=7:=fun h=>by have:=h8 h;omega
            have:=b4y N (m+1) (fun j c hj hc=>(HDG.out j c hc).1 (by omega)) (by rw[hN.out];omega) (by omega) (hv.out▸h2)
            rw[hvN.out]at this
            simp[rng];omega
           have hv1:vR (J9 xs ys)=0:=by simp[vR,hR]
           have he:eR (J9 xs ys)=2:=by simp[eR,hR]
           clear hvN
           go_wp2
           go_ret2
           first|exact⟨YB hv1.symm he.symm,hblN⟩|exact⟨rfl,hblN⟩
          ·obtain⟨c1,hc1⟩ : ∃ z,N[m]? = some z:=⟨N[m]'(by rw[hN.out];omega),List.getElem?_eq_getElem _⟩
           have hcb:c1.natAbs<=9007199254740992:=by
            have h:=HDG.out m c1 hc1
            by_cases h7:m=7
            ·exact h.2.1 h7
            ·have:=h.1 (by omega)
             omega
           have e1:=(hbN.cell m).trans (Jl hc1)
           have e2:=hbN.frozen m
           have HVD:=Lib.hid ((c2y N m c1 hc1).trans (by rw[<- hv.out]))
           clear hc1
           go_wp2
           as_aux_lemma=>
            go_roundw
            case rel=>exact⟨m,v*2097152+c1,(m:Int) - 1,by omega,rfl,rfl,rfl,by omega,Lib.hid HVD.out.symm,trivial⟩
            case measure=>simp[intOf]
end Go.Proofs.YtjfgiaooglnomaaGreatDoor
namespace Go.Proofs.YtjfgiaooglnomaaGreatDoor
open Go.RowKit
theorem a1h(zs:List Int)(k:Nat)(x:Int)(hx:zs[k]? = some x)(h:(zs.take k).all rng=true)(hr:rng x=true):(zs.take (k+1)).all rng=true:=by
 have hk:k<zs.length:=(List.getElem?_eq_some_iff.1 hx).1
 have e:zs[k]=x:=by rw[List.getElem?_eq_getElem hk]at hx;exact Option.some.inj hx
 rw[List.take_succ_eq_append_getElem hk,e,List.all_append,h]
 simp[hr]
set_option maxRecDepth 20000 in
set_option maxHeartbeats 1000000 in
theorem b9w(A B:Option Addr)(n m c d:Nat)(xs ys:List Int)(w:World)(hr:XX w w.heap.size 1 A n (xs.map (Value.int .i64)))(hq:XX w w.heap.size 1 B m (ys.map (Value.int .i64)))(hn:n<=60)(hm:m<=60):
  Calls Tryz.prog 255 #[.slice A n c,.slice B m d] w fun e w'=>e = .returned (.tuple #[.int .i64 (K7 xs ys),.int .i64 (Js xs ys)])∧Below w.heap.size w w':=by
 have hl1:=Lib.hid (show xs.length=n by have:=hr.1;simpa using this)
 have hl2:=Lib.hid (show ys.length=m by have:=hq.1;simpa using this)
 by_cases hnm:n=m
 ·subst hnm
  cases ha:(xs.all rng&&ys.all rng)
  ·have he:Js xs ys=2:=by simp[Js,hl1.out,hl2.out,ha]
   have hv:K7 xs ys=0:=by simp[K7,hl1.out,hl2.out,ha]
   rw[he,hv]
   have HA:=Lib.hid ha
   have hnn:((n:Int)==n)=true:=by simp
   have hnn':((n:Int) != n)=false:=by simp
   clear he hv ha
   go_enter Tryz.func255,Tryz.ntmps255
   go_wp2
   go_loop [6] (fun i=> ∃ k:Nat,k<=n∧i = .int .i64 k∧Hid ((xs.take k).all rng=true∧(ys.take k).all rng=true)) (fun i=>n - (intOf i).toNat)
   case atStart=>exact⟨0,Nat.zero_le _,rfl,Lib.hid ⟨rfl,rfl⟩⟩
   case round=>
    obtain⟨k,hk,rfl,hal⟩:=hrel
    by_cases hlt:k<n
    ·obtain⟨ad,u,rfl,hB,hu,hc⟩:=hr.at_ hlt
     rw[List.getElem?_map]at hu
     obtain⟨x,hx,rfl⟩:=Option.map_eq_some_iff.1 hu
     obtain⟨ae,v,rfl,hB',hv,hc'⟩:=hq.at_ hlt
     rw[List.getElem?_map]at hv
     obtain⟨y,hy,rfl⟩:=Option.map_eq_some_iff.1 hv
     have HX:=Lib.hid hx
     have HY:=Lib.hid hy
     clear hx hu hy hv
     cases hrx:rng x with
     | false=>
      go_wp2_with (go_at_call 196;refine(XF _ _).mono ?_;rintro e w' ⟨rfl,rfl⟩)
      go_ret2
      exact⟨rfl,Below.refl _ _⟩
     | true=>
      cases hry:rng y with
      | false=>
       go_wp2_with (go_at_call 196;refine(XF _ _).mono ?_;rintro e w' ⟨rfl,rfl⟩)
       go_ret2
       exact⟨rfl,Below.refl _ _⟩
      | true=>
       have hal2:=Lib.hid (And.intro (a1h xs k x HX.out hal.out.1 hrx) (a1h ys k y HY.out hal.out.2 hry))
       go_wp2_with (go_at_call 196;refine(XF _ _).mono ?_;rintro e w' ⟨rfl,rfl⟩)
       go_round
       case rel=>exact⟨k+1,by omega,by go_num,hal2⟩
       case measure=>simp[intOf];omega
    ·exfalso
     obtain rfl:n=k:=by omega
     have h1:=hal.out.1
     have h2:=hal.out.2
     rw[List.take_of_length_le (by rw[hl1.out];omega)]at h1
     rw[List.take_of_length_le (by rw[hl2.out];omega)]at h2
     have h3:=HA.out
     rw[h1,h2]at h3
     cases h3
  ·have he:Js xs ys=eR (J9 xs ys):=by simp[Js,hl1.out,hl2.out,ha]
   have hv:K7 xs ys=vR (J9 xs ys):=by simp only[K7,hl1.out,hl2.out,Bool.and_assoc,ha];simp
   rw[he,hv]
   have:=Bool.and_eq_true_iff.1 ha
   exact d0i A B n c d xs ys w hr hq hn this.1 this.2
 ·have hb:(n==m)=false:=by simpa using hnm
  have he:Js xs ys=1:=by simp[Js,hl1.out,hl2.out,hb]
  have hv:K7 xs ys=0:=by simp[K7,hl1.out,hl2.out,hb]
  rw[he,hv]
  have hnn:((n:Int)==m)=false:=by simp;omega
  have hnn':((n:Int) != m)=true:=by simp;omega
  clear he hv hnm
  go_enter Tryz.func255,Tryz.ntmps255
  go_wp2
  go_ret2
  exact⟨rfl,Below.refl _ _⟩
end Go.Proofs.YtjfgiaooglnomaaGreatDoor
namespace Go.Proofs.YtjfgiaooglnomaaGreatDoor
open Go.RowKit
theorem c6l:(Tryz.prog.info? 3).map (fun i=>(i.zero,i.size,i.bytes))=some (some (.int .i64 0),1,8):=by kernel_rfl
theorem a5t:Tryz.prog.underlying 34=some (.slice 3):=by kernel_rfl
theorem b6n{w:World}{base e size n:Nat}{v:Value}{xs:List Value}(h:w.ownsRow base e size v n xs): ∃ A c,v = .slice A n c:=by
 rcases h.2 with ⟨rfl,rfl⟩|⟨g,cap,cur,rfl,_⟩
 ·exact⟨none,0,rfl⟩
 ·exact⟨_,_,rfl⟩
theorem Nq(zs:List Int)(n:Nat)(h:zs.length=n):K7 zs (List.replicate n 1)=PU zs∧Js zs (List.replicate n 1)=P9 zs:=by
 have h1:(List.replicate n (1:Int)).all rng=true:=by
  rw[List.all_eq_true]
  intro x hx
  have:=List.eq_of_mem_replicate hx
  subst this
  exact Q6 (by omega)
 have h2:=c6x zs n (by omega)
 constructor
 ·simp[K7,PU,h1,h2,h]
 ·simp[Js,P9,h1,h2,h]
set_option maxHeartbeats 1000000 in
theorem c3g(A:Option Addr)(n c:Nat)(zs:List Int)(w:World)(hr:XX w w.heap.size 1 A n (zs.map (Value.int .i64)))(hn:n<=60):
  Calls Tryz.prog 198 #[.slice A n c] w fun e w'=>e = .returned (.tuple #[.int .i64 (PU zs),.int .i64 (P9 zs)])∧Below w.heap.size w w':=by
 have hlen:=Lib.hid (show zs.length=n by have:=hr.1;simpa using this)
 obtain⟨i0,hi,hz0,hz1,hz2⟩:=info_parts c6l
 have HI:=Lib.hid hi
 have HZ0:=Lib.hid hz0
 have HZ1:=Lib.hid hz1
 have HZ2:=Lib.hid hz2
 clear hi hz0 hz1 hz2
 go_enter Tryz.func198,Tryz.ntmps198
 go_wp2
 go_loopw [4,5] (fun v i wr=> ∃ k:Nat,k<=n∧i = .int .i64 k∧wr.ownsRow w.heap.size 3 1 v k (List.replicate k (.int .i64 1))∧Below w.heap.size w wr) (fun _ i _=>n - (intOf i).toNat)
 case atStart=>exact⟨0,Nat.zero_le _,rfl,World.ownsRow_nil _ _ _ _,Below.refl _ _⟩
 case round=>
  obtain⟨k,hk,rfl,hown,hbl⟩:=hrel
  by_cases hlt:k<n
  ·go_wp2_with (first
    | (at_builtin;refine wpList_append_own _ rfl _ _ 34 rfl w.heap.size 3 i0 (.int .i64 0) 1 8 a5t HI.out HZ0.out HZ1.out HZ2.out rfl (by decide) _ _ _ rfl (hown.alloc _) ⟨wr.heap.size,0,none⟩ 1 1 [.int .i64 1] rfl rfl ?c1 ?c2 ?c3 ?c4 ?c5 ?_)
    | fail)
   case c1=>
    intro j u hj
    match j,hj with
    | 0,hj=>simp at hj;subst hj;simp[Addr.add]
   case c2=>intro u hu;simp at hu;subst hu;rfl
   case c3=>unfold maxLen;omega
   case c4=>omega
   case c5=>have:=hbl.size;simp;omega
   ·intro v' w1 hown' hgrow _
    have hbl':Below w.heap.size w w1:=(hbl.alloc hbl.size _).grown hgrow (by have:=hbl.size;simp;omega) (fun g hg=>(hown.lt g hg).1)
    rw[<- List.replicate_succ']at hown'
    clear hown hgrow hbl
    go_wp2
    go_roundw
    case rel=>exact⟨k+1,by omega,by go_num,hown',hbl'⟩
    case measure=>simp[intOf];omega
  ·obtain rfl:n=k:=by omega
   obtain⟨B,d,rfl⟩:=b6n hown
   have HD:=Lib.hid (b9w A B n n c d zs (List.replicate n 1) wr ((hr.below hbl).more hbl.size) (by have:=XX.of_own hown;rw[List.map_replicate];exact this) hn hn)
   rw[(Nq zs n hlen.out).1,(Nq zs n hlen.out).2]at HD
   clear hown
   go_wp2_with (go_at_call 255;refine HD.out.mono ?_;rintro e w' ⟨rfl,hb⟩)
   go_ret2
   exact⟨rfl,hbl.trans (hb.mono hbl.size)⟩
end Go.Proofs.YtjfgiaooglnomaaGreatDoor
namespace Go.Proofs.YtjfgiaooglnomaaGreatDoor
open Go.Pl Go.RowKit
open Enc (enc dec is)
open EncL (encL decL isL)
set_option maxRecDepth 100000
theorem a5o(l:List Int):flat (l.map (enc:Int->PV))=l.map enc:=by
 induction l with
 | nil=>rfl
 | cons s ss ih=>simp only[flat,List.map_cons,List.flatMap_cons]at ih ⊢;rw[ih];rfl
theorem Cu{Φ:Yb}{w:World}{v:Value}{l:List Int}(hΦ:XO Φ w)(h:RP Φ v (enc l)): ∃ A c,v = .slice A l.length c∧XX w w.heap.size 1 A l.length (l.map (Value.int .i64)):=by
 have e:(enc l:PV) = .sl 1 false (l.map enc):=rfl
 rw[e]at h
 generalize hx:l.map (enc:Int->PV)=xs at h
 generalize hq:PV.sl 1 false xs=q at h
 cases h with
 | sl0 a c sz t h=>
  cases hq
  have:l=[]:=List.map_eq_nil_iff.1 hx
  subst this
  exact⟨a,c,rfl,by simp,fun h=>absurd h (by simp)⟩
 | sl b off cs c sz t ys u hb hc ht hs hu hr=>
  cases hq
  subst hx
  refine⟨some ⟨b,off,none⟩,c,by rw[List.length_map],by simp,fun h0=> ?_⟩
  obtain⟨T,fz,hh⟩:=hΦ b cs hb
  refine⟨_,rfl,(Array.getElem?_eq_some_iff.1 hh).1,fun j x hx=> ?_⟩
  rw[a5o]at hu hr
  rw[List.getElem?_map]at hx
  obtain⟨n,hn,rfl⟩:=Option.map_eq_some_iff.1 hx
  have hp:(l.map (enc:Int->PV))[j]? = some (.int .i64 n):=by rw[List.getElem?_map,hn];rfl
  have h1:=(hu j _ hp).1
  have h2:=JQ (hr j _ hp)
  rw[h2]at h1
  have ha:(⟨b,off,none⟩:Addr).add j=⟨b,off+j,none⟩:=by
   unfold Addr.add
   split
   ·rename_i h0;subst h0;rfl
   ·rfl
  rw[ha]
  simp[World.cell?,hh,h1]
 | _=>cases hq
theorem Ae{Φ:Yb}{a b:Int}:RP Φ (.tuple #[.int .i64 a,.int .i64 b]) (enc (a,b)):=by
 refine .tup _ _ rfl ?_
 intro j v x hv hx
 match j with
 | 0=>cases hv;cases hx;exact .int _ _
 | 1=>cases hv;cases hx;exact .int _ _
 | j+2=>simp at hv
theorem Co(n:Int):rng n=YR n:=by
 unfold rng YR
 by_cases h1 : -4611686018427387904<=n <;> by_cases h2:n<=4611686018427387904 <;> simp[h1,h2]
theorem c5d:rng=YR:=funext Co
theorem c2p(a b:Int):(Ku a b,Kw a b)=X3 a b:=by
 unfold Ku Kw X3
 rw[Co,Co,Co]
 cases (YR a&&YR b&&YR (a*b)) <;> rfl
theorem c7o(l:List Int):(PU l,P9 l)=Xr l:=by
 unfold PU P9 Xr vR eR
 rw[c5d]
 cases l.all YR <;> cases YR l.sum <;> rfl
theorem b8g: ∀ a b:List Int,J9 a b=a4y a b
 | [],b=>by cases b <;> rfl
 | _::_,[]=>rfl
 | x::a,y::b=>by show x*y+J9 a b=x*y+a4y a b;rw[b8g]
theorem d0y(a b:List Int):(K7 a b,Js a b)=Bo a b:=by
 unfold K7 Js Bo vR eR
 rw[c5d,b8g]
 by_cases h:a.length=b.length
 ·have e:(a.length==b.length)=true:=beq_iff_eq.2 h
  rw[e,if_pos h]
  cases a.all YR <;> cases b.all YR <;> cases YR (a4y a b) <;> rfl
 ·have e:(a.length==b.length)=false:=beq_eq_false_iff_ne.2 h
  rw[e,if_neg h];rfl
theorem a7s:Zt Tryz.prog 247 (fun _:Int×Int×Unit=>true) (fun x:Int×Int×Unit=>X3 x.1 x.2.1):=Y4 (by
  rintro⟨a,b,⟨⟩⟩ _ Φ w vs hL hΦ hv
  obtain⟨u,v,rfl,h1,h2⟩:=c4m hv
  rw[JQ h1,JQ h2]
  refine(d3w a b w).mono ?_
  rintro e w' ⟨rfl,hb⟩
  exact⟨_,rfl,by rw[<- c2p];exact Ae,hb⟩)
theorem a4f:Zt Tryz.prog 190 (fun x:List Int×Unit=>decide (x.1.length<=10000)) (fun x:List Int×Unit=>Xr x.1):=Y4 (by
  rintro⟨l,⟨⟩⟩ hp Φ w vs hL hΦ hv
  have hp:l.length<=10000:=of_decide_eq_true hp
  obtain⟨u,rfl,h1⟩:=c0z hv
  obtain⟨A,c,rfl,hr⟩:=Cu hΦ h1
  refine(d1a A l.length c l w hr hp).mono ?_
  rintro e w' ⟨rfl,hb⟩
  exact⟨_,rfl,by rw[<- c7o];exact Ae,hb⟩)
theorem TM:Zt Tryz.prog 126 (fun x:List Int×List Int×Unit=>decide (x.1.length<=10000)&&decide (x.2.1.length<=10000)) (fun x:List Int×List Int×Unit=>Bo x.1 x.2.1):=Y4 (by
  rintro⟨l,m,⟨⟩⟩ hp Φ w vs hL hΦ hv
  simp only[Bool.and_eq_true,decide_eq_true_eq]at hp
  obtain⟨u,v,rfl,h1,h2⟩:=c4m hv
  obtain⟨A,c,rfl,hr⟩:=Cu hΦ h1
  obtain⟨B,d,rfl,hq⟩:=Cu hΦ h2
  refine(c9z A B l.length m.length c d l m w hr hq hp.1 hp.2).mono ?_
  rintro e w' ⟨rfl,hb⟩
  exact⟨_,rfl,by rw[<- d0y];exact Ae,hb⟩)
theorem Rs:Zt Tryz.prog 197 (fun _:Int×Int×Unit=>true) (fun x:Int×Int×Unit=>X3 x.1 x.2.1):=Y4 (by
  rintro⟨a,b,⟨⟩⟩ _ Φ w vs hL hΦ hv
  obtain⟨u,v,rfl,h1,h2⟩:=c4m hv
  rw[JQ h1,JQ h2]
  refine(c0g a b w).mono ?_
  rintro e w' ⟨rfl,rfl⟩
  exact⟨_,rfl,by rw[<- c2p];exact Ae,.refl _ _⟩)
end Go.Proofs.YtjfgiaooglnomaaGreatDoor
namespace Go.Proofs.YtjfgiaooglnomaaGreatDoor
open Go.RowKit Go.Shelf Go.Pl
open Enc (enc dec is)
open EncL (encL decL isL)
attribute [local go_sem] Oper.semAt_some
set_option maxRecDepth 100000
theorem d4s{Φ:Yb}{v u:Value}{p q:PV}(h:RP Φ v p)(k:RP Φ u q):WW Φ (#[v,u]:Array Value).toList [p,q]:=⟨rfl,fun j x r hx hr=>match j with
 | 0=>by cases hx;cases hr;exact h
 | 1=>by cases hx;cases hr;exact k
 | j+2=>by simp at hx⟩
theorem d3i{Φ:Yb}{v:Value}{b:Bool}(h:RP Φ v (.bool b)):v = .bool b:=by cases h;rfl
theorem Au(zs:List Int):flat (zs.map (enc:Int->PV))=zs.map enc:=by
 induction zs with
 | nil=>rfl
 | cons z zs ih=>exact congrArg (_:: ·) ih
theorem a3u{Φ:Yb}{w w':World}{v:Value}{zs:List Int}(hΦ:XO Φ w)(hb:Below w.heap.size w w')(h:w'.ownsRow w.heap.size 3 1 v zs.length (zs.map (Value.int .i64))):
  ∃ Φ',Yb.le Φ Φ'∧XO Φ' w'∧RP Φ' v (enc zs)∧ ∀ b cs,Φ' b=some cs->Φ b=some cs∨w.heap.size<=b:=by
 have hok:XO Φ w':=hΦ.below hb
 rcases h.2 with ⟨rfl,h0⟩|⟨g,cap,cur,rfl,hg,hh,h1,h2,h3,h4⟩
 ·have:zs=[]:=List.length_eq_zero_iff.1 h0
  subst this
  exact⟨Φ,Yb.le.refl _,hok,.sl0 _ _ _ _ (fun e=>by cases e),fun b cs hc=>.inl hc⟩
 ·have hne : ∀ b cs,Φ b=some cs->b≠g:=by
   rintro b cs hc rfl
   obtain⟨T,fz,hh'⟩:=hΦ _ cs hc
   have:=(Array.getElem?_eq_some_iff.1 hh').1
   omega
  have hat : ∀ (j:Nat) z,zs[j]? = some z->cur[j]? = some (.int .i64 z):=by
   intro j z hz
   have hj:=(List.getElem?_eq_some_iff.1 hz).1
   have:(cur.toList.take (zs.length*1))[j]? = some (.int .i64 z):=by rw[h4,List.getElem?_map,hz];rfl
   rw[List.getElem?_take,if_pos (by omega)]at this
   simpa using this
  have hget : ∀ (j:Nat) p,(zs.map (enc:Int->PV))[j]? = some p-> ∃ z,zs[j]? = some z∧p = .int .i64 z:=by
   intro j p hp
   rw[List.getElem?_map]at hp
   obtain⟨z,hz,rfl⟩:=Option.map_eq_some_iff.1 hp
   exact⟨z,hz,rfl⟩
  refine⟨fun b=>if b=g then some cur else Φ b,fun b cs hc=> ?_,fun b cs hc=> ?_,?_,fun b cs hc=> ?_⟩
  ·simp only[if_neg (hne b cs hc)];exact hc
  ·simp only at hc
   split at hc
   ·rename_i e;subst e;cases hc;exact⟨_,_,hh⟩
   ·exact hok b cs hc
  ·have:=RP.sl (Φ:=fun b=>if b=g then some cur else Φ b) g 0 cur cap 1 false (zs.map (enc:Int->PV)) (fun j=>.int .i64 (zs.getD j 0)) (by simp) (by rw[List.length_map];omega) (by intro e;cases e)
    (by intro x hx;obtain⟨z,_,rfl⟩:=List.mem_map.1 hx;rfl)
    (by
     intro j p hp
     rw[Au]at hp
     obtain⟨z,hz,rfl⟩:=hget j p hp
     refine⟨?_,rfl⟩
     rw[Nat.zero_add,hat j z hz]
     simp[List.getD,hz])
    (by
     intro j p hp
     rw[Au]at hp
     obtain⟨z,hz,rfl⟩:=hget j p hp
     simp only[List.getD,hz,Option.getD_some]
     exact .int _ _)
   rwa [List.length_map]at this
  ·simp only at hc
   split at hc
   ·rename_i e;subst e;exact .inr hg
   ·exact .inl hc
theorem b3b{μ:Mu}{Φ:Yb}{w:World}{c:Ctx}{p:List Int}{v:Value}(hg:Go.Pl.Good c μ Φ (Xf p) w)(hv:R μ Φ v (.row 0 p.length 0 p.length))(hn:p.length<=1000):
  Calls Tryz.prog 104 #[v] w fun e w'=> ∃ v' Φ',e = .returned v'∧Yb.le Φ Φ'∧XO Φ' w'∧RP Φ' v' (enc p)∧Below w.heap.size w w'∧ ∀ b cs,Φ' b=some cs->Φ b=some cs∨w.heap.size<=b:=by
 obtain⟨B,C,cs,e1,e2,e3,e4,e5,e6,e7,e8,e9,e10⟩:=hg.obj 0 (.row false 3 1 (p.map enc)) rfl
 cases hv with
 | row l n lo hi B' C' S a h k1 k2 k3 ha=>
  rw[List.length_map]at e1
  rw[e1]at h
  cases h
  have ha:=ha (.inr rfl)
  rw[Nat.zero_mul]at ha
  subst ha
  rw[Nat.sub_zero]
  rw[List.length_map,Au]at e8
  have hcell : ∀ j,j<p.length->w.cell? ⟨B,0+j,none⟩=some (.int .i64 (p.getD j 0)):=by
   intro j hj
   have hj2:j<(cs.toList.take (p.length*1)).length:=by rw[e8.1,List.length_map];exact hj
   have h1:(p.map (enc:Int->PV))[j]? = some (.int .i64 p[j]):=by rw[List.getElem?_map,List.getElem?_eq_getElem hj];rfl
   have h2:=e8.2 j _ _ (List.getElem?_eq_getElem hj2) h1
   have h3:=JQ h2
   have h4:cs[j]? = some (.int .i64 p[j]):=by
    have h5:(cs.toList.take (p.length*1))[j]? = some (.int .i64 p[j]):=by rw[List.getElem?_eq_getElem hj2,h3]
    rw[List.getElem?_take,if_pos (by omega)]at h5
    simpa using h5
   rw[Nat.zero_add]
   simp[World.cell?,e3,h4,List.getD,hj]
  refine(Any.slices_Clone_int Tryz.laysC15 B 0 p.length (C - 0) p w (Nat.le_refl _) (by omega) hcell).mono ?_
  rintro e w' ⟨v',rfl,h1,_,h2⟩
  rw[List.take_of_length_le (Nat.le_refl _)]at h1
  obtain⟨Φ',a1,a2,a3,a4⟩:=a3u hg.phi h2 h1
  exact⟨v',Φ',rfl,a1,a2,a3,h2,a4⟩
theorem a3z{Φ:Yb}{w:World}{fv vv:Value}{fs:List Fact}{vs:List Coef}(hL:GlobOK Φ)(hΦ:XO Φ w)(hf:RP Φ fv (enc fs))(hv:RP Φ vv (enc vs))(hs:Zl fs=true)(hl:vs.length<=9223372036854775807):
  Calls Tryz.prog 178 #[fv,vv] w fun e w'=>e = .returned (.bool (fs.all fun f=>Yx f vs))∧Below w.heap.size w w':=by
 refine(Fa [enc fs,enc vs] (Zk (fs,vs,()) rfl (by show(Zl fs&&decide (vs.length<=9223372036854775807))=true;rw[hs,decide_eq_true hl];rfl)) Φ w #[fv,vv] hL hΦ (d4s hf hv)).mono ?_
 rintro e w' ⟨v,Φ',rfl,_,_,hr,hb,_⟩
 have ev:Zw (fun x:List Fact×List Coef×Unit=>x.1.all fun f=>Yx f x.2.1) [enc fs,enc vs] = .bool (fs.all fun f=>Yx f vs):=by
  show enc ((fun x:List Fact×List Coef×Unit=>x.1.all fun f=>Yx f x.2.1) (decL (encL (fs,vs,()))))=_
  rw[EncL.dec_encL];rfl
 rw[ev]at hr
 rw[d3i hr]
 exact⟨rfl,hb⟩
end Go.Proofs.YtjfgiaooglnomaaGreatDoor
namespace Go.Proofs.YtjfgiaooglnomaaGreatDoor
open Go.RowKit Go.Shelf Go.Pl
open Enc (enc dec is)
open EncL (encL decL isL)
attribute [local go_sem] Oper.semAt_some
set_option maxRecDepth 100000
theorem d8o{l:List Value}(hl:l.length=52): ∃ t0 t1 t2 t3 t4 t5 t6 t7 t8 t9 t10 t11 t12 t13 t14 t15 t16 t17 t18 t19 t20 t21 t22 t23 t24 t25 t26 t27 t28 t29 t30 t31 t32 t33 t34 t35 t36 t37 t38 t39 t40 t41 t42 t43 t44 t45 t46 t47 t48 t49 t50 t51,l=[t0,t1,t2,t3,t4,t5,t6,t7,t8,t9,t10,t11,t12,t13,t14,t15,t16,t17,t18,t19,t20,t21,t22,t23,t24,t25,t26,t27,t28,t29,t30,t31,t32,t33,t34,t35,t36,t37,t38,t39,t40,t41,t42,t43,t44,t45,t46,t47,t48,t49,t50,t51]:=by
 obtain⟨t0,r0,e0,hl0⟩:=Xi hl
 subst e0
 obtain⟨t1,r1,e1,hl1⟩:=Xi hl0
 subst e1
 obtain⟨t2,r2,e2,hl2⟩:=Xi hl1
 subst e2
 obtain⟨t3,r3,e3,hl3⟩:=Xi hl2
 subst e3
 obtain⟨t4,r4,e4,hl4⟩:=Xi hl3
 subst e4
 obtain⟨t5,r5,e5,hl5⟩:=Xi hl4
 subst e5
 obtain⟨t6,r6,e6,hl6⟩:=Xi hl5
 subst e6
 obtain⟨t7,r7,e7,hl7⟩:=Xi hl6
 subst e7
 obtain⟨t8,r8,e8,hl8⟩:=Xi hl7
 subst e8
 obtain⟨t9,r9,e9,hl9⟩:=Xi hl8
 subst e9
 obtain⟨t10,r10,e10,hl10⟩:=Xi hl9
 subst e10
 obtain⟨t11,r11,e11,hl11⟩:=Xi hl10
 subst e11
 obtain⟨t12,r12,e12,hl12⟩:=Xi hl11
 subst e12
 obtain⟨t13,r13,e13,hl13⟩:=Xi hl12
 subst e13
 obtain⟨t14,r14,e14,hl14⟩:=Xi hl13
 subst e14
 obtain⟨t15,r15,e15,hl15⟩:=Xi hl14
 subst e15
 obtain⟨t16,r16,e16,hl16⟩:=Xi hl15
 subst e16
 obtain⟨t17,r17,e17,hl17⟩:=Xi hl16
 subst e17
 obtain⟨t18,r18,e18,hl18⟩:=Xi hl17
 subst e18
 obtain⟨t19,r19,e19,hl19⟩:=Xi hl18
 subst e19
 obtain⟨t20,r20,e20,hl20⟩:=Xi hl19
 subst e20
 obtain⟨t21,r21,e21,hl21⟩:=Xi hl20
 subst e21
 obtain⟨t22,r22,e22,hl22⟩:=Xi hl21
 subst e22
 obtain⟨t23,r23,e23,hl23⟩:=Xi hl22
 subst e23
 obtain⟨t24,r24,e24,hl24⟩:=Xi hl23
 subst e24
 obtain⟨t25,r25,e25,hl25⟩:=Xi hl24
 subst e25
 obtain⟨t26,r26,e26,hl26⟩:=Xi hl25
 subst e26
 obtain⟨t27,r27,e27,hl27⟩:=Xi hl26
 subst e27
 obtain⟨t28,r28,e28,hl28⟩:=Xi hl27
 subst e28
 obtain⟨t29,r29,e29,hl29⟩:=Xi hl28
 subst e29
 obtain⟨t30,r30,e30,hl30⟩:=Xi hl29
 subst e30
 obtain⟨t31,r31,e31,hl31⟩:=Xi hl30
 subst e31
 obtain⟨t32,r32,e32,hl32⟩:=Xi hl31
 subst e32
 obtain⟨t33,r33,e33,hl33⟩:=Xi hl32
 subst e33
 obtain⟨t34,r34,e34,hl34⟩:=Xi hl33
 subst e34
 obtain⟨t35,r35,e35,hl35⟩:=Xi hl34
 subst e35
 obtain⟨t36,r36,e36,hl36⟩:=Xi hl35
 subst e36
 obtain⟨t37,r37,e37,hl37⟩:=Xi hl36
 subst e37
 obtain⟨t38,r38,e38,hl38⟩:=Xi hl37
 subst e38
 obtain⟨t39,r39,e39,hl39⟩:=Xi hl38
 subst e39
 obtain⟨t40,r40,e40,hl40⟩:=Xi hl39
 subst e40
 obtain⟨t41,r41,e41,hl41⟩:=Xi hl40
 subst e41
 obtain⟨t42,r42,e42,hl42⟩:=Xi hl41
 subst e42
 obtain⟨t43,r43,e43,hl43⟩:=Xi hl42
 subst e43
 obtain⟨t44,r44,e44,hl44⟩:=Xi hl43
 subst e44
 obtain⟨t45,r45,e45,hl45⟩:=Xi hl44
 subst e45
 obtain⟨t46,r46,e46,hl46⟩:=Xi hl45
 subst e46
 obtain⟨t47,r47,e47,hl47⟩:=Xi hl46
 subst e47
 obtain⟨t48,r48,e48,hl48⟩:=Xi hl47
 subst e48
 obtain⟨t49,r49,e49,hl49⟩:=Xi hl48
 subst e49
 obtain⟨t50,r50,e50,hl50⟩:=Xi hl49
 subst e50
 obtain⟨t51,r51,e51,hl51⟩:=Xi hl50
 subst e51
 obtain rfl:r51=[]:=List.length_eq_zero_iff.1 hl51
 exact⟨t0,t1,t2,t3,t4,t5,t6,t7,t8,t9,t10,t11,t12,t13,t14,t15,t16,t17,t18,t19,t20,t21,t22,t23,t24,t25,t26,t27,t28,t29,t30,t31,t32,t33,t34,t35,t36,t37,t38,t39,t40,t41,t42,t43,t44,t45,t46,t47,t48,t49,t50,t51,rfl⟩
def e1k:Code->Option Code
 | .seq _ (.block _ (.loop (.block _ (.seq _ (.seq m _)))))=>some m
 | _=>none
theorem d5j: ∃ cA b0 b1 cB cM cC,Option.bind Tryz.f177.body e1k=some cM∧Tryz.f177.body=some (.seq cA (.block b0 (.loop (.block b1 (.seq cB (.seq cM cC)))))) ∧
  Wq Tryz.prog cA=some FE∧X0 cA=true∧Wq Tryz.prog cB=some FJ∧X0 cB=true∧(Wq Tryz.prog cC).map (fun x=>(Jj [] [] x [4,1,2,0]).1)=some KO∧X0 cC=true:=by
 refine⟨_,_,_,_,_,_,rfl,rfl,?_,?_,?_,?_,?_,?_⟩ <;> kernel_rfl
theorem SQ(p:List Int):d6i (Xf p):=by
 intro l o h ty sz xs e
 subst e
 match l,h with
 | 0,h=>cases h
 | l+1,h=>simp[Xf]at h
theorem d8v{μ:Mu}{Φ:Yb}{l:Nat}{b:BoxT}{fs:List Fact}{n:Nat}{t:Array Value}{v0 v1 v2 v4:Value}(h0:R μ Φ v0 (.yld l))(h1:R μ Φ v1 (.pv (.rptr [enc b.v,.int .i64 b.m])))(h2:R μ Φ v2 (.pv (.rptr [enc fs])))(h4:R μ Φ v4 (.row 0 n 0 n))
  (e0:t[0]? = some v0:=by rfl) (e1:t[1]? = some v1:=by rfl) (e2:t[2]? = some v2:=by rfl) (e4:t[4]? = some v4:=by rfl) :
  ∀ p∈[(0,AV.yld l),(1,.pv (.rptr [enc b.v,.int .i64 b.m])),(2,.pv (.rptr [enc fs])),(4,.row 0 n 0 n)],∀ v,t[p.1]? = some v->R μ Φ v p.2:=by
 intro p hp v hv
 simp only[List.mem_cons,List.not_mem_nil,or_false]at hp
 rcases hp with rfl|rfl|rfl|rfl
 ·rw[e0]at hv;cases hv;exact h0
 ·rw[e1]at hv;cases hv;exact h1
 ·rw[e2]at hv;cases hv;exact h2
 ·rw[e4]at hv;cases hv;exact h4
set_option maxHeartbeats 4000000 in
theorem d5p {n l : Nat} {b : BoxT} {fs : List Fact} {p : List Int} {μ : Mu} {Φ : Yb} {w : World} {a : Act} {k : Nat} {J : Nat -> Yb -> (Nat -> Prop) -> World -> Prop} {Jx : Yb -> (Nat -> Prop) -> World -> Prop} {cM : Code}
    (hM:Option.bind Tryz.f177.body e1k=some cM) (hJok : ∀ k,JOK (J k)) (hJxok:JOK Jx) (hfs:Zl fs=true) (hp:p.length<=1000) (hvl:b.v.length<=1000)
    (hj:J k Φ (CL μ (Xf p)) w) (hg:Go.Pl.Good (entry μ Φ (Xf p) w) μ Φ (Xf p) w) (he:WQ μ Φ a.tmps (c6q l b fs p.length p)) (hd:a.defers=[])
    (hY:XV b.v fs p=true-> ∀ Φ X W1 (vs:Array Value),J k Φ X W1->WW Φ vs.toList (QC (p,Zf b.v p))->YieldAt Fence.wide (n - 1) Tryz.prog l vs W1 (NY (J (k+1)) Jx Φ X W1)) :
    cM.wpIn Fence.wide n Tryz.prog (fun e a' w'=>a'.defers=[]∧(∃ Φ',Φ.le Φ'∧WQ μ Φ' a'.tmps (Dh l b fs p.length) ∧
      ((e = .normal∧Go.Pl.Good (entry μ Φ' (Xf p) w') μ Φ' (Xf p) w'∧J (if XV b.v fs p then k+1 else k) Φ' (CL μ (Xf p)) w')∨(e = .ret∧ ∃ X,Jx Φ' X w')))) a w:=by
  obtain⟨tm,ds⟩:=a
  obtain⟨l0⟩:=tm
  simp only at hd
  subst hd
  obtain⟨hsz,hat⟩:=d8m he
  obtain⟨t0,t1,t2,t3,t4,t5,t6,t7,t8,t9,t10,t11,t12,t13,t14,t15,t16,t17,t18,t19,t20,t21,t22,t23,t24,t25,t26,t27,t28,t29,t30,t31,t32,t33,t34,t35,t36,t37,t38,t39,t40,t41,t42,t43,t44,t45,t46,t47,t48,t49,t50,t51,rfl⟩:=d8o (l:=l0) (by simpa using hsz)
  obtain⟨_,q0,k0⟩:=hat 0 _ (by decide) rfl
  obtain⟨_,q1,k1⟩:=hat 1 _ (by decide) rfl
  obtain⟨_,q2,k2⟩:=hat 2 _ (by decide) rfl
  obtain⟨_,q4,k4⟩:=hat 4 _ (by decide) rfl
  obtain⟨_,q5,k5⟩:=hat 5 _ (by decide) rfl
  cases q0;cases q1;cases q2;cases q4;cases q5
  cases k0
  have k2':RP Φ t2 (.rptr [enc fs]):=Y0 k2
  have k5':RP Φ t5 (enc (Zf b.v p)):=Y0 k5
  obtain⟨B2,o2,fv,rfl,hf,hone,hcell⟩:=b5q k2' hg.phi
  have hH:=a3z hg.laid hg.phi hf k5' hfs (by unfold Zf;rw[List.length_zipWith];omega)
  cases hM
  cases hin:XV b.v fs p
  · have hin':(fs.all fun f=>Yx f (Zf b.v p))=false:=hin
    gi_wp2_with (first
      | (refine⟨trivial,(fun h=>by simp[Fence.wide]at h),?_⟩;gi_at_call 178;refine(callsIn_wide.2 hH).mono ?_;rintro e w1 ⟨rfl,hb1⟩;rw[hin'])
      | (refine⟨trivial,?_⟩)
      | (refine⟨(fun(f:FuncId) (h:none=some f)=>by cases h),?_⟩)
      | fail)
    have hXb : ∀ x,CL μ (Xf p) x->x<w.heap.size∧Φ x=none:=fun x hx=>(hJok k).out hj hx
    have hg1:=hg.below hb1 (.refl _) (GA hg.phi hb1) (fun b cs h=>.inl h)
    have hj1:=(hJok k).step hj (Gn hb1 (.refl _) (GA hg.phi hb1) (fun b cs h=>.inl h) hXb)
    exact⟨Φ,.refl _,Fs rfl (d8v (.yld l) k1 k2 k4),hg1.rebase,hj1⟩
  · have hin':(fs.all fun f=>Yx f (Zf b.v p))=true:=hin
    have hXb : ∀ x,CL μ (Xf p) x->x<w.heap.size∧Φ x=none:=fun x hx=>(hJok k).out hj hx
    gi_wp2_with (first
      | (refine ⟨trivial, (fun h => by simp [Fence.wide] at h), ?_⟩; gi_at_call 178; refine (callsIn_wide.2 hH).mono ?_; rintro e w1 ⟨rfl, hb1⟩; rw [hin']
         have hg1:=hg.below hb1 (.refl _) (GA hg.phi hb1) (fun b cs h=>.inl h)
         have hj1:=(hJok k).step hj (Gn hb1 (.refl _) (GA hg.phi hb1) (fun b cs h=>.inl h) hXb))
      | (refine ⟨trivial, (fun h => by simp [Fence.wide] at h), ?_⟩; gi_at_call 104; refine (callsIn_wide.2 (b3b hg1 k4 hp)).mono ?_; rintro e w2 ⟨v2, Φ2, rfl, hle2, hφ2, hv2, hb2, hd2⟩
         have hg2:=hg1.below hb2 hle2 hφ2 hd2
         have hj2:=(hJok k).step hj1 (Gn hb2 hle2 hφ2 hd2 (fun x hx=>(hJok k).out hj1 hx))
         obtain⟨fn,tmps,assign,body,hy,hR⟩:=hY hin Φ2 _ w2 #[v2,t5] hj2 (d4s hv2 (k5'.mono hle2)))
      | fail)
    refine⟨(fun h=>by simp[Fence.wide]at h),hR.mono ?_⟩
    rintro e w3 ⟨Φ3,hle3,hkeep,⟨rfl,hj3⟩|⟨rfl,hj3⟩⟩
    · gi_wp2
      have hle:=hle2.trans hle3
      exact⟨Φ3,hle,Fs rfl (d8v (.yld l) (k1.mono (.refl _) hle) (k2.mono (.refl _) hle) (k4.mono (.refl _) hle)),hg2.moved ((hJok (k+1)).glob hj3) hle3 ((hJok (k+1)).phi hj3) hkeep (fun b hb=>((hJok (k+1)).out hj3 hb).2) (SQ p),hj3⟩
    · gi_wp2
      have hle:=hle2.trans hle3
      exact⟨Φ3,hle,Fs rfl (d8v (.yld l) (k1.mono (.refl _) hle) (k2.mono (.refl _) hle) (k4.mono (.refl _) hle)),_,hj3⟩
theorem d1r(μ:Mu):CL μ []=fun _=>False:=by
 funext b
 exact propext ⟨fun⟨l,o,h,_⟩=>by simp at h,fun h=>h.elim⟩
theorem a6j:YC Tryz.prog a8k:=Zb (Yf Tryz.func48 (by kernel_rfl) d9i) Zm
theorem b9p{k:Nat}{rs:List IRes}{st:St}(h:Zq k rs (fun _=>False) st):False:=by
 obtain⟨r,_,h⟩:=h
 exact h
theorem d0e{m:Int}{p:List Int}{l:List (List Int)}(h:Walk m p l): ∃ t,l=p::t:=by
 cases h with
 | last h=>exact⟨[],rfl⟩
 | step h k=>exact⟨_,rfl⟩
theorem a7e(x y z:Value)(n:Nat):((#[x]++ #[y,z])++Array.replicate n undef:Array Value)[0]? = some x∧((#[x]++ #[y,z])++Array.replicate n undef:Array Value)[1]? = some y∧((#[x]++ #[y,z])++Array.replicate n undef:Array Value)[2]? = some z:=by
 refine⟨?_,?_,?_⟩ <;> simp[Array.getElem?_append]
set_option maxHeartbeats 1000000 in
theorem UL:c7p Tryz.prog 177 QC Qd De:=by
 refine⟨⟨_,Tryz.func177,rfl,rfl⟩,?_⟩
 intro pss hpre Φ0 lb l J Jx W hcaps hJok hJxok hY h0
 unfold Qd at hpre
 split at hpre
 ·rename_i v m f
  simp only[Bool.and_eq_true,decide_eq_true_eq]at hpre
  obtain⟨⟨⟨⟨hv,hf⟩,hbx⟩,hfs⟩,hvl⟩:=hpre
  obtain⟨vs,rfl⟩:=YG hv
  obtain⟨fs,rfl⟩:=YG hf
  rw[Enc.dec_enc]at hbx hvl hfs
  have hF:De [[enc vs,.int .i64 m],[enc fs]]=(Zv ⟨vs,m⟩ fs).map fun p=>(p,Zf vs p):=by
   show((Zv ⟨dec (enc vs:PV),m⟩ (dec (enc fs:PV))).map fun p=>(p,Zf (dec (enc vs:PV)) p))=_
   rw[Enc.dec_enc,Enc.dec_enc]
  rw[hF]at hY ⊢
  obtain⟨lb⟩:=lb
  match lb,hcaps.1 with
  | [p1,p2],_=>
   obtain⟨B1,c1,rfl,g1,r1,o1⟩:=hcaps.2 0 p1 _ rfl rfl
   obtain⟨B2,c2,rfl,g2,r2,o2⟩:=hcaps.2 1 p2 _ rfl rfl
   have k1:=Np g1 r1 o1
   have k2:=Np g2 r2 o2
   obtain⟨cA,b0,b1,cB,cM,cC,hM,hbody,hA1,hA2,hB1,hB2,hC1,hC2⟩:=d5j
   obtain⟨xC,hC0,hC3⟩:=Option.map_eq_some_iff.1 hC1
   have htr:Tr Tryz.prog cC KO:=hC3▸a2y (Gq hC0) _ _ _
   refine callsIn_wide.1 (callsIn_of_wp (F:=Fence.wide) (n:=4) Tryz.func177 hbody trivial ?_ rfl)
   have hE:WQ (fun _ _=>none) Φ0 ((#[Value.func (.yield l) #[] #[]]++ #[Value.pointer (some ⟨B1,0,none⟩),Value.pointer (some ⟨B2,0,none⟩)])++Array.replicate 49 undef) (Z4 52 0 [(0,.yld l),(1,.pv (.rptr [enc vs,.int .i64 m])),(2,.pv (.rptr [enc fs]))]):=by
    refine Fs (by simp) ?_
    intro q hq u hu
    simp only[List.mem_cons,List.not_mem_nil,or_false]at hq
    rcases hq with rfl|rfl|rfl
    ·have:=(a7e _ _ _ 49).1.symm.trans hu
     injection this with this
     subst this
     exact .yld l
    ·have:=(a7e _ _ _ 49).2.1.symm.trans hu
     injection this with this
     subst this
     exact .pv _ _ k1
    ·have:=(a7e _ _ _ 49).2.2.symm.trans hu
     injection this with this
     subst this
     exact .pv _ _ k2
   refine wpIn_seq (wpIn_mono (MI (nn:=4) (st:=⟨Z4 52 0 [(0,.yld l),(1,.pv (.rptr [enc vs,.int .i64 m])),(2,.pv (.rptr [enc fs]))],[]⟩) a6j ZO hA1 hA2 (d0l l ⟨vs,m⟩ fs hvl) (JD ((hJok 0).glob h0) ((hJok 0).phi h0)) hE rfl) ?_)
   rintro e a1 w1 (⟨rfl,st',rfl,μ1,Φ1,hg1,he1,hd1⟩|⟨rfl,st',hF,_⟩)
   ·have hsz : ∀ y∈H5 m.toNat vs.length,∀ x∈y,-1<=x∧x<=20000:=by
     intro y hy x hx
     obtain⟨q1,q2⟩:=CF.1 hy
     have:=q2 x hx
     obtain⟨_,_,h3,h4,_⟩:=VG.1 hbx
     rcases h3 with h3|h3
     ·have h3:vs=[]:=h3
      subst h3
      rw[List.length_eq_zero_iff.1 q1]at hx
      cases hx
     ·have h3:m<20000:=h3
      have h4:0<=m:=h4
      omega
    have hj1:J 0 Φ1 (CL μ1 (Xf (WS vs))) w1:=by
     have h0':J 0 Φ0 (CL (fun _ _=>none) []) W:=by rw[d1r];exact h0
     exact(hJok 0).step h0' (Steps.of_good hg1 (SQ _))
    have hz:WS vs=List.replicate vs.length 0:=List.map_const' ..
    have hw0:Walk m (WS vs) (H5 m.toNat vs.length):=by
     have:=BJ m.toNat vs.length
     have e:(m.toNat:Int)=m:=by
      have:0<=m:=(VG.1 hbx).2.2.2.1
      omega
     rw[e,<- hz]at this
     exact this
    have hp0:Zv ⟨vs,m⟩ fs=(H5 m.toNat vs.length).filter (XV vs fs):=by
     unfold Zv
     rw[V7 hbx]
    refine wpIn_block (wpIn_loop_ghost (fun n a w=> ∃ (p:List Int) (lst:List (List Int)) (k:Nat) (μ:Mu) (Φ:Yb),n=lst.length∧Walk m p lst∧p.length=vs.length∧(∀ y∈lst,∀ x∈y,-1<=x∧x<=20000) ∧
     (Zv ⟨vs,m⟩ fs).drop k=lst.filter (XV vs fs)∧k<=(Zv ⟨vs,m⟩ fs).length∧J k Φ (CL μ (Xf p)) w∧Go.Pl.Good (entry μ Φ (Xf p) w) μ Φ (Xf p) w∧WQ μ Φ a.tmps (Dh l ⟨vs,m⟩ fs p.length)∧a.defers=[]) _
     ⟨WS vs,H5 m.toNat vs.length,0,μ1,Φ1,rfl,hw0,by simp[WS],hsz,by rw[List.drop_zero,hp0],Nat.zero_le _,hj1,hg1.rebase,by rw[show(WS vs).length=(⟨vs,m⟩:BoxT).v.length by simp[WS]];exact he1,hd1⟩ ?_)
    clear hj1 hg1 he1 hd1 hw0 h0 hE
    rintro n a w ⟨p,lst,k,μ,Φ,rfl,hw,hpl,hpx,hdr,hk,hj,hg,he,hd⟩
    have hp:p.length<=1000:=by omega
    obtain⟨rest,rfl⟩:=d0e hw
    refine wpIn_block (wpIn_seq (wpIn_mono (MI (nn:=4) (st:=⟨Dh l ⟨vs,m⟩ fs p.length,Xf p⟩) a6j ZO hB1 hB2 (d3c l ⟨vs,m⟩ fs p hvl hp) hg he hd) ?_))
    rintro e a1 w1 (⟨rfl,st',rfl,μ1,Φ1,hg1,he1,hd1⟩|⟨rfl,st',hF,_⟩)
    ·have hj1:J k Φ1 (CL μ1 (Xf p)) w1:=(hJok k).step hj (Steps.of_good hg1 (SQ _))
     have hat:XV vs fs p=true->(Zv ⟨vs,m⟩ fs)[k]? = some p:=by
      intro hin
      have:((Zv ⟨vs,m⟩ fs).drop k)[0]? = some p:=by rw[hdr,List.filter_cons,if_pos hin];rfl
      rwa [List.getElem?_drop]at this
     refine wpIn_seq (wpIn_mono (d5p (n:=4) (b:=⟨vs,m⟩) (fs:=fs) (J:=J) (Jx:=Jx) hM hJok hJxok hfs hp hvl hj1 hg1.rebase he1 hd1 ?_) ?_)
     ·intro hin Φ X W1 us hJ hus
      exact hY 3 k (p,Zf vs p) Φ X W1 us (by rw[List.getElem?_map,hat hin];rfl) hJ hus
     ·rintro e a2 w2 ⟨hd2,Φ2,hle,he2,⟨rfl,hg2,hj2⟩|⟨rfl,X,hjx⟩⟩
      ·refine wpIn_mono (Re (nn:=4) (st:=⟨Dh l ⟨vs,m⟩ fs p.length,Xf p⟩) a6j ZO htr hC2 (d1w l ⟨vs,m⟩ fs p hp (hpx p (by simp))) hg2 he2 hd2) ?_
       have hk':(if XV vs fs p then k+1 else k)<=(Zv ⟨vs,m⟩ fs).length∧(Zv ⟨vs,m⟩ fs).drop (if XV vs fs p then k+1 else k)=rest.filter (XV vs fs):=by
        cases hin:XV vs fs p
        ·rw[if_neg (by simp)]
         refine⟨hk,?_⟩
         rw[hdr,List.filter_cons,if_neg (by simp[hin])]
        ·rw[if_pos rfl]
         have:=(List.getElem?_eq_some_iff.1 (hat hin)).1
         refine⟨this,?_⟩
         have e:=congrArg (List.drop 1) hdr
         rw[List.filter_cons,if_pos hin,List.drop_drop]at e
         exact e
       rintro e a3 w3 (⟨rfl,st',⟨q,hq,rfl⟩,μ3,Φ3,hg3,he3,hd3⟩|⟨rfl,st',hF,μ3,Φ3,hg3,he3,hd3⟩)
       ·have hql:q.length=p.length:=BK _ _ _ _ hq
        cases hw with
        | last h=>rw[h]at hq;cases hq
        | step h hw'=>
         rw[h]at hq
         cases hq
         refine⟨rest.length,by simp,q,rest,_,μ3,Φ3,rfl,hw',by rw[hql,hpl],fun y hy=>hpx y (by simp[hy]),hk'.2,hk'.1,(hJok _).step hj2 (Steps.of_good hg3 (SQ q)),hg3.rebase,by rw[hql];exact he3,hd3⟩
       ·obtain⟨_,_,hq⟩:=hF
        cases hw with
        | step h hw'=>rw[h]at hq;cases hq
        | last h=>
         have hkl:(if XV vs fs p then k+1 else k)=(Zv ⟨vs,m⟩ fs).length:=by
          have e:=congrArg List.length hk'.2
          rw[List.length_drop]at e
          have:=hk'.1
          simp at e
          omega
         rw[hkl]at hj2
         simp only[Exit.inBlock,Exit.then]
         refine bodyPost_ret (results_none (fn:=Tryz.f177) rfl _ _ _) hd3 ?_
         refine⟨⟨_,rfl⟩,Φ3,fun _=>False,.inl ?_⟩
         rw[List.length_map]
         exact(hJok _).step hj2 (Steps.of_good0 hg3)
      ·simp only[Exit.inBlock,Exit.then]
       refine bodyPost_ret (results_none (fn:=Tryz.f177) rfl _ _ _) hd2 ?_
       exact⟨⟨_,rfl⟩,Φ2,X,.inr hjx⟩
    ·exact(b9p hF).elim
   ·exact(b9p hF).elim
 ·cases hpre
end Go.Proofs.YtjfgiaooglnomaaGreatDoor
namespace Go.Proofs.YtjfgiaooglnomaaGreatDoor
open Go.Pl
open Enc (enc dec is)
open EncL (encL decL isL)
set_option maxRecDepth 100000
theorem OZ:Yu Tryz.prog 187 WC Jh:=FC (fun blk off cap ss w hH hb hs hc=>((Any.slices_Compact_string Tryz.lays194 blk off cap ss w hH (by omega) hc).mono fun e w' h=>⟨h.1,by obtain⟨q,rfl⟩:=h.2;exact⟨q,#[],by unfold Go.Sort.grow;rw[Array.append_empty];rfl⟩⟩)) (fun p cap w=>Any.slices_Compact_string_empty Tryz.lays194 p cap w)
theorem Dx:Yu Tryz.prog 117 Y1 XZ:=VI (T:=a6k) (ic:=LV) (rs:=Lm) Zm ZO Tryz.func117 (by kernel_rfl) (by kernel_rfl) (by kernel_rfl) c4h
theorem b3u{cd:Code}(h:WG Tryz.prog VU Tryz.f45 0=some cd):XQ Tryz.prog cd=some (.t 17,[18,19],[(8,18)],KE):=by
 have:(WG Tryz.prog VU Tryz.f45 0).bind (XQ Tryz.prog)=some (.t 17,[18,19],[(8,18)],KE):=by kernel_rfl
 rw[h]at this
 exact this
theorem d3j(hT:YC Tryz.prog Di): ∀ (B:Nat) (c:Ctx),c.w0.heap.size=B->(∀ i m,0<=i->c.μ0 i m=none)->Ob (Kl B 4 hT ZO) (fun n cd=>WG Tryz.prog VU Tryz.f45 n=some cd) gpE c:=by
 rintro B c hB hk n cd hcd st a w q hr ⟨rfl,hE⟩
 exact UM hT ZO UL (fun x=>rfl) (b3u hcd) hB hk hr hE
theorem a9h:YC Tryz.prog Di:=(Zb (Yf Tryz.func116 (by kernel_rfl) KA) (Zb (Yf Tryz.func117 (by kernel_rfl) Dx) Zm))
theorem FB:Zt Tryz.prog 45 (fun x:BoxT×List Fact×Unit=>ZJ x.1&&Zl x.2.1&&decide (x.2.1.length<=100)&&decide (x.1.v.length<=1000)) (fun x:BoxT×List Fact×Unit=>YQ x.1 x.2.1):=Zt.ofM (T:=Di) (ic:=BF) (rs:=Am) (E:=gpE) (sel:=VU) a9h ZO Tryz.func45 (by kernel_rfl) (by kernel_rfl) (by kernel_rfl) (d3j a9h) c9m
theorem OQ:Zt Tryz.prog 47 (fun x:BoxT×List Fact×Unit=>ZJ x.1&&Zl x.2.1&&decide (x.2.1.length<=100)&&decide (x.1.v.length<=1000)) (fun x:BoxT×List Fact×Unit=>Ak x.1 x.2.1):=Zt.of (T:=RG) (ic:=BQ) (rs:=AA) (Zb (Yf Tryz.func45 (by kernel_rfl) FB) Zm) ZO Tryz.func47 (by kernel_rfl) (by kernel_rfl) (by kernel_rfl) a3x
theorem b8a:Zt Tryz.prog 128 (fun _:Int×Int×Unit=>true) (fun x:Int×Int×Unit=>decide (x.1<x.2.1)):=Zt.of (T:=c2e) (ic:=a3p) (rs:=a4v) Zm ZO Tryz.func128 (by kernel_rfl) (by kernel_rfl) (by kernel_rfl) d1j
theorem c2h:Zt Tryz.prog 133 (fun _:Int×Int×Unit=>true) (fun x:Int×Int×Unit=>decide (x.1>x.2.1)):=Zt.of (T:=c7h) (ic:=a6i) (rs:=a6z) Zm ZO Tryz.func133 (by kernel_rfl) (by kernel_rfl) (by kernel_rfl) d4m
theorem a8u:Yu Tryz.prog 194 (WK 128) (VR lessB):=VI (T:=a6f) (ic:=SC) (rs:=FZ) (Zb (Yf Tryz.func128 (by kernel_rfl) b8a) Zm) ZO Tryz.func194 (by kernel_rfl) (by kernel_rfl) (by kernel_rfl) c6n
theorem a9w:Yu Tryz.prog 194 (WK 133) (VR moreB):=VI (T:=a5i) (ic:=LJ) (rs:=FN) (Zb (Yf Tryz.func133 (by kernel_rfl) c2h) Zm) ZO Tryz.func194 (by kernel_rfl) (by kernel_rfl) (by kernel_rfl) c4r
theorem EJ{cd:Code}(h:WG Tryz.prog VU Tryz.f127 0=some cd):XQ Tryz.prog cd=some (.t 31,[32,33],[(15,33)],Uf):=by
 have:(WG Tryz.prog VU Tryz.f127 0).bind (XQ Tryz.prog)=some (.t 31,[32,33],[(15,33)],Uf):=by kernel_rfl
 rw[h]at this
 exact this
theorem b2y(hT:YC Tryz.prog U7): ∀ (B:Nat) (c:Ctx),c.w0.heap.size=B->(∀ i m,0<=i->c.μ0 i m=none)->Ob (Kl B 4 hT ZO) (fun n cd=>WG Tryz.prog VU Tryz.f127 n=some cd) Dv c:=by
 rintro B c hB hk n cd hcd st a w q hr ⟨rfl,hE⟩
 exact UM hT ZO UL (fun x=>rfl) (EJ hcd) hB hk hr hE
theorem EH{cd:Code}(h:WG Tryz.prog VU Tryz.f127 0=some cd):XQ Tryz.prog cd=some (.t 31,[32,33],[(15,33)],Jo):=by
 have:(WG Tryz.prog VU Tryz.f127 0).bind (XQ Tryz.prog)=some (.t 31,[32,33],[(15,33)],Jo):=by kernel_rfl
 rw[h]at this
 exact this
theorem b6q(hT:YC Tryz.prog Qc): ∀ (B:Nat) (c:Ctx),c.w0.heap.size=B->(∀ i m,0<=i->c.μ0 i m=none)->Ob (Kl B 4 hT ZO) (fun n cd=>WG Tryz.prog VU Tryz.f127 n=some cd) DL c:=by
 rintro B c hB hk n cd hcd st a w q hr ⟨rfl,hE⟩
 exact UM hT ZO UL (fun x=>rfl) (EH hcd) hB hk hr hE
theorem MO:YC Tryz.prog U7:=(Zb (Yf Tryz.func73 (by kernel_rfl) Vf) (Zb (Yf Tryz.func174 (by kernel_rfl) c3s) (Zb (Yf Tryz.func116 (by kernel_rfl) KA) (Zb (Yf Tryz.func117 (by kernel_rfl) Dx) (Zb (Yf Tryz.func38 (by kernel_rfl) Qk) (Zb (Yf Tryz.func194 (by kernel_rfl) a8u) Zm))))))
theorem MU:YC Tryz.prog Qc:=(Zb (Yf Tryz.func73 (by kernel_rfl) Vf) (Zb (Yf Tryz.func174 (by kernel_rfl) b8f) (Zb (Yf Tryz.func116 (by kernel_rfl) a4p) (Zb (Yf Tryz.func117 (by kernel_rfl) Dx) (Zb (Yf Tryz.func38 (by kernel_rfl) Qk) (Zb (Yf Tryz.func194 (by kernel_rfl) a8u) Zm))))))
theorem b9q:Zt Tryz.prog 127 (fun x:BoxT×List Fact×Lin×FnV 128×Unit=>Yh x.1 x.2.1 x.2.2.1) (fun x:BoxT×List Fact×Lin×FnV 128×Unit=>YM lessB x.1 x.2.1 x.2.2.1):=Zt.or (fun x=>x.2.2.1.t.isEmpty)
 (Zt.ofM (T:=U7) (ic:=Uk) (rs:=Ja) (E:=Dv) (sel:=VU) MO ZO Tryz.func127 (by kernel_rfl) (by kernel_rfl) (by kernel_rfl) (b2y MO) b2k)
 (Zt.ofM (T:=Qc) (ic:=Jb) (rs:=K4) (E:=DL) (sel:=VU) MU ZO Tryz.func127 (by kernel_rfl) (by kernel_rfl) (by kernel_rfl) (b6q MU) b6w)
theorem AX:Zt Tryz.prog 58 (fun x:BoxT×List Fact×Lin×Unit=>Yh x.1 x.2.1 x.2.2.1) (fun x:BoxT×List Fact×Lin×Unit=>YM lessB x.1 x.2.1 x.2.2.1):=Zt.of (T:=a7v) (ic:=LY) (rs:=LG) (Zb (Yf Tryz.func127 (by kernel_rfl) b9q) Zm) ZO Tryz.func58 (by kernel_rfl) (by kernel_rfl) (by kernel_rfl) c6p
theorem EO{cd:Code}(h:WG Tryz.prog VU Tryz.f127 0=some cd):XQ Tryz.prog cd=some (.t 31,[32,33],[(15,33)],KV):=by
 have:(WG Tryz.prog VU Tryz.f127 0).bind (XQ Tryz.prog)=some (.t 31,[32,33],[(15,33)],KV):=by kernel_rfl
 rw[h]at this
 exact this
theorem b5r(hT:YC Tryz.prog U9): ∀ (B:Nat) (c:Ctx),c.w0.heap.size=B->(∀ i m,0<=i->c.μ0 i m=none)->Ob (Kl B 4 hT ZO) (fun n cd=>WG Tryz.prog VU Tryz.f127 n=some cd) Cf c:=by
 rintro B c hB hk n cd hcd st a w q hr ⟨rfl,hE⟩
 exact UM hT ZO UL (fun x=>rfl) (EO hcd) hB hk hr hE
theorem Ou{cd:Code}(h:WG Tryz.prog VU Tryz.f127 0=some cd):XQ Tryz.prog cd=some (.t 31,[32,33],[(15,33)],K6):=by
 have:(WG Tryz.prog VU Tryz.f127 0).bind (XQ Tryz.prog)=some (.t 31,[32,33],[(15,33)],K6):=by kernel_rfl
 rw[h]at this
 exact this
theorem b3n(hT:YC Tryz.prog U8): ∀ (B:Nat) (c:Ctx),c.w0.heap.size=B->(∀ i m,0<=i->c.μ0 i m=none)->Ob (Kl B 4 hT ZO) (fun n cd=>WG Tryz.prog VU Tryz.f127 n=some cd) D7 c:=by
 rintro B c hB hk n cd hcd st a w q hr ⟨rfl,hE⟩
 exact UM hT ZO UL (fun x=>rfl) (Ou hcd) hB hk hr hE
theorem NG:YC Tryz.prog U9:=(Zb (Yf Tryz.func73 (by kernel_rfl) Vf) (Zb (Yf Tryz.func174 (by kernel_rfl) c3s) (Zb (Yf Tryz.func116 (by kernel_rfl) KA) (Zb (Yf Tryz.func117 (by kernel_rfl) Dx) (Zb (Yf Tryz.func38 (by kernel_rfl) Qk) (Zb (Yf Tryz.func194 (by kernel_rfl) a9w) Zm))))))
theorem MF:YC Tryz.prog U8:=(Zb (Yf Tryz.func73 (by kernel_rfl) Vf) (Zb (Yf Tryz.func174 (by kernel_rfl) b8f) (Zb (Yf Tryz.func116 (by kernel_rfl) a4p) (Zb (Yf Tryz.func117 (by kernel_rfl) Dx) (Zb (Yf Tryz.func38 (by kernel_rfl) Qk) (Zb (Yf Tryz.func194 (by kernel_rfl) a9w) Zm))))))
theorem c2q:Zt Tryz.prog 127 (fun x:BoxT×List Fact×Lin×FnV 133×Unit=>Yh x.1 x.2.1 x.2.2.1) (fun x:BoxT×List Fact×Lin×FnV 133×Unit=>YM moreB x.1 x.2.1 x.2.2.1):=Zt.or (fun x=>x.2.2.1.t.isEmpty)
 (Zt.ofM (T:=U9) (ic:=Jg) (rs:=Jw) (E:=Cf) (sel:=VU) NG ZO Tryz.func127 (by kernel_rfl) (by kernel_rfl) (by kernel_rfl) (b5r NG) b5s)
 (Zt.ofM (T:=U8) (ic:=KU) (rs:=KX) (E:=D7) (sel:=VU) MF ZO Tryz.func127 (by kernel_rfl) (by kernel_rfl) (by kernel_rfl) (b3n MF) b7b)
theorem Tz:Zt Tryz.prog 62 (fun x:BoxT×List Fact×Lin×Unit=>Yh x.1 x.2.1 x.2.2.1) (fun x:BoxT×List Fact×Lin×Unit=>YM moreB x.1 x.2.1 x.2.2.1):=Zt.of (T:=a5l) (ic:=LP) (rs:=L8) (Zb (Yf Tryz.func127 (by kernel_rfl) c2q) Zm) ZO Tryz.func62 (by kernel_rfl) (by kernel_rfl) (by kernel_rfl) c5u
theorem c2o:Zt Tryz.prog 185 (fun x:Str×Unit=>decide (x.1.s.length<=281474976710656)) (fun x:Str×Unit=> !(ZH x.1)):=Zt.of (T:=a4m) (ic:=Fp) (rs:=FL) (Zb (Yf Tryz.func119 (by kernel_rfl) A7) Zm) ZO Tryz.func185 (by kernel_rfl) (by kernel_rfl) (by kernel_rfl) c2a
theorem c9f:Zt Tryz.prog 238 (fun x:List Str×FnV 185×Unit=>XW x.1) (fun x:List Str×FnV 185×Unit=>ZL (fun s:Str=> !(ZH s)) x.1):=Zt.of (T:=Pb) (ic:=Dy) (rs:=DZ) (Zb (Yf Tryz.func185 (by kernel_rfl) c2o) Zm) ZO Tryz.func238 (by kernel_rfl) (by kernel_rfl) (by kernel_rfl) d0r
theorem d1x:Zt Tryz.prog 175 (fun x:List Str×FnV 185×Unit=>XW x.1) (fun x:List Str×FnV 185×Unit=>x.1.any fun s:Str=> !(ZH s)):=Zt.of (T:=b9x) (ic:=a6r) (rs:=a5j) (Zb (Yf Tryz.func238 (by kernel_rfl) c9f) Zm) ZO Tryz.func175 (by kernel_rfl) (by kernel_rfl) (by kernel_rfl) d3t
theorem Nk:Zt Tryz.prog 283 (fun _:Str×Unit=>true) (fun _:Str×Unit=>false):=Zt.of (T:=a3b) (ic:=Lv) (rs:=Fv) Zm ZO Tryz.func283 (by kernel_rfl) (by kernel_rfl) (by kernel_rfl) c3m
theorem a0n:Zt Tryz.prog 244 (fun _:Str×Str×Unit=>true) (fun x:Str×Str×Unit=>decide (x.1.s<x.2.1.s)):=Zt.of (T:=FQ) (ic:=Ri) (rs:=RF) (Zb (Yf Tryz.func283 (by kernel_rfl) Nk) Zm) ZO Tryz.func244 (by kernel_rfl) (by kernel_rfl) (by kernel_rfl) b4i
theorem Ra:Zt Tryz.prog 245 (fun _:Str×Str×Unit=>true) (fun x:Str×Str×Unit=>Nc x.1 x.2.1):=Zt.of (T:=a4a) (ic:=Oj) (rs:=Oe) (Zb (Yf Tryz.func283 (by kernel_rfl) Nk) Zm) ZO Tryz.func245 (by kernel_rfl) (by kernel_rfl) (by kernel_rfl) c6y
theorem L9:Zt Tryz.prog 184 (fun x:List Str×Unit=>Zr x.1) (fun x:List Str×Unit=>Jn x.1):=Zt.of (T:=UY) (ic:=VV) (rs:=V3) (Zb (Yf Tryz.func244 (by kernel_rfl) a0n) Zm) ZO Tryz.func184 (by kernel_rfl) (by kernel_rfl) (by kernel_rfl) a1v
theorem P8:Zt Tryz.prog 186 (fun x:List Str×List Str×Unit=>Zr x.1&&Zr x.2.1) (fun x:List Str×List Str×Unit=>BL x.1 x.2.1):=Zt.of (T:=Kb) (ic:=UQ) (rs:=UZ) (Zb (Yf Tryz.func245 (by kernel_rfl) Ra) Zm) ZO Tryz.func186 (by kernel_rfl) (by kernel_rfl) (by kernel_rfl) a8a
theorem Qm:Zt Tryz.prog 122 (fun x:List Mono×Unit=>YD x.1) (fun x:List Mono×Unit=>Zx x.1):=Zt.of (T:=Ui) (ic:=V5) (rs:=WZ) (Zb (Yf Tryz.func184 (by kernel_rfl) L9) (Zb (Yf Tryz.func175 (by kernel_rfl) d1x) (Zb (Yf Tryz.func186 (by kernel_rfl) P8) Zm))) ZO Tryz.func122 (by kernel_rfl) (by kernel_rfl) (by kernel_rfl) a6a
theorem d9z:Yu Tryz.prog 123 KC LW:=VI (T:=WJ) (ic:=XT) (rs:=XN) (Zb (Yf Tryz.func122 (by kernel_rfl) Qm) (Zb (Yf Tryz.func154 (by kernel_rfl) EI) (Zb (Yf Tryz.func187 (by kernel_rfl) OZ) Zm))) ZO Tryz.func123 (by kernel_rfl) (by kernel_rfl) (by kernel_rfl) a4d
theorem d7s:Yu Tryz.prog 123 KC Le:=d9z.trunc fun args os h=>by
 unfold KC at h
 split at h
 ·rename_i a
  refine⟨rfl,9,(Lib.compact (XM (Qu a))).length,UG (XM (Qu a)),?_,?_,?_⟩
  ·rw[Ad];exact CY _
  ·show(AV.row 0 (XM (Qu a)).length 0 _,_,_)=_
   rw[Ad]
  ·have e:(UG (XM (Qu a))).take (Lib.compact (XM (Qu a))).length=Lib.compact (XM (Qu a)):=by unfold UG;exact List.take_left ..
   rw[e]
   show Gr (Yw (Qu a))=_
   unfold Gr Yw
   rw[List.length_map,List.map_map];rfl
 ·cases h
theorem d8z:Yu Tryz.prog 123 Gv Ta:=VI (T:=WJ) (ic:=XT) (rs:=XN) (Zb (Yf Tryz.func122 (by kernel_rfl) Qm) (Zb (Yf Tryz.func154 (by kernel_rfl) EI) (Zb (Yf Tryz.func187 (by kernel_rfl) OZ) Zm))) ZO Tryz.func123 (by kernel_rfl) (by kernel_rfl) (by kernel_rfl) a6v
theorem d7a:Yu Tryz.prog 188 CB SL:=VI (T:=b7p) (ic:=a5x) (rs:=a6t) Zm ZO Tryz.func188 (by kernel_rfl) (by kernel_rfl) (by kernel_rfl) d3y
theorem d7b:Yu Tryz.prog 109 (Qf 188) SY:=VI (T:=RO) (ic:=Dw) (rs:=D8) (Zb (Yf Tryz.func188 (by kernel_rfl) d7a) Zm) ZO Tryz.func109 (by kernel_rfl) (by kernel_rfl) (by kernel_rfl) d4n
theorem d3p:Zt Tryz.prog 284 (fun x:List Int×Int×Unit=>Zr x.1) (fun x:List Int×Int×Unit=>ZL (fun n:Int=>decide (x.2.1=n)) x.1):=Zt.of (T:=D6) (ic:=JJ) (rs:=JG) Zm ZO Tryz.func284 (by kernel_rfl) (by kernel_rfl) (by kernel_rfl) b9n
theorem b3s:Zt Tryz.prog 246 (fun x:List Int×Int×Unit=>Zr x.1) (fun x:List Int×Int×Unit=>x.1.contains x.2.1):=Zt.of (T:=Rv) (ic:=BH) (rs:=AC) (Zb (Yf Tryz.func284 (by kernel_rfl) d3p) Zm) ZO Tryz.func246 (by kernel_rfl) (by kernel_rfl) (by kernel_rfl) a7o
theorem TN:Zt Tryz.prog 189 (fun x:List Int×Unit=>Zr x.1) (fun x:List Int×Unit=>Xn x.1):=Zt.of (T:=KH) (ic:=Kk) (rs:=Qq) (Zb (Yf Tryz.func246 (by kernel_rfl) b3s) (Zb (Yf Tryz.func247 (by kernel_rfl) a7s) Zm)) ZO Tryz.func189 (by kernel_rfl) (by kernel_rfl) (by kernel_rfl) b5g
theorem AL:Zt Tryz.prog 125 (fun x:List Mono×List Coef×Unit=>YD x.1&&Zr x.2.1) (fun x:List Mono×List Coef×Unit=>Yq x.1 x.2.1):=Zt.of (T:=Z7) (ic:=ZV) (rs:=ZT) (Zb (Yf Tryz.func122 (by kernel_rfl) Qm) (Zb (Yf Tryz.func109 (by kernel_rfl) d7b) (Zb (Yf Tryz.func189 (by kernel_rfl) TN) (Zb (Yf Tryz.func190 (by kernel_rfl) a4f) Zm)))) ZO Tryz.func125 (by kernel_rfl) (by kernel_rfl) (by kernel_rfl) b3y
theorem c1j:Yu Tryz.prog 124 QM KJ:=VI (T:=Ol) (ic:=S9) (rs:=Ti) Zm ZO Tryz.func124 (by kernel_rfl) (by kernel_rfl) (by kernel_rfl) d2x
theorem O4{cd:Code}(h:WG Tryz.prog VU Tryz.f57 0=some cd):XQ Tryz.prog cd=some (.t 32,[33,34],[(13,34)],Um):=by
 have:(WG Tryz.prog VU Tryz.f57 0).bind (XQ Tryz.prog)=some (.t 32,[33,34],[(13,34)],Um):=by kernel_rfl
 rw[h]at this
 exact this
theorem b6m(hT:YC Tryz.prog Xl): ∀ (B:Nat) (c:Ctx),c.w0.heap.size=B->(∀ i m,0<=i->c.μ0 i m=none)->Ob (Kl B 4 hT ZO) (fun n cd=>WG Tryz.prog VU Tryz.f57 n=some cd) Uv c:=by
 rintro B c hB hk n cd hcd st a w q hr ⟨rfl,hE⟩
 exact UM hT ZO UL (fun x=>rfl) (O4 hcd) hB hk hr hE
theorem Ec{cd:Code}(h:WG Tryz.prog VU Tryz.f57 0=some cd):XQ Tryz.prog cd=some (.t 32,[33,34],[(13,34)],Qo):=by
 have:(WG Tryz.prog VU Tryz.f57 0).bind (XQ Tryz.prog)=some (.t 32,[33,34],[(13,34)],Qo):=by kernel_rfl
 rw[h]at this
 exact this
theorem b1w(hT:YC Tryz.prog Xk): ∀ (B:Nat) (c:Ctx),c.w0.heap.size=B->(∀ i m,0<=i->c.μ0 i m=none)->Ob (Kl B 4 hT ZO) (fun n cd=>WG Tryz.prog VU Tryz.f57 n=some cd) UC c:=by
 rintro B c hB hk n cd hcd st a w q hr ⟨rfl,hE⟩
 exact UM hT ZO UL (fun x=>rfl) (Ec hcd) hB hk hr hE
theorem Nt:YC Tryz.prog Xl:=(Zb (Yf Tryz.func122 (by kernel_rfl) Qm) (Zb (Yf Tryz.func123 (by kernel_rfl) d8z) (Zb (Yf Tryz.func116 (by kernel_rfl) KA) (Zb (Yf Tryz.func117 (by kernel_rfl) Dx) (Zb (Yf Tryz.func125 (by kernel_rfl) AL) (Zb (Yf Tryz.func124 (by kernel_rfl) c1j) (Zb (Yf Tryz.func126 (by kernel_rfl) TM) Zm)))))))
theorem Me:YC Tryz.prog Xk:=(Zb (Yf Tryz.func122 (by kernel_rfl) Qm) (Zb (Yf Tryz.func123 (by kernel_rfl) d7s) (Zb (Yf Tryz.func116 (by kernel_rfl) a4p) (Zb (Yf Tryz.func117 (by kernel_rfl) Dx) (Zb (Yf Tryz.func125 (by kernel_rfl) AL) (Zb (Yf Tryz.func124 (by kernel_rfl) c1j) (Zb (Yf Tryz.func126 (by kernel_rfl) TM) Zm)))))))
theorem MR:Zt Tryz.prog 57 (fun x:BoxT×List Fact×List Mono×Unit=>Kh x.1 x.2.1 x.2.2.1) (fun x:BoxT×List Fact×List Mono×Unit=>Xx x.1 x.2.1 x.2.2.1):=Zt.or (fun x=> !Zx x.2.2.1||(Ww x.2.2.1).isEmpty)
 (Zt.ofM (T:=Xl) (ic:=Xq) (rs:=XC) (E:=Uv) (sel:=VU) Nt ZO Tryz.func57 (by kernel_rfl) (by kernel_rfl) (by kernel_rfl) (b6m Nt) b4b)
 (Zt.ofM (T:=Xk) (ic:=XD) (rs:=XG) (E:=UC) (sel:=VU) Me ZO Tryz.func57 (by kernel_rfl) (by kernel_rfl) (by kernel_rfl) (b1w Me) (fun a h=>b3g a (by
  simp only[Bool.and_eq_true,Bool.not_eq_true',Bool.or_eq_false_iff,Bool.not_eq_false']at h ⊢
  exact h)))
theorem Dj:Zt Tryz.prog 51 (fun x:BoxT×Unit=>ZJ x.1) (fun x:BoxT×Unit=>Xd x.1):=Zt.of (T:=Ju) (ic:=UJ) (rs:=U3) (Zb (Yf Tryz.func84 (by kernel_rfl) Gp) Zm) ZO Tryz.func51 (by kernel_rfl) (by kernel_rfl) (by kernel_rfl) d1e
theorem Gh:Zt Tryz.prog 49 (fun x:BoxT×List Int×Unit=>decide (x.1.v.length<=1000)&&Zr x.2.1) (fun x:BoxT×List Int×Unit=>Zf x.1.v x.2.1):=Zt.of (T:=Y8) (ic:=YP) (rs:=YO) Zm ZO Tryz.func49 (by kernel_rfl) (by kernel_rfl) (by kernel_rfl) a7r
theorem d1l:Yu Tryz.prog 49 WM Qg:=c5q (T:=Y8) (ic:=YP) (rs:=YO) Zm ZO Tryz.func49 (by kernel_rfl) (by kernel_rfl) (by kernel_rfl) O6
theorem PY:Zt Tryz.prog 179 (fun x:BoxT×List Str×Unit=>Zr x.1.v&&Zr x.2.1) (fun x:BoxT×List Str×Unit=>Y7 x.1.v x.2.1):=Zt.of (T:=X8) (ic:=Xw) (rs:=Xz) Zm ZO Tryz.func179 (by kernel_rfl) (by kernel_rfl) (by kernel_rfl) a4g
theorem EB:Zt Tryz.prog 241 (fun x:Lin×Unit=>decide (x.1.t.length<=1000000)) (fun x:Lin×Unit=>Zd x.1):=Zt.of (T:=Uq) (ic:=Ve) (rs:=W9) Zm ZO Tryz.func241 (by kernel_rfl) (by kernel_rfl) (by kernel_rfl) a3l
theorem a1w:Zt Tryz.prog 240 (fun x:Lin×Str×Unit=>Zr x.1.t) (fun x:Lin×Str×Unit=>Yl x.1.t x.2.1.s):=Zt.of (T:=Q8) (ic:=U2) (rs:=UO) Zm ZO Tryz.func240 (by kernel_rfl) (by kernel_rfl) (by kernel_rfl) a4t
theorem a2f:Zt Tryz.prog 180 (fun x:List Lin×Unit=>Uh x.1) (fun x:List Lin×Unit=>QB x.1):=Zt.of (T:=X7) (ic:=Xy) (rs:=XB) (Zb (Yf Tryz.func240 (by kernel_rfl) a1w) (Zb (Yf Tryz.func89 (by kernel_rfl) AQ) (Zb (Yf Tryz.func241 (by kernel_rfl) EB) Zm))) ZO Tryz.func180 (by kernel_rfl) (by kernel_rfl) (by kernel_rfl) a3h
theorem a2x:Zt Tryz.prog 44 (fun x:BoxT×List Fact×Unit=>ZJ x.1&&Xu x.2.1) (fun x:BoxT×List Fact×Unit=>QA x.1 x.2.1):=Zt.of (T:=Uw) (ic:=UU) (rs:=Vk) (Zb (Yf Tryz.func51 (by kernel_rfl) Dj) (Zb (Yf Tryz.func31 (by kernel_rfl) a7d) Zm)) ZO Tryz.func44 (by kernel_rfl) (by kernel_rfl) (by kernel_rfl) a3w
theorem Fq:Zt Tryz.prog 195 (fun x:List Str×List Str×Unit=>Zr x.1&&Zr x.2.1) (fun x:List Str×List Str×Unit=>Wi x.1 x.2.1):=Zt.of (T:=Kg) (ic:=UN) (rs:=U4) Zm ZO Tryz.func195 (by kernel_rfl) (by kernel_rfl) (by kernel_rfl) a6b
theorem JE:Zt Tryz.prog 131 (fun x:List Mono×Unit=>Ya x.1) (fun x:List Mono×Unit=>Zx x.1):=Zt.of (T:=Kq) (ic:=UB) (rs:=VZ) (Zb (Yf Tryz.func195 (by kernel_rfl) Fq) (Zb (Yf Tryz.func84 (by kernel_rfl) Gp) Zm)) ZO Tryz.func131 (by kernel_rfl) (by kernel_rfl) (by kernel_rfl) d1o
theorem Oz:Zt Tryz.prog 181 (fun x:List Mono×Unit=>Ya x.1) (fun x:List Mono×Unit=>Y9 x.1):=Zt.of (T:=YL) (ic:=Yd) (rs:=Ye) (Zb (Yf Tryz.func131 (by kernel_rfl) JE) Zm) ZO Tryz.func181 (by kernel_rfl) (by kernel_rfl) (by kernel_rfl) b9s
theorem Qi:Zt Tryz.prog 118 (fun x:BoxT×List Fact×Lin×List Mono×Unit=>ZJ x.1&&Zl x.2.1&&decide (x.2.1.length<=100)&&Z9 x.2.2.1&&Ya x.2.2.2.1) (fun x:BoxT×List Fact×Lin×List Mono×Unit=>Zj x.1 x.2.1 (Zh x.2.2.1&&Zx x.2.2.2.1) (Zd x.2.2.1++Y9 x.2.2.2.1)):=Zt.of (T:=VB) (ic:=Vo) (rs:=Wz) (Zb (Yf Tryz.func51 (by kernel_rfl) Dj) (Zb (Yf Tryz.func35 (by kernel_rfl) Fz) (Zb (Yf Tryz.func20 (by kernel_rfl) J2) (Zb (Yf Tryz.func131 (by kernel_rfl) JE) (Zb (Yf Tryz.func180 (by kernel_rfl) a2f) (Zb (Yf Tryz.func179 (by kernel_rfl) PY) (Zb (Yf Tryz.func181 (by kernel_rfl) Oz) Zm))))))) ZO Tryz.func118 (by kernel_rfl) (by kernel_rfl) (by kernel_rfl) a4c
theorem Gl:Zt Tryz.prog 46 (fun x:BoxT×List Fact×Unit=>ZJ x.1&&Zl x.2.1&&decide (x.2.1.length<=100)&&decide (x.1.v.length<=1000)) (fun x:BoxT×List Fact×Unit=>YQ x.1 x.2.1):=Zt.of (T:=Y6) (ic:=YA) (rs:=Yz) (Zb (Yf Tryz.func118 (by kernel_rfl) Qi) (Zb (Yf Tryz.func49 (by kernel_rfl) d1l) (Zb (Yf Tryz.func53 (by kernel_rfl) Fg) Zm))) ZO Tryz.func46 (by kernel_rfl) (by kernel_rfl) (by kernel_rfl) c6b
theorem F4:Zt Tryz.prog 115 (fun _:Int×Int×Int×Unit=>true) (fun x:Int×Int×Int×Unit=>Hr x.1 x.2.1 x.2.2.1):=Zt.of (T:=Ah) (ic:=DI) (rs:=Dm) (Zb (Yf Tryz.func91 (by kernel_rfl) b4f) (Zb (Yf Tryz.func89 (by kernel_rfl) AQ) Zm)) ZO Tryz.func115 (by kernel_rfl) (by kernel_rfl) (by kernel_rfl) a2l
theorem a2q:Zt Tryz.prog 43 (fun _:Unit=>true) (fun _:Unit=>true):=Zt.of (T:=Ay) (ic:=Cq) (rs:=Dr) (Zb (Yf Tryz.func115 (by kernel_rfl) F4) (Zb (Yf Tryz.func47 (by kernel_rfl) OQ) (Zb (Yf Tryz.func58 (by kernel_rfl) AX) (Zb (Yf Tryz.func57 (by kernel_rfl) MR) (Zb (Yf Tryz.func50 (by kernel_rfl) H8) Zm))))) ZO Tryz.func43 (by kernel_rfl) (by kernel_rfl) (by kernel_rfl) a0e
end Go.Proofs.YtjfgiaooglnomaaGreatDoor
namespace Go.Proofs.YtjfgiaooglnomaaGreatDoor
open Go.Pl Go.RowKit
open Enc (enc dec is)
open EncL (encL decL isL)
set_option maxRecDepth 100000
theorem d8x(a b:Int):(Su a b,Sl a b)=a7u a b:=by
 unfold Su Sl a7u
 rw[Co,Co,Co]
 cases (YR a&&YR b&&YR (a+b)) <;> rfl
theorem a5g:Zt Tryz.prog 200 (fun _:Int×Int×Unit=>true) (fun x:Int×Int×Unit=>a7u x.1 x.2.1):=Y4 (by
  rintro⟨a,b,⟨⟩⟩ _ Φ w vs hL hΦ hv
  obtain⟨u,v,rfl,h1,h2⟩:=c4m hv
  rw[JQ h1,JQ h2]
  refine(c5h a b w).mono ?_
  rintro e w' ⟨rfl,rfl⟩
  exact⟨_,rfl,by rw[<- d8x];exact Ae,.refl _ _⟩)
theorem a4s:Zt Tryz.prog 198 (fun x:List Int×Unit=>decide (x.1.length<=60)) (fun x:List Int×Unit=>Xr x.1):=Y4 (by
  rintro⟨l,⟨⟩⟩ hp Φ w vs hL hΦ hv
  have hp:l.length<=60:=of_decide_eq_true hp
  obtain⟨u,rfl,h1⟩:=c0z hv
  obtain⟨A,c,rfl,hr⟩:=Cu hΦ h1
  refine(c3g A l.length c l w hr hp).mono ?_
  rintro e w' ⟨rfl,hb⟩
  exact⟨_,rfl,by rw[<- c7o];exact Ae,hb⟩)
end Go.Proofs.YtjfgiaooglnomaaGreatDoor
namespace Go.Proofs.YtjfgiaooglnomaaGreatDoor
open Go.Pl
open Enc (enc dec is)
open EncL (encL decL isL)
set_option maxRecDepth 100000
theorem a0j:Zt Tryz.prog 134 (fun x:List Mono×List Coef×Unit=>Ya x.1&&Zr x.2.1) (fun x:List Mono×List Coef×Unit=>Yq x.1 x.2.1):=Zt.of (T:=Z8) (ic:=ZQ) (rs:=ZP) (Zb (Yf Tryz.func131 (by kernel_rfl) JE) (Zb (Yf Tryz.func196 (by kernel_rfl) Mw) (Zb (Yf Tryz.func197 (by kernel_rfl) Rs) (Zb (Yf Tryz.func198 (by kernel_rfl) a4s) Zm)))) ZO Tryz.func134 (by kernel_rfl) (by kernel_rfl) (by kernel_rfl) c4i
theorem PZ:Zt Tryz.prog 135 (fun x:List Int×List Int×Unit=>decide (x.1.length<=10000)&&decide (x.2.1.length<=10000)&&x.1.all YR&&x.2.1.all YR) (fun x:List Int×List Int×Unit=>Xr (x.1++x.2.1)):=Zt.of (T:=JP) (ic:=QJ) (rs:=QK) (Zb (Yf Tryz.func199 (by kernel_rfl) a6y) (Zb (Yf Tryz.func197 (by kernel_rfl) Rs) (Zb (Yf Tryz.func200 (by kernel_rfl) a5g) Zm))) ZO Tryz.func135 (by kernel_rfl) (by kernel_rfl) (by kernel_rfl) c6u
theorem Db:Zt Tryz.prog 61 (fun x:BoxT×List Fact×Lin×Unit=>Yh x.1 x.2.1 x.2.2.1) (fun x:BoxT×List Fact×Lin×Unit=>YM lessB x.1 x.2.1 x.2.2.1):=Zt.of (T:=VC) (ic:=Vm) (rs:=WB) (Zb (Yf Tryz.func118 (by kernel_rfl) Qi) (Zb (Yf Tryz.func46 (by kernel_rfl) Gl) (Zb (Yf Tryz.func49 (by kernel_rfl) Gh) (Zb (Yf Tryz.func65 (by kernel_rfl) AO) Zm)))) ZO Tryz.func61 (by kernel_rfl) (by kernel_rfl) (by kernel_rfl) a6d
theorem Bu:Zt Tryz.prog 63 (fun x:BoxT×List Fact×Lin×Unit=>Yh x.1 x.2.1 x.2.2.1) (fun x:BoxT×List Fact×Lin×Unit=>YM moreB x.1 x.2.1 x.2.2.1):=Zt.of (T:=Pz) (ic:=Av) (rs:=Bv) (Zb (Yf Tryz.func118 (by kernel_rfl) Qi) (Zb (Yf Tryz.func66 (by kernel_rfl) M0) (Zb (Yf Tryz.func61 (by kernel_rfl) Db) Zm))) ZO Tryz.func63 (by kernel_rfl) (by kernel_rfl) (by kernel_rfl) a3k
theorem a2s:Zt Tryz.prog 64 (fun x:BoxT×List Fact×List Mono×Unit=>J3 x.1 x.2.1 x.2.2.1) (fun x:BoxT×List Fact×List Mono×Unit=>Xx x.1 x.2.1 x.2.2.1):=Zt.of (T:=U5) (ic:=Vb) (rs:=Va) (Zb (Yf Tryz.func118 (by kernel_rfl) Qi) (Zb (Yf Tryz.func46 (by kernel_rfl) Gl) (Zb (Yf Tryz.func49 (by kernel_rfl) Gh) (Zb (Yf Tryz.func134 (by kernel_rfl) a0j) (Zb (Yf Tryz.func135 (by kernel_rfl) PZ) Zm))))) ZO Tryz.func64 (by kernel_rfl) (by kernel_rfl) (by kernel_rfl) c3q
theorem a5s:Zt Tryz.prog 121 (fun x:List Mono×Int×Unit=>Ky x.1) (fun x:List Mono×Int×Unit=>Bn x.1 x.2.1):=Zt.of (T:=Qv) (ic:=VT) (rs:=VJ) Zm ZO Tryz.func121 (by kernel_rfl) (by kernel_rfl) (by kernel_rfl) c1i
theorem MX:Zt Tryz.prog 55 (fun x:Asked×Unit=>Hq x.1) (fun x:Asked×Unit=>KD x.1):=Zt.of (T:=PH) (ic:=BG) (rs:=Ai) (Zb (Yf Tryz.func16 (by kernel_rfl) Pq) (Zb (Yf Tryz.func121 (by kernel_rfl) a5s) Zm)) ZO Tryz.func55 (by kernel_rfl) (by kernel_rfl) (by kernel_rfl) a7b
theorem b7c:Zt Tryz.prog 11 (fun x:BoxT×List Fact×Asked×Unit=>ZJ x.1&&Xu x.2.1&&Hq x.2.2.1) (fun _:BoxT×List Fact×Asked×Unit=>true):=Zt.of (T:=TH) (ic:=Ar) (rs:=Az) (Zb (Yf Tryz.func43 (by kernel_rfl) a2q) (Zb (Yf Tryz.func44 (by kernel_rfl) a2x) (Zb (Yf Tryz.func55 (by kernel_rfl) MX) (Zb (Yf Tryz.func58 (by kernel_rfl) AX) (Zb (Yf Tryz.func61 (by kernel_rfl) Db) (Zb (Yf Tryz.func62 (by kernel_rfl) Tz) (Zb (Yf Tryz.func63 (by kernel_rfl) Bu) (Zb (Yf Tryz.func57 (by kernel_rfl) MR) (Zb (Yf Tryz.func64 (by kernel_rfl) a2s) Zm))))))))) ZO Tryz.func11 (by kernel_rfl) (by kernel_rfl) (by kernel_rfl) a7l
end Go.Proofs.YtjfgiaooglnomaaGreatDoor
namespace Go.Proofs.YtjfgiaooglnomaaGreatDoor
open Go.Pl
open Enc (enc dec is)
open EncL (encL decL isL)
set_option maxRecDepth 100000
end Go.Proofs.YtjfgiaooglnomaaGreatDoor
namespace Go.Proofs.YtjfgiaooglnomaaGreatDoor
open Go.Pl
open Enc (enc dec is)
open EncL (encL decL isL)
set_option maxRecDepth 100000
theorem SV:Tryz.prog.underlying 3=some (.int .i64):=by kernel_rfl
theorem d3v:Tryz.prog.underlying 4=some .bool:=by kernel_rfl
theorem b1d:Tryz.prog.underlying 9=some .string:=by kernel_rfl
theorem c5z:Tryz.prog.underlying 22=some (.slice 61):=by kernel_rfl
theorem c8l:Tryz.prog.underlying 52=some (.slice 100):=by kernel_rfl
theorem Tc:Tryz.prog.cellsOf 3=1:=by kernel_rfl
theorem c8w:Tryz.prog.cellsOf 4=1:=by kernel_rfl
theorem a9i:Tryz.prog.cellsOf 9=1:=by kernel_rfl
theorem b9t:Tryz.prog.cellsOf 22=1:=by kernel_rfl
theorem a0z:Tryz.prog.cellsOf 61=2:=by kernel_rfl
theorem R9:Tryz.prog.cellsOf 24=2:=by kernel_rfl
theorem OV:Tryz.prog.cellsOf 100=3:=by kernel_rfl
theorem d9j:XH Tryz.prog 61=true:=by kernel_rfl
theorem d8d:XH Tryz.prog 100=true:=by kernel_rfl
theorem d5r:XH Tryz.prog 52=false:=by kernel_rfl
theorem b8b:Qh Tryz.prog 61=some [(0,9),(1,3)]:=by kernel_rfl
theorem c3l:Qh Tryz.prog 24=some [(0,3),(1,22)]:=by kernel_rfl
theorem c5k:Qh Tryz.prog 100=some [(0,4),(1,24)]:=by kernel_rfl
theorem Ba{α:Type}[Enc α]{P:α->Prop}{f:List PV->PV}: ∀ {qs:List (List PV)},(∀ q∈qs,∃ a:α,f q=enc a∧P a)-> ∃ l:List α,qs.map f=l.map enc∧ ∀ a∈l,P a
 | [],_=>⟨[],rfl,fun a h=>by cases h⟩
 | q::qs,h=>by
  obtain⟨a,h1,h2⟩:=h q (by simp)
  obtain⟨l,h3,h4⟩:=Ba (qs:=qs) fun r hr=>h r (by simp[hr])
  refine⟨a::l,by rw[List.map_cons,List.map_cons,h1,h3],fun b hb=> ?_⟩
  rcases List.mem_cons.1 hb with rfl|hb
  ·exact h2
  ·exact h4 b hb
theorem Bi{α:Type}[Enc α]{f:List PV->PV}{qs:List (List PV)}{l:List α}(h:qs.map f=l.map enc):l.length=qs.length:=by
 have:=congrArg List.length h
 simpa using this.symm
theorem d3z{n:Nat}{q:List PV}(h:Qx Tryz.prog n 61 q): ∃ t:Coef,Jy Tryz.prog 61 q=enc t∧True:=by
 obtain⟨m,_,hl,h0,h1,_⟩:=Ho b8b a0z h
 match q,hl with
 | [a,b],_=>
  rw[a9i]at h0
  rw[Tc]at h1
  obtain⟨o,e0,w0⟩:=c0r b1d h0
  obtain⟨k,e1,w1⟩:=a2e SV h1
  simp at e0 e1
  subst e0 e1
  exact⟨⟨⟨o⟩,k⟩,by rw[Jy,d9j];rfl,trivial⟩
theorem d0n{n:Nat}{q:List PV}(h:Qx Tryz.prog n 22 q): ∃ l:List Coef,q=[enc l]∧l.length<=9223372036854775807:=by
 obtain⟨m,_,qs,rfl,hl,hq⟩:=Pe c5z a0z h
 obtain⟨l,e,_⟩:=Ba (α:=Coef) (P:=fun _=>True) (f:=Jy Tryz.prog 61) fun x hx=>d3z (hq x hx).2
 have hl:qs.length<=9223372036854775807:=hl
 exact⟨l,by rw[e];rfl,by rw[Bi e];exact hl⟩
theorem b1n{n:Nat}{a b:PV}(h:Qx Tryz.prog n 24 [a,b]): ∃ l:Lin,a=enc l.k∧b=enc l.t∧Z9 l=true:=by
 obtain⟨m,_,hl,h0,h1,_⟩:=Ho c3l R9 h
 rw[Tc]at h0
 rw[b9t]at h1
 obtain⟨o,e0,w0⟩:=a2e SV h0
 obtain⟨t,e1,l1⟩:=d0n h1
 simp at e0 e1
 subst e0 e1
 exact⟨⟨o,t⟩,rfl,rfl,by simp only[Z9];exact decide_eq_true l1⟩
theorem b1v{n:Nat}{q:List PV}(h:Qx Tryz.prog n 100 q): ∃ f:Fact,Jy Tryz.prog 100 q=enc f∧Z9 f.l=true:=by
 obtain⟨m,_,hl,h0,h1,_⟩:=Ho c5k OV h
 match q,hl with
 | [a,b,c],_=>
  rw[c8w]at h0
  rw[R9]at h1
  obtain⟨o,e0⟩:=b6p d3v h0
  obtain⟨l,e1,e2,h2⟩:=b1n (a:=b) (b:=c) h1
  simp at e0
  subst e0 e1 e2
  exact⟨⟨o,l⟩,by rw[Jy,d8d];rfl,h2⟩
theorem a6m{n:Nat}{q:List PV}(h:Qx Tryz.prog n 52 q): ∃ l:List Fact,Jy Tryz.prog 52 q=enc l∧l.length<=9223372036854775807∧ ∀ f∈l,Z9 f.l=true:=by
 obtain⟨m,_,qs,rfl,hl,hq⟩:=Pe c8l OV h
 obtain⟨l,e,hk⟩:=Ba (α:=Fact) (P:=fun f=>Z9 f.l=true) (f:=Jy Tryz.prog 100) fun x hx=>b1v (hq x hx).2
 have hl:qs.length<=9223372036854775807:=hl
 exact⟨l,by rw[Jy,d5r,e];rfl,by rw[Bi e];exact hl,hk⟩
end Go.Proofs.YtjfgiaooglnomaaGreatDoor
namespace Go.Pl
open Go.RowKit Go.WideShapes Go.ChangeShapes
def Xb(P:Program):Nat->TypeId->List PV->Prop
 | 0,_,_=>False
 | n+1,t,ps=>match P.underlying t with
  | some .bool=> ∃ b,ps=[.bool b]
  | some (.int k)=> ∃ m,ps=[.int k m]∧(Lit.int k m).wf=true
  | some .string=> ∃ s:List UInt8,ps=[.str s]∧s.length<=reachBytes
  | some (.slice e)=> ∃ qs:List (List PV),ps=[.sl (P.cellsOf e) false (qs.map (Jy P e))]∧qs.length*P.bytesOf e<=reachBytes∧qs.length<=maxLen∧ ∀ q∈qs,q.length=P.cellsOf e∧Xb P n e q
  | some (.struct fs)=>ps.length=P.cellsOf t∧ ∀ f∈fs.toList,Xb P n f.type ((ps.drop f.offset).take (P.cellsOf f.type))
  | some (.array m e)=>ps.length=P.cellsOf t∧ ∀ i<m,Xb P n e ((ps.drop (i*P.cellsOf e)).take (P.cellsOf e))
  | _=>False
theorem D9{P:Program}: ∀ (n:Nat) (t:TypeId) (ps:List PV),Xb P n t ps->Qx P n t ps:=by
 intro n
 induction n with
 | zero=>intro t ps h;exact h
 | succ n ih=>
  intro t ps h
  unfold Xb at h
  unfold Qx
  split at h <;> (try rename_i hu) <;> (try simp only[hu]) <;> try (exact h.elim)
  ·exact h
  ·exact h
  ·obtain⟨s,h1,h2⟩:=h
   exact⟨s,h1,Nat.le_trans h2 (by decide)⟩
  ·obtain⟨qs,h1,h2,h3,h4⟩:=h
   exact⟨qs,h1,h3,fun q hq=>⟨(h4 q hq).1,ih _ _ (h4 q hq).2⟩⟩
  ·exact⟨h.1,fun f hf=>ih _ _ (h.2 f hf)⟩
  ·exact⟨h.1,fun i hi=>ih _ _ (h.2 i hi)⟩
def wok{H:Type}(P:Program)(t:TypeId)(d:DataW H):Prop:= ∀ n∈d.weights P t,n<=reachBytes
theorem Oc{H:Type}{P:Program}{e:TypeId}: ∀ {l:List (DataW H)},(∀ n∈DataW.weightsAll P e l,n<=reachBytes)-> ∀ d∈l,wok P e d
 | [],_,d,h=>by cases h
 | d::l,hw,x,h=>by
  have h1:DataW.weightsAll P e (d::l)=d.weights P e++DataW.weightsAll P e l:=by rw[DataW.weightsAll]
  rw[h1]at hw
  rcases List.mem_cons.1 h with rfl|h
  ·exact fun n hn=>hw n (List.mem_append_left _ hn)
  ·exact Oc (fun n hn=>hw n (List.mem_append_right _ hn)) x h
section
variable {H:Type} {enc:TypeId×Value->H} {P:Program} {w:World} {base:Nat} {sp:Nat->Bool} {held:Bool} {S:List TypeId}
theorem FY{n:Nat}{cs:List Value}(ih : ∀ (t:TypeId) (cs:List Value) (x:DataW H×List MemPlace),t∈S->DataW.trod enc P w base sp held n t cs=some x->wok P t x.1-> ∃ ps,Cl w cs ps∧Xb P n t ps):
  ∀ (fs:List Field) (o N:Nat) (xs:List (DataW H×List MemPlace)),JO P o fs N=true->(∀ f∈fs,f.type∈S)->cs.length=N->o<=N ->
   fs.mapM (fun f=>DataW.trod enc P w base sp held n f.type ((cs.drop f.offset).take (P.cellsOf f.type)))=some xs->(∀ k∈DataW.weightsEach P (fs.map (·.type)) (xs.map (·.1)),k<=reachBytes) ->
   ∃ ps,Cl w (cs.drop o) ps∧ ∀ qs:List PV,qs.length=o-> ∀ f∈fs,Xb P n f.type (((qs++ps).drop f.offset).take (P.cellsOf f.type)):=by
 intro fs
 induction fs with
 | nil=>
  intro o N xs hc _ hl ho _ _
  simp[JO]at hc
  refine⟨[],?_,fun qs _ f hf=>by simp at hf⟩
  rw[List.drop_of_length_le (by omega)]
  exact Cl.nil
 | cons f fs ihf=>
  intro o N xs hc hm hl ho h hW
  simp only[JO,Bool.and_eq_true,beq_iff_eq]at hc
  obtain⟨hfo,hc⟩:=hc
  simp only[List.mapM_cons,Option.bind_eq_bind,Option.bind_eq_some_iff]at h
  obtain⟨x,hx,xs',hxs,e⟩:=h
  cases e
  have hE:DataW.weightsEach P ((f::fs).map (·.type)) ((x::xs').map (·.1))=x.1.weights P f.type++DataW.weightsEach P (fs.map (·.type)) (xs'.map (·.1)):=by rw[List.map_cons,List.map_cons,DataW.weightsEach]
  rw[hE]at hW
  obtain⟨p1,k1,k2⟩:=ih _ _ x (hm f List.mem_cons_self) hx (fun k hk=>hW k (List.mem_append_left _ hk))
  have hle:o+P.cellsOf f.type<=N:=by
   have : ∀ (fs:List Field) (a:Nat),JO P a fs N=true->a<=N:=by
    intro fs
    induction fs with
    | nil=>intro a h;simp[JO]at h;omega
    | cons g fs ih=>intro a h;simp only[JO,Bool.and_eq_true]at h;have:=ih _ h.2;omega
   exact this _ _ hc
  obtain⟨p2,k3,k4⟩:=ihf (o+P.cellsOf f.type) N xs' hc (fun g hg=>hm g (List.mem_cons_of_mem _ hg)) hl hle hxs (fun k hk=>hW k (List.mem_append_right _ hk))
  have hp1:p1.length=P.cellsOf f.type:=by
   rw[<- k1.1.1,List.length_take,List.length_drop,hfo]
   omega
  refine⟨p1++p2,?_,fun qs hq g hg=> ?_⟩
  ·have:=k1.append k3
   rw[hfo]at this
   have e:cs.drop o=(cs.drop o).take (P.cellsOf f.type)++cs.drop (o+P.cellsOf f.type):=by rw[<- List.drop_drop,List.take_append_drop]
   rw[e]
   exact this
  ·rcases List.mem_cons.1 hg with rfl|hg
   ·rw[hfo,<- hq,List.drop_left,<- hp1,List.take_left]
    exact k2
   ·have:=k4 (qs++p1) (by simp[hq,hp1]) g hg
    rwa [List.append_assoc]at this
theorem Ls{n m sz:Nat}{e:TypeId}(he:P.cellsOf e=sz){cs:List Value}(ih : ∀ i,i<m-> ∃ ps,Cl w ((cs.drop (i*sz)).take sz) ps∧Xb P n e ps)(hl:cs.length=m*sz):
  ∃ ps,Cl w cs ps∧ ∀ i<m,Xb P n e ((ps.drop (i*sz)).take sz):=by
 induction m generalizing cs with
 | zero=>
  have:cs=[]:=List.length_eq_zero_iff.1 (by omega)
  subst this
  exact⟨[],Cl.nil,fun i h=>by omega⟩
 | succ m ihm=>
  obtain⟨p1,k1,k2⟩:=ih 0 (by omega)
  simp only[Nat.zero_mul,List.drop_zero]at k1
  have hl1:p1.length=sz:=by
   rw[<- k1.1.1,List.length_take,hl,Nat.succ_mul]
   omega
  obtain⟨p2,k3,k4⟩:=ihm (cs:=cs.drop sz) (fun i hi=>by
   have:=ih (i+1) (by omega)
   rwa [Nat.succ_mul,Nat.add_comm,<- List.drop_drop]at this) (by rw[List.length_drop,hl,Nat.succ_mul];omega)
  refine⟨p1++p2,by have:=k1.append k3;rwa [List.take_append_drop]at this,fun i hi=> ?_⟩
  cases i with
  | zero=>
   simp only[Nat.zero_mul,List.drop_zero]
   rw[<- hl1,List.take_left]
   exact k2
  | succ i=>
   have:=k4 i (by omega)
   have e2:(p1++p2).drop ((i+1)*sz)=p2.drop (i*sz):=by
    rw[Nat.succ_mul,Nat.add_comm,<- List.drop_drop]
    congr 1
    rw[<- hl1,List.drop_left]
   rwa [e2]
theorem OJ{n:Nat}{e:TypeId}{a:Addr}{len cap:Nat}{xs:List (DataW H×List MemPlace)}(hsz:0<P.cellsOf e)(hag:XH P e=true∨P.cellsOf e=1)(hcap:len<=cap)(hmax:cap<=maxLen)
  (ih : ∀ (cs:List Value) (x:DataW H×List MemPlace),DataW.trod enc P w base sp held n e cs=some x->wok P e x.1-> ∃ ps,Cl w cs ps∧Xb P n e ps)
  (h:(List.range len).mapM (fun i=>(w.cells? base (a.add (i*P.cellsOf e)) (P.cellsOf e)).bind (DataW.trod enc P w base sp held n e))=some xs) (hW : ∀ x∈xs,wok P e x.1) (hB:xs.length*P.bytesOf e<=reachBytes) :
  ∃ qs:List (List PV),RP (PR w) (.slice (some a) len cap) (.sl (P.cellsOf e) false (qs.map (Jy P e)))∧qs.length*P.bytesOf e<=reachBytes∧qs.length<=maxLen∧ ∀ q∈qs,q.length=P.cellsOf e∧Xb P n e q:=by
 obtain⟨hl,hg⟩:=Pk h
 rw[List.length_range]at hl
 have key : ∀ i,i<len-> ∃ q:List PV,(q.length=P.cellsOf e∧Xb P n e q)∧ ∀ (r:Nat) p,q[r]? = some p-> ∃ v,w.cell? (a.add (i*P.cellsOf e+r))=some v∧v.oneCell'=true∧RP (PR w) v p:=by
  intro i hi
  have hx:=List.getElem?_eq_getElem (show i<xs.length by omega)
  have:=hg i i _ (by simp[hi]) hx
  rw[Option.bind_eq_some_iff]at this
  obtain⟨cs,h1,h2⟩:=this
  obtain⟨q,k1,k2⟩:=ih cs _ h2 (hW _ (List.getElem_mem _))
  obtain⟨c1,c2⟩:=b2c h1
  refine⟨q,⟨by rw[<- k1.1.1,c1],k2⟩,fun r p hp=> ?_⟩
  have hr:r<cs.length:=by rw[k1.1.1];exact(List.getElem?_eq_some_iff.1 hp).1
  have hv:=List.getElem?_eq_getElem hr
  refine⟨_,?_,k1.2 _ (List.getElem_mem hr),k1.1.2 r _ p hv hp⟩
  rw[<- b4p]
  exact c2 r _ hv
 obtain⟨qs,hq1,hq2⟩:=Ov len key
 have hcells : ∀ q∈qs,(Jy P e q).cells=q:=by
  intro q hq
  obtain⟨i,hi,rfl⟩:=List.getElem_of_mem hq
  have:=(hq2 i _ (List.getElem?_eq_getElem hi)).1
  exact b4w hag this.1 fun ha=>c7x (D9 _ _ _ this.2) ha
 refine⟨qs,?_,by rw[hq1,<- hl];exact hB,by omega,fun q hq=> ?_⟩
 ·by_cases h0:len=0
  ·subst h0
   have:qs=[]:=List.length_eq_zero_iff.1 hq1
   subst this
   exact .sl0 _ _ _ _ fun e=>by cases e
  ·-- the first cell tells the block
   obtain⟨b,off,cs,rfl,hb,-⟩ : ∃ b off cs,a=⟨b,off,none⟩∧PR w b=some cs∧True:=by
    have hq0:=List.getElem?_eq_getElem (show 0<qs.length by omega)
    obtain⟨⟨f1,f2⟩,f3⟩:=hq2 0 _ hq0
    have hp:=List.getElem?_eq_getElem (show 0<(qs[0]'(by omega)).length by omega)
    obtain⟨v,hv,_⟩:=f3 0 _ hp
    simp[Addr.add]at hv
    obtain⟨b,off,cs,e1,e2,_⟩:=Mo hv
    exact⟨b,off,cs,e1,e2,trivial⟩
   have hs : ∀ x∈qs.map (Jy P e),x.cells.length=P.cellsOf e:=by
    intro x hx
    obtain⟨q,hq,rfl⟩:=List.mem_map.1 hx
    rw[hcells q hq]
    obtain⟨i,hi,rfl⟩:=List.getElem_of_mem hq
    exact(hq2 i _ (List.getElem?_eq_getElem hi)).1.1
   have hat : ∀ (j:Nat) p,(flat (qs.map (Jy P e)))[j]? = some p-> ∃ v,cs[off+j]? = some v∧v.oneCell'=true∧RP (PR w) v p:=by
    intro j p hp
    have hj:j<len*P.cellsOf e:=by
     have:=(List.getElem?_eq_some_iff.1 hp).1
     rw[V4 hs]at this
     simpa [hq1]using this
    have hi:j / P.cellsOf e<qs.length:=by rw[hq1];exact(Nat.div_lt_iff_lt_mul hsz).2 hj
    have hr:j % P.cellsOf e<P.cellsOf e:=Nat.mod_lt _ hsz
    have hqi:=List.getElem?_eq_getElem hi
    have e0:j=j / P.cellsOf e*P.cellsOf e+j % P.cellsOf e:=by rw[Nat.mul_comm];exact(Nat.div_add_mod _ _).symm
    have hxi:(qs.map (Jy P e))[j / P.cellsOf e]? = some (Jy P e qs[j / P.cellsOf e]):=by rw[List.getElem?_map,hqi];rfl
    have hfg:=a2t hs hxi hr
    rw[<- e0,hcells _ (List.getElem_mem hi)]at hfg
    rw[hfg]at hp
    obtain⟨v,hv,h1,h2⟩:=(hq2 _ _ hqi).2 _ p hp
    rw[<- e0,WF]at hv
    obtain⟨b',off',cs',e1,e2,e3⟩:=Mo hv
    cases e1
    rw[hb]at e2
    cases e2
    exact⟨v,e3,h1,h2⟩
   have hlen:len=(qs.map (Jy P e)).length:=by simp[hq1]
   rw[hlen]
   refine .sl b off cs cap _ false _ (fun j=>(cs[off+j]?).getD default) hb (by rw[<- hlen];exact hcap) (fun e=>by cases e) hs (fun j p hp=> ?_) (fun j p hp=> ?_)
   ·obtain⟨v,h1,h2,h3⟩:=hat j p hp
    rw[h1]
    exact⟨rfl,h2⟩
   ·obtain⟨v,h1,h2,h3⟩:=hat j p hp
    rw[h1]
    exact h3
 ·obtain⟨i,hi,rfl⟩:=List.getElem_of_mem hq
  exact(hq2 i _ (List.getElem?_eq_getElem hi)).1
theorem a3a(hS:Fy P S=true): ∀ (n:Nat) (t:TypeId) (cs:List Value) (x:DataW H×List MemPlace),t∈S->DataW.trod enc P w base sp held n t cs=some x->wok P t x.1-> ∃ ps,Cl w cs ps∧Xb P n t ps:=by
  intro n
  induction n with
  | zero=>intro t cs x _ h _;simp[DataW.trod]at h
  | succ n ih=>
    intro t cs x ht h hW
    have hp:=NC hS ht
    unfold DataW.trod at h
    unfold Xb
    split at h <;> (try rename_i hu) <;> (try simp only[hu]at hp ⊢) <;> try (cases hp;done)
    all_goals first
      | (exact⟨_,Cl.one (.bool _) rfl,_,rfl⟩)
      | (split at h
         · rename_i hc
           obtain⟨rfl,hw⟩:=hc
           exact⟨_,Cl.one (.int _ _) rfl,_,rfl,hw⟩
         · cases h)
      | (split at h
         · rename_i hc
           cases h
           exact⟨_,Cl.one (.str _) rfl,_,rfl,hW _ (by rw[DataW.weights];exact List.mem_singleton.2 rfl)⟩
         · cases h)
      | (cases h;done)
      | skip
    · exact⟨_,Cl.one (.sl0 _ _ _ false (fun e=>by cases e)) rfl,[],rfl,by simp,by simp,fun q hq=>by simp at hq⟩
    · rename_i e a len cap
      simp only[Bool.and_eq_true,Bool.or_eq_true,beq_iff_eq,decide_eq_true_eq]at hp
      simp only at h
      split at h
      · rename_i hc
        obtain⟨xs,h1,h3⟩:=Option.bind_eq_some_iff.1 h
        obtain⟨ys,h4,rfl⟩:=Option.map_eq_some_iff.1 h3
        have hE:DataW.weights P t (DataW.slice (xs.map (·.1)) (ys.map (·.1)):DataW H)=((xs.map (·.1)).length+(ys.map (·.1)).length)*P.bytesOf e::(DataW.weightsAll P e (xs.map (·.1))++DataW.weightsAll P e (ys.map (·.1))):=by
          rw[DataW.weights];simp only[hu]
        have hW' : ∀ k∈((xs.map (·.1)).length+(ys.map (·.1)).length)*P.bytesOf e::(DataW.weightsAll P e (xs.map (·.1))++DataW.weightsAll P e (ys.map (·.1))),k<=reachBytes:=by rw[<- hE];exact hW
        have hB:xs.length*P.bytesOf e<=reachBytes:=by
          have h5:=hW' _ List.mem_cons_self
          rw[List.length_map,List.length_map]at h5
          exact Nat.le_trans (Nat.mul_le_mul_right _ (Nat.le_add_right _ _)) h5
        have hA : ∀ x∈xs,wok P e x.1:=fun x hx=>Oc (fun k hk=>hW' k (List.mem_cons_of_mem _ (List.mem_append_left _ hk))) x.1 (List.mem_map.2 ⟨x,hx,rfl⟩)
        obtain⟨qs,k1,k2,k2',k3⟩:=OJ hp.1.2 hp.2 hc.2.1 hc.2.2 (fun cs x hx hw=>ih e cs x (by simpa using hp.1.1.2) hx hw) h1 hA hB
        exact⟨_,Cl.one k1 rfl,qs,rfl,k2,k2',k3⟩
      · cases h
    · rename_i cs2 fs
      simp only[Bool.and_eq_true]at hp
      split at h
      · rename_i hc
        rw[Option.map_eq_some_iff]at h
        obtain⟨xs,h1,rfl⟩:=h
        have hE:DataW.weights P t (DataW.agg (xs.map (·.1)):DataW H)=DataW.weightsEach P (fs.toList.map (·.type)) (xs.map (·.1)):=by
          rw[DataW.weights];simp only[hu]
        have hW' : ∀ k∈DataW.weightsEach P (fs.toList.map (·.type)) (xs.map (·.1)),k<=reachBytes:=by rw[<- hE];exact hW
        obtain⟨ps,k1,k2⟩:=FY ih fs.toList 0 (P.cellsOf t) xs hp.1 (fun f hf=>by simpa using List.all_eq_true.1 hp.2 f hf) hc (Nat.zero_le _) h1 hW'
        rw[List.drop_zero]at k1
        exact⟨ps,k1,by rw[<- k1.1.1,hc],fun f hf=>by simpa using k2 [] rfl f hf⟩
      · cases h
    · rename_i cs1 _ cs2 m e
      simp only[Bool.and_eq_true,beq_iff_eq]at hp
      split at h
      · rename_i hc
        rw[Option.map_eq_some_iff]at h
        obtain⟨xs,h1,rfl⟩:=h
        have hE:DataW.weights P t (DataW.agg (xs.map (·.1)):DataW H)=DataW.weightsAll P e (xs.map (·.1)):=by
          rw[DataW.weights];simp only[hu]
        have hW' : ∀ k∈DataW.weightsAll P e (xs.map (·.1)),k<=reachBytes:=by rw[<- hE];exact hW
        obtain⟨hl,hg⟩:=Pk h1
        rw[List.length_range]at hl
        obtain⟨ps,k1,k2⟩:=Ls (n:=n) (m:=m) (e:=e) rfl (cs:=cs1) (fun i hi=>by
          have hx:=List.getElem?_eq_getElem (show i<xs.length by omega)
          exact ih e _ _ (by simpa using hp.1) (hg i i _ (by simp[hi]) hx) (Oc hW' _ (List.mem_map.2 ⟨_,List.getElem_mem (show i<xs.length by omega),rfl⟩))) (by rw[hc,hp.2])
        exact⟨ps,k1,by rw[<- k1.1.1,hc],k2⟩
      · cases h
theorem Ap(hS:Fy P S=true){t:TypeId}(ht:t∈S){r:Reach}{b0:Nat}{v:Value}{d:DataW H}{p:List MemPlace}(hval:Value.okWide P w r b0 t v)(h:DataW.Trod enc P w base sp held t v d p)(hW:wok P t d):
  ∃ n q,RP (PR w) v (Jy P t q)∧Xb P n t q:=by
 obtain⟨n,h⟩:=h
 obtain⟨q,k1,k2⟩:=a3a hS n t _ _ ht h hW
 refine⟨n,q,?_,k2⟩
 have hp:=NC hS ht
 have scal:v.cells = #[v]->XH P t=false->RP (PR w) v (Jy P t q):=by
  intro hc ha
  rw[hc]at k1
  have hl:=k1.1.1
  match q,hl with
  | [x],_=>simp only[Jy,ha,List.headD_cons];exact k1.1.2 0 v x rfl rfl
 have agg : ∀ cs,v = .agg cs->XH P t=true->RP (PR w) v (Jy P t q):=by
  rintro cs rfl ha
  simp only[Jy,ha]
  exact .agg cs q (by have:=k1.1.1;simpa [Value.cells]using this) (fun x hx=>k1.2 x (by simpa [Value.cells]using hx)) fun j x y hx hy=>k1.1.2 j x y (by simpa [Value.cells]using hx) hy
 split at hp
 ·rename_i hu
  obtain⟨b,rfl⟩:=okWide_bool hu hval
  exact scal rfl (by simp[XH,hu])
 ·rename_i hu
  obtain⟨b,rfl⟩:=okWide_int hu hval
  exact scal rfl (by simp[XH,hu])
 ·rename_i hu
  obtain⟨b,rfl⟩:=okWide_string hu hval
  exact scal rfl (by simp[XH,hu])
 ·rename_i hu
  obtain⟨a,l,c,rfl⟩:=okWide_slice hu hval
  exact scal rfl (by simp[XH,hu])
 ·rename_i hu
  simp only[Value.okWide,hu]at hval
  obtain⟨cs,rfl,_⟩:=hval
  exact agg cs rfl (by simp[XH,hu])
 ·rename_i hu
  simp only[Value.okWide,hu]at hval
  obtain⟨cs,rfl,_⟩:=hval
  exact agg cs rfl (by simp[XH,hu])
 ·cases hp
end
section
variable {P:Program}
def c4x(P:Program)(n:Nat)(q:List PV):List (Nat×TypeId)->Prop
 | []=>True
 | (o,t)::r=>Xb P n t ((q.drop o).take (P.cellsOf t))∧c4x P n q r
theorem JC{n c:Nat}{t:TypeId}{q:List PV}{l:List (Nat×TypeId)}(hs:Qh P t=some l)(hc:P.cellsOf t=c)(h:Xb P n t q): ∃ m,n=m+1∧q.length=c∧c4x P m q l:=by
 cases n with
 | zero=>exact h.elim
 | succ m=>
  unfold Qh at hs
  split at hs
  ·rename_i fs hu
   cases hs
   simp only[Xb,hu]at h
   refine⟨m,rfl,by rw[h.1,hc],?_⟩
   have key : ∀ l:List Field,(∀ f∈l,Xb P m f.type ((q.drop f.offset).take (P.cellsOf f.type)))->c4x P m q (l.map fun f=>(f.offset,f.type)):=by
    intro l
    induction l with
    | nil=>intro _;trivial
    | cons f l ih=>intro h;exact⟨h f List.mem_cons_self,ih fun g hg=>h g (List.mem_cons_of_mem _ hg)⟩
   exact key _ h.2
  ·cases hs
theorem MM{n:Nat}{t:TypeId}{k:IntKind}{q:List PV}(hu:P.underlying t=some (.int k))(h:Xb P n t q): ∃ m,q=[.int k m]∧(Lit.int k m).wf=true:=by
 cases n with
 | zero=>exact h.elim
 | succ m=>simpa only[Xb,hu]using h
theorem b7d{n:Nat}{t:TypeId}{q:List PV}(hu:P.underlying t=some .string)(h:Xb P n t q): ∃ s:List UInt8,q=[.str s]∧s.length<=reachBytes:=by
 cases n with
 | zero=>exact h.elim
 | succ m=>simpa only[Xb,hu]using h
theorem AR{n c:Nat}{t e:TypeId}{q:List PV}(hu:P.underlying t=some (.slice e))(hc:P.cellsOf e=c)(h:Xb P n t q): ∃ m,n=m+1∧ ∃ qs:List (List PV),q=[.sl c false (qs.map (Jy P e))]∧qs.length*P.bytesOf e<=reachBytes∧qs.length<=maxLen∧ ∀ x∈qs,x.length=c∧Xb P m e x:=by
 cases n with
 | zero=>exact h.elim
 | succ m=>
  subst hc
  simp only[Xb,hu]at h
  exact⟨m,rfl,h⟩
end
end Go.Pl
namespace Go.Proofs.YtjfgiaooglnomaaGreatDoor
open Go.Pl
open Enc (enc dec is)
open EncL (encL decL isL)
set_option maxRecDepth 100000
theorem Ao{H:Type}{P:Program}{t:TypeId}{ts:List TypeId}{d:DataW H}{ds:List (DataW H)}(h:(DataW.weightsEach P (t::ts) (d::ds)).all (· <= reachBytes)=true):wok P t d∧(DataW.weightsEach P ts ds).all (· <= reachBytes)=true:=by
 have e:DataW.weightsEach P (t::ts) (d::ds)=d.weights P t++DataW.weightsEach P ts ds:=by rw[DataW.weightsEach]
 rw[e,List.all_append,Bool.and_eq_true]at h
 exact⟨fun n hn=>of_decide_eq_true (List.all_eq_true.1 h.1 n hn),h.2⟩
theorem c8b:Tryz.prog.underlying 76=some (.slice 9):=by kernel_rfl
theorem a1f:Tryz.prog.cellsOf 76=1:=by kernel_rfl
theorem e1b:XH Tryz.prog 9=false:=by kernel_rfl
theorem d5k:XH Tryz.prog 78=true:=by kernel_rfl
theorem b7l:Tryz.prog.cellsOf 78=2:=by kernel_rfl
theorem b8k:Qh Tryz.prog 78=some [(0,76),(1,3)]:=by kernel_rfl
theorem d2u{n:Nat}{q:List PV}(h:Xb Tryz.prog n 9 q): ∃ s:Str,Jy Tryz.prog 9 q=enc s∧s.s.length<=281474976710656:=by
 obtain⟨s,rfl,hs⟩:=b7d b1d h
 exact⟨⟨s⟩,by rw[Jy,e1b];rfl,Nat.le_trans hs (by decide)⟩
theorem EY{n:Nat}{q:List PV}(h:Xb Tryz.prog n 76 q): ∃ l:List Str,q=[enc l]∧XW l=true:=by
 obtain⟨m,_,qs,rfl,_,hl,hq⟩:=AR c8b a9i h
 obtain⟨l,e,hk⟩:=Ba (α:=Str) (P:=fun s=>s.s.length<=281474976710656) (f:=Jy Tryz.prog 9) fun x hx=>d2u (hq x hx).2
 have hl:qs.length<=9223372036854775807:=hl
 refine⟨l,by rw[e];rfl,?_⟩
 unfold XW
 rw[Bool.and_eq_true]
 exact⟨Zz.2 (by rw[Bi e];exact hl),List.all_eq_true.2 fun s hs=>decide_eq_true (hk s hs)⟩
theorem c5f{n:Nat}{q:List PV}(h:Xb Tryz.prog n 78 q): ∃ b:BoxT,Jy Tryz.prog 78 q=enc b∧ZJ b=true:=by
 obtain⟨m,_,hl,h0,h1,_⟩:=JC b8k b7l h
 match q,hl with
 | [a,b],_=>
  rw[a1f]at h0
  rw[Tc]at h1
  obtain⟨v,e0,w0⟩:=EY h0
  obtain⟨k,e1,w1⟩:=MM SV h1
  simp at e0 e1
  subst e0 e1
  exact⟨⟨v,k⟩,by rw[Jy,d5k];rfl,w0⟩
theorem c2c{n:Nat}{q:List PV}(h:Xb Tryz.prog n 52 q): ∃ l:List Fact,Jy Tryz.prog 52 q=enc l∧Xu l=true:=by
 obtain⟨l,e,h1,h2⟩:=a6m (D9 _ _ _ h)
 refine⟨l,e,?_⟩
 simp only[Xu,Bool.and_eq_true,decide_eq_true_eq,List.all_eq_true]
 exact⟨h1,h2⟩
end Go.Proofs.YtjfgiaooglnomaaGreatDoor
namespace Go.Proofs.YtjfgiaooglnomaaGreatDoor
open Go.Pl
open Enc (enc dec is)
open EncL (encL decL isL)
set_option maxRecDepth 100000
theorem c3y:Tryz.prog.underlying 95=some (.slice 104):=by kernel_rfl
theorem c1h:Tryz.prog.cellsOf 95=1:=by kernel_rfl
theorem OG:Tryz.prog.cellsOf 104=2:=by kernel_rfl
theorem c0v:Tryz.prog.cellsOf 97=3:=by kernel_rfl
theorem d7e:XH Tryz.prog 104=true:=by kernel_rfl
theorem d7o:XH Tryz.prog 97=true:=by kernel_rfl
theorem c0u:Qh Tryz.prog 104=some [(0,3),(1,76)]:=by kernel_rfl
theorem c6h:Qh Tryz.prog 97=some [(0,24),(2,95)]:=by kernel_rfl
theorem b1u{n:Nat}{q:List PV}(h:Xb Tryz.prog n 104 q): ∃ m:Mono,Jy Tryz.prog 104 q=enc m∧Zr m.v=true:=by
 obtain⟨m,_,hl,h0,h1,_⟩:=JC c0u OG h
 match q,hl with
 | [a,b],_=>
  rw[Tc]at h0
  rw[a1f]at h1
  obtain⟨k,e0,w0⟩:=MM SV h0
  obtain⟨v,e1,w1⟩:=EY h1
  simp at e0 e1
  subst e0 e1
  refine⟨⟨k,v⟩,by rw[Jy,d7e];rfl,?_⟩
  unfold XW at w1
  rw[Bool.and_eq_true]at w1
  exact w1.1
theorem b6v{n:Nat}{q:List PV}(h:Xb Tryz.prog n 95 q): ∃ l:List Mono,q=[enc l]∧Ky l=true:=by
 obtain⟨m,_,qs,rfl,_,hl,hq⟩:=AR c3y OG h
 obtain⟨l,e,hk⟩:=Ba (α:=Mono) (P:=fun m=>Zr m.v=true) (f:=Jy Tryz.prog 104) fun x hx=>b1u (hq x hx).2
 have hl:qs.length<=9223372036854775807:=hl
 refine⟨l,by rw[e];rfl,?_⟩
 unfold Ky
 rw[Bool.and_eq_true]
 exact⟨Zz.2 (by rw[Bi e];exact hl),List.all_eq_true.2 hk⟩
theorem c7l{n:Nat}{q:List PV}(h:Xb Tryz.prog n 97 q): ∃ a:Asked,Jy Tryz.prog 97 q=enc a∧Hq a=true:=by
 obtain⟨m,_,hl,h0,h1,_⟩:=JC c6h c0v h
 match q,hl with
 | [a,b,c],_=>
  rw[R9]at h0
  rw[c1h]at h1
  obtain⟨l,e0,e1,w0⟩:=b1n (a:=a) (b:=b) (D9 _ _ _ h0)
  obtain⟨p,e2,w1⟩:=b6v h1
  simp at e2
  subst e0 e1 e2
  refine⟨⟨l,p⟩,by rw[Jy,d7o];rfl,?_⟩
  unfold Hq
  rw[w0,w1];rfl
theorem b6t{n0 n1 n2:Nat}{q0 q1 q2:List PV}(h0:Xb Tryz.prog n0 78 q0)(h1:Xb Tryz.prog n1 52 q1)(h2:Xb Tryz.prog n2 97 q2):
  preT (fun x:BoxT×List Fact×Asked×Unit=>ZJ x.1&&Xu x.2.1&&Hq x.2.2.1) [Jy Tryz.prog 78 q0,Jy Tryz.prog 52 q1,Jy Tryz.prog 97 q2]=true:=by
 obtain⟨b,e0,a0⟩:=c5f h0
 obtain⟨fs,e1,a1⟩:=c2c h1
 obtain⟨a,e2,a2⟩:=c7l h2
 rw[e0,e1,e2]
 exact Zk (b,fs,a,()) rfl (by show(ZJ b&&Xu fs&&Hq a)=true;rw[a0,a1,a2];rfl)
end Go.Proofs.YtjfgiaooglnomaaGreatDoor
