/-
  TermGreat, where what is read is of bulk at most 1048576: the law returns true. The row's proof round the run, and its card.
-/
import Derived.Test.YtgdebdgkofkeeaaGreatDoorRows
import Derived.Test.YtgdebdgkofkeeaaGreatDoorCards
import Derived.Test.YtgdebdgkofkeeaaGreatDoorTie
import Derived.Test.YtgdebdgkofkeeaaGreatDoorKG5
import Derived.WalkKit
import Derived.ProofKit
import Derived.OpenShut
import Derived.ChangeOld
import Derived.Carry
import Derived.Below
import Derived.LaidLaws
import Derived.SevenTiedAt
import Derived.Deep.DeepHandedRow
namespace Go.Proofs.YtgdebdgkofkeeaaGreatDoor.termGreatUpto
open Go.ChangeShapes Go.WideShapes Go.ChangeAt Go.RowKit Go.Pl
set_option linter.unusedVariables false

theorem own:ownKnob Tryz.prog.godebug=none:=by kernel_rfl
theorem laidOut:laidOutB Tryz.prog=true:=by kernel_rfl
theorem plain:Pb Tryz.prog [28,3,9,24,22,25,62,60,89,26,5]=true:=by kernel_rfl
theorem noarr:b2m Tryz.prog [28,3,9,24,22,25,62,60,89,26,5]=true:=by kernel_rfl

set_option maxRecDepth 100000 in
theorem laid_met(os:Os):laidMet Tryz.prog Rows.termGreatUptoRow.laid ((Gf os).forCall (fun _ _=>0) ⟨#[],#[.agg #[.int .i64 0,.int .i64 0,.string ⟨#[]⟩,.int .i64 0,.string ⟨#[]⟩,.slice none 0 0,.slice none 0 0,.slice none 0 0,.slice none 0 0,.slice none 0 0],.int .u8 0,.int .u8 0],[]⟩).memory:=
  laidMet_of_run' 16 (by kernel_rfl) (by kernel_rfl)

theorem reads(os:Os){H:Type}(enc:TypeId×Value → H):(DataW.whole enc Tryz.prog ((Gf os).forCall (fun _ _=>0) ⟨#[],#[.agg #[.int .i64 0,.int .i64 0,.string ⟨#[]⟩,.int .i64 0,.string ⟨#[]⟩,.slice none 0 0,.slice none 0 0,.slice none 0 0,.slice none 0 0,.slice none 0 0],.int .u8 0,.int .u8 0],[]⟩).memory Tryz.f5.params.toList Rows.termGreatSpec.vars false (#[.agg #[.int .i64 0,.int .i64 0,.string ⟨#[]⟩,.int .i64 0,.string ⟨#[]⟩,.slice none 0 0,.slice none 0 0,.slice none 0 0,.slice none 0 0,.slice none 0 0],.int .u8 0,.int .u8 0]:Array Value).toList 16).isSome=true:=by kernel_rfl

set_option maxRecDepth 100000 in
theorem lifted (os : Os) (started : os.Started) (H : Type) (enc : TypeId × Value → H) (F : Stop.Interp) :
    ReturnsInHanded {} Tryz.checked os 5 .any ((Rows.OpenSpec.upto Rows.termGreatSpec).preRow enc Tryz.prog Tryz.f5 Rows.termGreatUptoRow.domain false Rows.termGreatUptoRow.laid) (((Rows.OpenSpec.upto Rows.termGreatSpec).at F).post enc Tryz.prog Tryz.f5 false true false false):=by
  refine returnsInHanded_of_row (C:=Tryz.checked) (s:=Rows.OpenSpec.upto Rows.termGreatSpec) own started (by kernel_rfl) Tryz.func5
    (witness_row_at (enc:=enc) (C:=Tryz.checked) false (Gf os) #[.agg #[.int .i64 0,.int .i64 0,.string ⟨#[]⟩,.int .i64 0,.string ⟨#[]⟩,.slice none 0 0,.slice none 0 0,.slice none 0 0,.slice none 0 0,.slice none 0 0],.int .u8 0,.int .u8 0] rfl (by kernel_rfl) (by kernel_rfl) (by kernel_rfl)
      (OpenSpec.preRow_of_cond 16 (Option.some_get (reads os enc)).symm (by kernel_rfl) (fun k hk=>by cases hk;kernel_rfl) (by kernel_rfl) (laid_met os))) ?_
  intro W base args ds gs before hval0 hW hdom hcond _ hL hsh _
  have hG:GlobOK (Cx W):=c0m hL hsh
  have hbk:Rows.uptoSmall H (ds++gs)=true:=hcond _ rfl
  have hval : ∀ (j:Nat) t v,Tryz.f5.params[j]? = some t → args[j]? = some v → Value.okWide Tryz.prog W .any base t v:=hval0
  have hW':=hW
  obtain⟨p,q,hA0,hV,rfl,hfz,hnd⟩:=hW
  have hA:DataW.TrodAll enc Tryz.prog W 0 (fun _=>true) true Tryz.f5.params.toList args.toList ds p:=hA0
  rw[Tryz.params5]at hA hval
  obtain⟨v0,vs0,d0,ds0,p0,q0,hargs,rfl,rfl,h0,r0⟩:=trodAll_cons hA
  obtain⟨v1,vs1,d1,ds1,p1,q1,rfl,rfl,rfl,h1,r1⟩:=trodAll_cons r0
  obtain⟨v2,vs2,d2,ds2,p2,q2,rfl,rfl,rfl,h2,r2⟩:=trodAll_cons r1
  obtain⟨rfl,rfl,rfl⟩:=trodAll_nil r2
  obtain rfl:args = #[v0,v1,v2]:=by cases args;simp_all
  obtain⟨rfl,rfl⟩:=trodVars_none hV
  have hbulk:uBs [d0,d1,d2] ≤ 1048576:=by simpa [Rows.uptoSmall]using hbk
  have bk0:uB d0 ≤ 1048576:=by simp only[UJ]at hbulk;omega
  have lt0 : ∀ x∈p0,x.block<W.heap.size:=by obtain⟨m,hm⟩:=h0;exact DataW.trod_lt m _ _ _ hm
  obtain⟨n0,z0,e0,f0,w0⟩:=Dj plain noarr (t:=28) (by decide) (hval 0 28 v0 rfl rfl) h0
  have bk1:uB d1 ≤ 1048576:=by simp only[UJ]at hbulk;omega
  have lt1 : ∀ x∈p1,x.block<W.heap.size:=by obtain⟨m,hm⟩:=h1;exact DataW.trod_lt m _ _ _ hm
  obtain⟨n1,z1,e1,f1,w1⟩:=Dj plain noarr (t:=5) (by decide) (hval 1 5 v1 rfl rfl) h1
  have bk2:uB d2 ≤ 1048576:=by simp only[UJ]at hbulk;omega
  have lt2 : ∀ x∈p2,x.block<W.heap.size:=by obtain⟨m,hm⟩:=h2;exact DataW.trod_lt m _ _ _ hm
  obtain⟨n2,z2,e2,f2,w2⟩:=Dj plain noarr (t:=5) (by decide) (hval 2 5 v2 rfl rfl) h2
  clear hA0 hval0
  refine(a4u Pn (Ey f0 f1 f2 (by simp only[UJ]at hbulk;omega)) rfl (vs:=#[v0,v1,v2]) hG (a9b e0 (a9b e1 (a9b e2 a1o)))).mono fun e W' ⟨he,hg⟩=> ?_
  subst he
  exact⟨_,rfl,Sw (pa:=p0++(p1++(p2++[]))) (pv:=[]) hW' (fun _ _ _=>(trodAll_cons_mk (shut_bool Tryz.underlying4 _) trodAll_mk0)) (fun sp hsp=>(trodAll_cons_mk (WideElems.Trod_stays laidOut (by kernel_rfl) (of_decide_eq_true (by kernel_rfl)) h0 (fun x hx=>hg.same (lt0 x hx)) (fun x hx=>hsp x (by simp[hx]))) (trodAll_cons_mk (WideElems.Trod_stays laidOut (by kernel_rfl) (of_decide_eq_true (by kernel_rfl)) h1 (fun x hx=>hg.same (lt1 x hx)) (fun x hx=>hsp x (by simp[hx]))) (trodAll_cons_mk (WideElems.Trod_stays laidOut (by kernel_rfl) (of_decide_eq_true (by kernel_rfl)) h2 (fun x hx=>hg.same (lt2 x hx)) (fun x hx=>hsp x (by simp[hx]))) trodAll_mk0)))) (fun _ _=>rfl) rfl hg (ok_one (by kernel_rfl) rfl (okWide_bool_mk Tryz.underlying4 _))⟩

set_option maxHeartbeats 0 in
theorem over:Rows.TermGreatUptoSaid:=
  OpenClaim.holds_of_cond 5 Tryz.f5 rfl rfl rfl rfl rfl rfl rfl ⟨rfl,rfl,rfl,rfl,rfl⟩ rfl rfl rfl rfl rfl (by as_aux_lemma=>kernel_rfl) Tryz.func5 (by as_aux_lemma=>kernel_rfl)
    (of_decide_eq_true (by kernel_rfl)) (by unfold Func.isWrapper;first|(rw[if_pos (by decide +kernel)];kernel_rfl)|(rw[if_neg (by decide +kernel)];exact⟨rfl,rfl⟩))
    (fun os started H enc _ F=>by rw[OpenClaim.pre_eq_preRow];exact lifted os started H enc F)

set_option maxHeartbeats 0 in
/-- The given statement. -/
theorem proved:Rows.TermGreatUptoCardSaid:=
  Claim7.holds_tied_plain_at .later [] [.data,.data,.data,.sentinel,.sentinel] true (true,"cd9085f510679da9522cf01262a676ccc520d7c40ec0cdf1265a30fc4981aa49") true
    over (fun _ h=>by cases h) (by as_aux_lemma=>kernel_rfl) (fun _ h=>by cases h) termGreatUpto_row_tie rfl ⟨rfl,rfl⟩ (by as_aux_lemma=>kernel_rfl) rfl
    (fun f fn hf hfn=>by
      obtain rfl:f=5:=Option.some.inj ((show Tryz.prog.funcNamed "framewise/framewiselaw25.TermGreat" = some 5 by as_aux_lemma=>kernel_rfl).symm.trans hf) |>.symm
      obtain rfl:fn=Tryz.f5:=(Option.some.inj (Tryz.func5.symm.trans hfn)).symm
      exact⟨by as_aux_lemma=>kernel_rfl,fun j t ht=>by
        rw[Tryz.params5]at ht
        rcases j with _|_|_|j
        · obtain rfl:t=28:=by simpa using ht.symm
          exact(show Tryz.prog.wantsStandIn 28=false by as_aux_lemma=>kernel_rfl)
        · obtain rfl:t=5:=by simpa using ht.symm
          exact(show Tryz.prog.wantsStandIn 5=false by as_aux_lemma=>kernel_rfl)
        · obtain rfl:t=5:=by simpa using ht.symm
          exact(show Tryz.prog.wantsStandIn 5=false by as_aux_lemma=>kernel_rfl)
        · simp at ht⟩)
    (by as_aux_lemma=>kernel_rfl)
#print axioms proved
end Go.Proofs.YtgdebdgkofkeeaaGreatDoor.termGreatUpto
