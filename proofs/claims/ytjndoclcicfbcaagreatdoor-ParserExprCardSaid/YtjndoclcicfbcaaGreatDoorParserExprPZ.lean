/-
  ParserExpr: for every input the law returns true. The row's proof round the run, and its card.
-/
import Derived.Test.YtjndoclcicfbcaaGreatDoorRows
import Derived.Test.YtjndoclcicfbcaaGreatDoorCards
import Derived.Test.YtjndoclcicfbcaaGreatDoorTie
import Derived.Test.YtjndoclcicfbcaaGreatDoorKX7
import Derived.WalkKit
import Derived.ProofKit
import Derived.OpenShut
import Derived.ChangeOld
import Derived.Carry
import Derived.Below
import Derived.LaidLaws
import Derived.SevenTiedAt
import Derived.Deep.DeepHandedRow
namespace Go.Proofs.YtjndoclcicfbcaaGreatDoor.parserExpr
open Go.ChangeShapes Go.WideShapes Go.ChangeAt Go.RowKit Go.Pl
set_option linter.unusedVariables false

theorem own:ownKnob Tryz.prog.godebug=none:=by kernel_rfl
theorem laidOut:laidOutB Tryz.prog=true:=by kernel_rfl
theorem plain:b3n Tryz.prog [9]=true:=by kernel_rfl
theorem noarr:f5o Tryz.prog [9]=true:=by kernel_rfl

set_option maxRecDepth 100000 in
theorem laid_met(os:Os):laidMet Tryz.prog Rows.parserExprRow.laid ((Fu os).forCall (fun _ _=>0) ⟨#[],#[.string ⟨#[]⟩],[]⟩).memory:=
  laidMet_of_run' 16 (by kernel_rfl) (by kernel_rfl)

theorem reads(os:Os){H:Type}(enc:TypeId×Value → H):(DataW.whole enc Tryz.prog ((Fu os).forCall (fun _ _=>0) ⟨#[],#[.string ⟨#[]⟩],[]⟩).memory Tryz.f3.params.toList Rows.parserExprSpec.vars false (#[.string ⟨#[]⟩]:Array Value).toList 16).isSome=true:=by kernel_rfl

set_option maxRecDepth 100000 in
theorem lifted (os : Os) (started : os.Started) (H : Type) (enc : TypeId × Value → H) (F : Stop.Interp) :
    ReturnsInHanded {} Tryz.checked os 3 .any ((OpenSpec.ofChange Rows.parserExprSpec).preRow enc Tryz.prog Tryz.f3 Rows.parserExprRow.domain false Rows.parserExprRow.laid) (((OpenSpec.ofChange Rows.parserExprSpec).at F).post enc Tryz.prog Tryz.f3 false true false false):=by
  refine returnsInHanded_of_row (C:=Tryz.checked) (s:=OpenSpec.ofChange Rows.parserExprSpec) own started (by kernel_rfl) Tryz.func3
    (witness_row_at (enc:=enc) (C:=Tryz.checked) false (Fu os) #[.string ⟨#[]⟩] rfl (by kernel_rfl) (by kernel_rfl) (by kernel_rfl)
      (OpenSpec.preRow_of_cond 16 (Option.some_get (reads os enc)).symm (by kernel_rfl) (fun k hk=>by cases hk) (by kernel_rfl) (laid_met os))) ?_
  intro W base args ds gs before hval0 hW hdom hcond _ hL hsh _
  have hG:GlobOK (OW W):=h1r hL hsh
  have hval : ∀ (j:Nat) t v,Tryz.f3.params[j]? = some t → args[j]? = some v → Value.okWide Tryz.prog W .any base t v:=hval0
  have hW':=hW
  obtain⟨p,q,hA0,hV,rfl,hfz,hnd⟩:=hW
  have hA:DataW.TrodAll enc Tryz.prog W 0 (fun _=>true) true Tryz.f3.params.toList args.toList ds p:=hA0
  rw[Tryz.params3]at hA hval
  obtain⟨v0,vs0,d0,ds0,p0,q0,hargs,rfl,rfl,h0,r0⟩:=trodAll_cons hA
  obtain⟨rfl,rfl,rfl⟩:=trodAll_nil r0
  obtain rfl:args = #[v0]:=by cases args;simp_all
  obtain⟨rfl,rfl⟩:=trodVars_none hV
  have lt0 : ∀ x∈p0,x.block<W.heap.size:=by obtain⟨m,hm⟩:=h0;exact DataW.trod_lt m _ _ _ hm
  obtain⟨n0,z0,e0,f0,w0⟩:=e6w plain noarr (t:=9) (by decide) (hval 0 9 v0 rfl rfl) h0
  clear hA0 hval0
  refine(e6e Pi (h1n f0) rfl (vs:=#[v0]) hG (i9c e0 e0o)).mono fun e W' ⟨he,hg⟩=> ?_
  subst he
  exact⟨_,rfl,a4v (pa:=p0++[]) (pv:=[]) hW' (fun _ _ _=>(trodAll_cons_mk (shut_bool Tryz.underlying4 _) trodAll_mk0)) (fun sp hsp=>(trodAll_cons_mk (WideElems.Trod_stays laidOut (by kernel_rfl) (of_decide_eq_true (by kernel_rfl)) h0 (fun x hx=>hg.same (lt0 x hx)) (fun x hx=>hsp x (by simp[hx]))) trodAll_mk0)) (fun _ _=>rfl) rfl hg (ok_one (by kernel_rfl) rfl (okWide_bool_mk Tryz.underlying4 _))⟩

set_option maxHeartbeats 0 in
theorem over:Rows.ParserExprSaid:=
  OpenClaim.holds_of_cond 3 Tryz.f3 rfl rfl rfl rfl rfl rfl rfl ⟨rfl,rfl,rfl,rfl,rfl⟩ rfl rfl rfl rfl rfl (by as_aux_lemma=>kernel_rfl) Tryz.func3 (by as_aux_lemma=>kernel_rfl)
    (of_decide_eq_true (by kernel_rfl)) (by unfold Func.isWrapper;first|(rw[if_pos (by decide +kernel)];kernel_rfl)|(rw[if_neg (by decide +kernel)];exact⟨rfl,rfl⟩))
    (fun os started H enc _ F=>by rw[OpenClaim.pre_eq_preRow];exact lifted os started H enc F)

set_option maxHeartbeats 0 in
/-- The given statement. -/
theorem proved:Rows.ParserExprCardSaid:=
  Claim7.holds_tied_plain_at .later [] [.data,.data,.data,.data,.sentinel,.sentinel,.pinned] true (true,"6cb167a7a86e83b41031b58735cb75b2f58f3d927499a8cd6cb2b3d786c8c730") true
    over (fun _ h=>by cases h) (by as_aux_lemma=>kernel_rfl) (fun _ h=>by cases h) parserExpr_row_tie rfl ⟨rfl,rfl⟩ (by as_aux_lemma=>kernel_rfl) rfl
    (fun f fn hf hfn=>by
      obtain rfl:f=3:=Option.some.inj ((show Tryz.prog.funcNamed "framewise/framewiselaw26.ParserExpr" = some 3 by as_aux_lemma=>kernel_rfl).symm.trans hf) |>.symm
      obtain rfl:fn=Tryz.f3:=(Option.some.inj (Tryz.func3.symm.trans hfn)).symm
      exact⟨by as_aux_lemma=>kernel_rfl,fun j t ht=>by
        rw[Tryz.params3]at ht
        rcases j with _|j
        · obtain rfl:t=9:=by simpa using ht.symm
          exact(show Tryz.prog.wantsStandIn 9=false by as_aux_lemma=>kernel_rfl)
        · simp at ht⟩)
    (by as_aux_lemma=>kernel_rfl)
#print axioms proved
end Go.Proofs.YtjndoclcicfbcaaGreatDoor.parserExpr
