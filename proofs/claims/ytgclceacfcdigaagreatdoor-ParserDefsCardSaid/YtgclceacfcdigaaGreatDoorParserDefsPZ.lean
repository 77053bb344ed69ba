/-
  ParserDefs: for every input the law returns true. The row's proof round the run, and its card.
-/
import Derived.Test.YtgclceacfcdigaaGreatDoorRows
import Derived.Test.YtgclceacfcdigaaGreatDoorCards
import Derived.Test.YtgclceacfcdigaaGreatDoorTie
import Derived.Test.YtgclceacfcdigaaGreatDoorKD6
import Derived.WalkKit
import Derived.ProofKit
import Derived.OpenShut
import Derived.ChangeOld
import Derived.Carry
import Derived.Below
import Derived.LaidLaws
import Derived.SevenTiedAt
import Derived.Deep.DeepHandedRow
namespace Go.Proofs.YtgclceacfcdigaaGreatDoor.parserDefs
open Go.ChangeShapes Go.WideShapes Go.ChangeAt Go.RowKit Go.Pl
set_option linter.unusedVariables false

theorem own:ownKnob Tryz.prog.godebug=none:=by kernel_rfl
theorem laidOut:laidOutB Tryz.prog=true:=by kernel_rfl
theorem plain:a1z Tryz.prog [9]=true:=by kernel_rfl
theorem noarr:e2t Tryz.prog [9]=true:=by kernel_rfl

set_option maxRecDepth 100000 in
theorem laid_met(os:Os):laidMet Tryz.prog Rows.parserDefsRow.laid ((SV os).forCall (fun _ _=>0) ⟨#[],#[.string ⟨#[]⟩,.string ⟨#[]⟩],[]⟩).memory:=
  laidMet_of_run' 16 (by kernel_rfl) (by kernel_rfl)

theorem reads(os:Os){H:Type}(enc:TypeId×Value → H):(DataW.whole enc Tryz.prog ((SV os).forCall (fun _ _=>0) ⟨#[],#[.string ⟨#[]⟩,.string ⟨#[]⟩],[]⟩).memory Tryz.f8.params.toList Rows.parserDefsSpec.vars false (#[.string ⟨#[]⟩,.string ⟨#[]⟩]:Array Value).toList 16).isSome=true:=by kernel_rfl

set_option maxRecDepth 100000 in
theorem lifted (os : Os) (started : os.Started) (H : Type) (enc : TypeId × Value → H) (F : Stop.Interp) :
    ReturnsInHanded {} Tryz.checked os 8 .any ((OpenSpec.ofChange Rows.parserDefsSpec).preRow enc Tryz.prog Tryz.f8 Rows.parserDefsRow.domain false Rows.parserDefsRow.laid) (((OpenSpec.ofChange Rows.parserDefsSpec).at F).post enc Tryz.prog Tryz.f8 false true false false):=by
  refine returnsInHanded_of_row (C:=Tryz.checked) (s:=OpenSpec.ofChange Rows.parserDefsSpec) own started (by kernel_rfl) Tryz.func8
    (witness_row_at (enc:=enc) (C:=Tryz.checked) false (SV os) #[.string ⟨#[]⟩,.string ⟨#[]⟩] rfl (by kernel_rfl) (by kernel_rfl) (by kernel_rfl)
      (OpenSpec.preRow_of_cond 16 (Option.some_get (reads os enc)).symm (by kernel_rfl) (fun k hk=>by cases hk) (by kernel_rfl) (laid_met os))) ?_
  intro W base args ds gs before hval0 hW hdom hcond _ hL hsh _
  have hG:GlobOK (RO W):=e9s hL hsh
  have hval : ∀ (j:Nat) t v,Tryz.f8.params[j]? = some t → args[j]? = some v → Value.okWide Tryz.prog W .any base t v:=hval0
  have hW':=hW
  obtain⟨p,q,hA0,hV,rfl,hfz,hnd⟩:=hW
  have hA:DataW.TrodAll enc Tryz.prog W 0 (fun _=>true) true Tryz.f8.params.toList args.toList ds p:=hA0
  rw[Tryz.params8]at hA hval
  obtain⟨v0,vs0,d0,ds0,p0,q0,hargs,rfl,rfl,h0,r0⟩:=trodAll_cons hA
  obtain⟨v1,vs1,d1,ds1,p1,q1,rfl,rfl,rfl,h1,r1⟩:=trodAll_cons r0
  obtain⟨rfl,rfl,rfl⟩:=trodAll_nil r1
  obtain rfl:args = #[v0,v1]:=by cases args;simp_all
  obtain⟨rfl,rfl⟩:=trodVars_none hV
  have lt0 : ∀ x∈p0,x.block<W.heap.size:=by obtain⟨m,hm⟩:=h0;exact DataW.trod_lt m _ _ _ hm
  obtain⟨n0,z0,e0,f0,w0⟩:=OY plain noarr (t:=9) (by decide) (hval 0 9 v0 rfl rfl) h0
  have lt1 : ∀ x∈p1,x.block<W.heap.size:=by obtain⟨m,hm⟩:=h1;exact DataW.trod_lt m _ _ _ hm
  obtain⟨n1,z1,e1,f1,w1⟩:=OY plain noarr (t:=9) (by decide) (hval 1 9 v1 rfl rfl) h1
  clear hA0 hval0
  refine(c5w BC (e7e f0 f1) rfl (vs:=#[v0,v1]) hG (f3g e0 (f3g e1 c2c))).mono fun e W' ⟨he,hg⟩=> ?_
  subst he
  exact⟨_,rfl,Fb (pa:=p0++(p1++[])) (pv:=[]) hW' (fun _ _ _=>(trodAll_cons_mk (shut_bool Tryz.underlying4 _) trodAll_mk0)) (fun sp hsp=>(trodAll_cons_mk (WideElems.Trod_stays laidOut (by kernel_rfl) (of_decide_eq_true (by kernel_rfl)) h0 (fun x hx=>hg.same (lt0 x hx)) (fun x hx=>hsp x (by simp[hx]))) (trodAll_cons_mk (WideElems.Trod_stays laidOut (by kernel_rfl) (of_decide_eq_true (by kernel_rfl)) h1 (fun x hx=>hg.same (lt1 x hx)) (fun x hx=>hsp x (by simp[hx]))) trodAll_mk0))) (fun _ _=>rfl) rfl hg (ok_one (by kernel_rfl) rfl (okWide_bool_mk Tryz.underlying4 _))⟩

set_option maxHeartbeats 0 in
theorem over:Rows.ParserDefsSaid:=
  OpenClaim.holds_of_cond 8 Tryz.f8 rfl rfl rfl rfl rfl rfl rfl ⟨rfl,rfl,rfl,rfl,rfl⟩ rfl rfl rfl rfl rfl (by as_aux_lemma=>kernel_rfl) Tryz.func8 (by as_aux_lemma=>kernel_rfl)
    (of_decide_eq_true (by kernel_rfl)) (by unfold Func.isWrapper;first|(rw[if_pos (by decide +kernel)];kernel_rfl)|(rw[if_neg (by decide +kernel)];exact⟨rfl,rfl⟩))
    (fun os started H enc _ F=>by rw[OpenClaim.pre_eq_preRow];exact lifted os started H enc F)

set_option maxHeartbeats 0 in
/-- The given statement. -/
theorem proved:Rows.ParserDefsCardSaid:=
  Claim7.holds_tied_plain_at .later [] [.data,.data,.data,.data,.sentinel,.sentinel,.pinned] true (true,"aeb0350652a575962ec5ac69e4383fc84f60011b27c22d259ca32a79ce0adeff") true
    over (fun _ h=>by cases h) (by as_aux_lemma=>kernel_rfl) (fun _ h=>by cases h) parserDefs_row_tie rfl ⟨rfl,rfl⟩ (by as_aux_lemma=>kernel_rfl) rfl
    (fun f fn hf hfn=>by
      obtain rfl:f=8:=Option.some.inj ((show Tryz.prog.funcNamed "framewise/framewiselaw26.ParserDefs" = some 8 by as_aux_lemma=>kernel_rfl).symm.trans hf) |>.symm
      obtain rfl:fn=Tryz.f8:=(Option.some.inj (Tryz.func8.symm.trans hfn)).symm
      exact⟨by as_aux_lemma=>kernel_rfl,fun j t ht=>by
        rw[Tryz.params8]at ht
        rcases j with _|_|j
        · obtain rfl:t=9:=by simpa using ht.symm
          exact(show Tryz.prog.wantsStandIn 9=false by as_aux_lemma=>kernel_rfl)
        · obtain rfl:t=9:=by simpa using ht.symm
          exact(show Tryz.prog.wantsStandIn 9=false by as_aux_lemma=>kernel_rfl)
        · simp at ht⟩)
    (by as_aux_lemma=>kernel_rfl)
#print axioms proved
end Go.Proofs.YtgclceacfcdigaaGreatDoor.parserDefs
