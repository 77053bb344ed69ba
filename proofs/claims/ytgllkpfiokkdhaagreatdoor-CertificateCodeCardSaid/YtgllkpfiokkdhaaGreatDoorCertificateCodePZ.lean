/-
  CertificateCode: for every input the law returns true. The row's proof round the run, and its card.
-/
import Derived.Test.YtgllkpfiokkdhaaGreatDoorRows
import Derived.Test.YtgllkpfiokkdhaaGreatDoorCards
import Derived.Test.YtgllkpfiokkdhaaGreatDoorTie
import Derived.Test.YtgllkpfiokkdhaaGreatDoorCC6
import Derived.WalkKit
import Derived.ProofKit
import Derived.OpenShut
import Derived.ChangeOld
import Derived.Carry
import Derived.Below
import Derived.LaidLaws
import Derived.SevenTiedAt
namespace Go.Proofs.YtgllkpfiokkdhaaGreatDoor.certificateCode
open Go.ChangeShapes Go.WideShapes Go.ChangeAt Go.RowKit Go.Pl
set_option linter.unusedVariables false

theorem own:ownKnob Tryz.prog.godebug=none:=by kernel_rfl
theorem laidOut:laidOutB Tryz.prog=true:=by kernel_rfl
theorem plain:OH Tryz.prog [28,29,5,3,22,25,23,80,9,26]=true:=by kernel_rfl

set_option maxRecDepth 100000 in
theorem laid_met(os:Os)(args:Array Value):laidMet Tryz.prog Rows.certificateCodeRow.laid ((Mf os).forCall (fun _ _=>0) ⟨#[],args,[]⟩).memory:=
  laidMet_of_run' 16 (by kernel_rfl) (by kernel_rfl)

set_option maxRecDepth 100000 in
theorem lifted (os : Os) (started : os.Started) (H : Type) (enc : TypeId × Value → H) :
    ReturnsInHanded {} Tryz.checked os 3 .any (fun w args=>(Rows.certificateCodeSpec.pre enc Tryz.prog Tryz.f3 Rows.certificateCodeRow.domain false w args∧laidMet Tryz.prog Rows.certificateCodeRow.laid w)∧sizedMet enc Tryz.prog Tryz.f3 (OpenSpec.ofChange Rows.certificateCodeSpec) false w args) (Rows.certificateCodeSpec.post enc Tryz.prog Tryz.f3 false true false false):=by
  refine returnsInHanded_of_change_and (C:=Tryz.checked) (X:=fun w _=>laidMet Tryz.prog Rows.certificateCodeRow.laid w) (fun _ _ _ hh h=>h.of_heap hh) own started (by kernel_rfl) Tryz.func3
    (ChangeSpec.witness_at (enc:=enc) (C:=Tryz.checked) (os:=os) (X:=fun w _=>laidMet Tryz.prog Rows.certificateCodeRow.laid w) false (Mf os) #[.agg #[.int .i64 0,.slice none 0 0,.int .i64 0,.slice none 0 0,.slice none 0 0],.slice none 0 0] 16 rfl (by kernel_rfl) (by kernel_rfl) (by kernel_rfl) (by kernel_rfl) (by kernel_rfl) (laid_met os _)) ?_
  intro W base args ds gs before hval0 hW hcnd _ hL _
  have hG:GlobOK (Nb W):=c9h hL
  have hval : ∀ (j:Nat) t v,Tryz.f3.params[j]? = some t → args[j]? = some v → Value.okWide Tryz.prog W .any base t v:=hval0
  have hW':=hW
  obtain⟨p,q,hA0,hV,rfl,hfz,hnd⟩:=hW
  have hA:DataW.TrodAll enc Tryz.prog W 0 (fun _=>true) true Tryz.f3.params.toList args.toList ds p:=hA0
  rw[Tryz.params3]at hA hval
  obtain⟨v0,vs0,d0,ds0,p0,q0,hargs,rfl,rfl,h0,r0⟩:=trodAll_cons hA
  obtain⟨v1,vs1,d1,ds1,p1,q1,rfl,rfl,rfl,h1,r1⟩:=trodAll_cons r0
  obtain⟨rfl,rfl,rfl⟩:=trodAll_nil r1
  obtain rfl:args = #[v0,v1]:=by cases args;simp_all
  obtain⟨rfl,rfl⟩:=trodVars_none hV
  have lt0 : ∀ x∈p0,x.block<W.heap.size:=by obtain⟨m,hm⟩:=h0;exact DataW.trod_lt m _ _ _ hm
  obtain⟨n0,z0,e0,f0⟩:=Ee plain (t:=28) (by decide) (hval 0 28 v0 rfl rfl) h0
  have lt1 : ∀ x∈p1,x.block<W.heap.size:=by obtain⟨m,hm⟩:=h1;exact DataW.trod_lt m _ _ _ hm
  obtain⟨n1,z1,e1,f1⟩:=Ee plain (t:=29) (by decide) (hval 1 29 v1 rfl rfl) h1
  clear hA0 hval0
  refine(b7c c6y (a6b f0 f1) rfl (vs:=#[v0,v1]) hG (e0i e0 (e0i e1 d0k))).mono fun e W' ⟨he,hg⟩=> ?_
  subst he
  exact⟨_,rfl,Ni (pa:=p0++(p1++[])) (pv:=[]) hW' (fun _ _ _=>(trodAll_cons_mk (shut_bool Tryz.underlying4 _) trodAll_mk0)) (fun sp hsp=>(trodAll_cons_mk (WideElems.Trod_stays laidOut (by kernel_rfl) (of_decide_eq_true (by kernel_rfl)) h0 (fun x hx=>hg.same (lt0 x hx)) (fun x hx=>hsp x (by simp[hx]))) (trodAll_cons_mk (WideElems.Trod_stays laidOut (by kernel_rfl) (of_decide_eq_true (by kernel_rfl)) h1 (fun x hx=>hg.same (lt1 x hx)) (fun x hx=>hsp x (by simp[hx]))) trodAll_mk0))) (fun _ _=>rfl) rfl hg (ok_one (by kernel_rfl) rfl (okWide_bool_mk Tryz.underlying4 _))⟩

set_option maxHeartbeats 0 in
theorem facts:joinedFacts Tryz.prog 3 Tryz.f3 Rows.certificateCodeSpec Rows.certificateCodeRow=true:=by
  simp only[joinedFacts,Bool.and_eq_true]
  repeat' apply And.intro
  all_goals (as_aux_lemma=>kernel_rfl)

theorem over:Rows.certificateCodeRow.holds Tryz.pinned (OpenSpec.ofChange Rows.certificateCodeSpec):=
  OpenClaim.holds_of_wide 3 Tryz.f3 rfl rfl rfl rfl rfl rfl rfl ⟨rfl,rfl,rfl,rfl,rfl⟩ rfl rfl rfl rfl rfl (by as_aux_lemma=>kernel_rfl) Tryz.func3 facts
    (of_decide_eq_true (by kernel_rfl)) (by unfold Func.isWrapper;first|(rw[if_pos (by decide +kernel)];kernel_rfl)|(rw[if_neg (by decide +kernel)];exact⟨rfl,rfl⟩))
    (fun os started H enc _=>lifted os started H enc)

set_option maxHeartbeats 0 in
/-- The given statement. -/
theorem proved:Rows.CertificateCodeCardSaid:=
  Claim7.holds_tied_plain_at .later [] [.data,.data,.data,.sentinel,.sentinel] true (true,"7a8a8b24e4f9a651cac93efe4db368ab97b7fe19fd32d32d92b67bdaddf5a712") true
    over (fun _ h=>by cases h) (by as_aux_lemma=>kernel_rfl) (fun _ h=>by cases h) certificateCode_row_tie rfl ⟨rfl,rfl⟩ (by as_aux_lemma=>kernel_rfl) rfl
    (fun f fn hf hfn=>by
      obtain rfl:f=3:=Option.some.inj ((show Tryz.prog.funcNamed "framewise/framewiselaw07.CertificateCode" = some 3 by as_aux_lemma=>kernel_rfl).symm.trans hf) |>.symm
      obtain rfl:fn=Tryz.f3:=(Option.some.inj (Tryz.func3.symm.trans hfn)).symm
      exact⟨by as_aux_lemma=>kernel_rfl,fun j t ht=>by
        rw[Tryz.params3]at ht
        rcases j with _|_|j
        · obtain rfl:t=28:=by simpa using ht.symm
          exact(show Tryz.prog.wantsStandIn 28=false by as_aux_lemma=>kernel_rfl)
        · obtain rfl:t=29:=by simpa using ht.symm
          exact(show Tryz.prog.wantsStandIn 29=false by as_aux_lemma=>kernel_rfl)
        · simp at ht⟩)
    (by as_aux_lemma=>kernel_rfl)
#print axioms proved
end Go.Proofs.YtgllkpfiokkdhaaGreatDoor.certificateCode
