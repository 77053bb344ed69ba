/-
  PrinterParens, where what is read is of bulk at most 1048576: the law returns true. The row's proof round the run, and its card.
-/
import Derived.Test.YtbpdlcdciffpjaaGreatDoorRows
import Derived.Test.YtbpdlcdciffpjaaGreatDoorCards
import Derived.Test.YtbpdlcdciffpjaaGreatDoorTie
import Derived.Test.YtbpdlcdciffpjaaGreatDoorKQ7
import Derived.WalkKit
import Derived.ProofKit
import Derived.OpenShut
import Derived.ChangeOld
import Derived.Carry
import Derived.Below
import Derived.LaidLaws
import Derived.SevenTiedAt
import Derived.Deep.DeepHandedRow
namespace Go.Proofs.YtbpdlcdciffpjaaGreatDoor.printerParensUpto
open Go.ChangeShapes Go.WideShapes Go.ChangeAt Go.RowKit Go.Pl
set_option linter.unusedVariables false

theorem own:ownKnob Tryz.prog.godebug=none:=by kernel_rfl
theorem laidOut:laidOutB Tryz.prog=true:=by kernel_rfl
theorem plain:b3n Tryz.prog [28,3,9,24,22,25,47,45,79,26]=true:=by kernel_rfl
theorem noarr:g5i Tryz.prog [28,3,9,24,22,25,47,45,79,26]=true:=by kernel_rfl

set_option maxRecDepth 100000 in
theorem laid_met(os:Os):laidMet Tryz.prog Rows.printerParensUptoRow.laid ((MP os).forCall (λ_ _=>0) ⟨#[],#[.agg #[.int .i64 0,.int .i64 0,.string ⟨#[]⟩,.int .i64 0,.string ⟨#[]⟩,.slice none 0 0,.slice none 0 0,.slice none 0 0,.slice none 0 0,.slice none 0 0]],[]⟩).memory:=
  laidMet_of_run' 16 (by kernel_rfl) (by kernel_rfl)

theorem reads(os:Os){H:Type}(enc:TypeId×Value → H):(DataW.whole enc Tryz.prog ((MP os).forCall (λ_ _=>0) ⟨#[],#[.agg #[.int .i64 0,.int .i64 0,.string ⟨#[]⟩,.int .i64 0,.string ⟨#[]⟩,.slice none 0 0,.slice none 0 0,.slice none 0 0,.slice none 0 0,.slice none 0 0]],[]⟩).memory Tryz.f3.params.toList Rows.printerParensSpec.vars false (#[.agg #[.int .i64 0,.int .i64 0,.string ⟨#[]⟩,.int .i64 0,.string ⟨#[]⟩,.slice none 0 0,.slice none 0 0,.slice none 0 0,.slice none 0 0,.slice none 0 0]]:Array Value).toList 16).isSome=true:=by kernel_rfl

set_option maxRecDepth 100000 in
theorem lifted (os : Os) (started : os.Started) (H : Type) (enc : TypeId × Value → H) (F : Stop.Interp) :
    ReturnsInHanded {} Tryz.checked os 3 .any ((Rows.OpenSpec.upto Rows.printerParensSpec).preRow enc Tryz.prog Tryz.f3 Rows.printerParensUptoRow.domain false Rows.printerParensUptoRow.laid) (((Rows.OpenSpec.upto Rows.printerParensSpec).at F).post enc Tryz.prog Tryz.f3 false true false false):=by
  refine returnsInHanded_of_row (C:=Tryz.checked) (s:=Rows.OpenSpec.upto Rows.printerParensSpec) own started (by kernel_rfl) Tryz.func3
    (witness_row_at (enc:=enc) (C:=Tryz.checked) false (MP os) #[.agg #[.int .i64 0,.int .i64 0,.string ⟨#[]⟩,.int .i64 0,.string ⟨#[]⟩,.slice none 0 0,.slice none 0 0,.slice none 0 0,.slice none 0 0,.slice none 0 0]] rfl (by kernel_rfl) (by kernel_rfl) (by kernel_rfl)
      (OpenSpec.preRow_of_cond 16 (Option.some_get (reads os enc)).symm (by kernel_rfl) (λk hk=>by cases hk;kernel_rfl) (by kernel_rfl) (laid_met os))) ?_
  intro W base args ds gs before hval0 hW hdom hcond _ hL hsh _
  have hG:GlobOK (Em W):=g7x hL hsh
  have hbk:Rows.uptoSmall H (ds++gs)=true:=hcond _ rfl
  have hval : ∀ (j:Nat) t v,Tryz.f3.params[j]? = some t → args[j]? = some v → Value.okWide Tryz.prog W .any base t v:=hval0
  have hW':=hW
  obtain⟨p,q,hA0,hV,rfl,hfz,hnd⟩:=hW
  have hA:DataW.TrodAll enc Tryz.prog W 0 (λ_=>true) true Tryz.f3.params.toList args.toList ds p:=hA0
  rw[Tryz.params3]at hA hval
  obtain⟨v0,vs0,d0,ds0,p0,q0,hargs,rfl,rfl,h0,r0⟩:=trodAll_cons hA
  obtain⟨rfl,rfl,rfl⟩:=trodAll_nil r0
  obtain rfl:args = #[v0]:=by cases args;simp_all
  obtain⟨rfl,rfl⟩:=trodVars_none hV
  have hbulk:uBs [d0] ≤ 1048576:=by simpa [Rows.uptoSmall]using hbk
  have bk0:uB d0 ≤ 1048576:=by simp only[a1q]at hbulk;omega
  have lt0 : ∀ x∈p0,x.block<W.heap.size:=by obtain⟨m,hm⟩:=h0;exact DataW.trod_lt m _ _ _ hm
  obtain⟨n0,z0,e0,f0,w0⟩:=e7m plain noarr (t:=28) (by decide) (hval 0 28 v0 rfl rfl) h0
  clear hA0 hval0
  refine(e2x a5h (e3n f0 (by omega)) rfl (vs:=#[v0]) hG (i4y e0 e2f)).mono λe W' ⟨he,hg⟩=> ?_
  subst he
  exact⟨_,rfl,a5t (pa:=p0++[]) (pv:=[]) hW' (λ_ _ _=>(trodAll_cons_mk (shut_bool Tryz.underlying4 _) trodAll_mk0)) (λsp hsp=>(trodAll_cons_mk (WideElems.Trod_stays laidOut (by kernel_rfl) (of_decide_eq_true (by kernel_rfl)) h0 (λx hx=>hg.same (lt0 x hx)) (λx hx=>hsp x (by simp[hx]))) trodAll_mk0)) (λ_ _=>rfl) rfl hg (ok_one (by kernel_rfl) rfl (okWide_bool_mk Tryz.underlying4 _))⟩

set_option maxHeartbeats 0 in
theorem over:Rows.PrinterParensUptoSaid:=
  OpenClaim.holds_of_cond 3 Tryz.f3 rfl rfl rfl rfl rfl rfl rfl ⟨rfl,rfl,rfl,rfl,rfl⟩ rfl rfl rfl rfl rfl (by as_aux_lemma=>kernel_rfl) Tryz.func3 (by as_aux_lemma=>kernel_rfl)
    (of_decide_eq_true (by kernel_rfl)) (by unfold Func.isWrapper;first|(rw[if_pos (by decide +kernel)];kernel_rfl)|(rw[if_neg (by decide +kernel)];exact⟨rfl,rfl⟩))
    (λos started H enc _ F=>by rw[OpenClaim.pre_eq_preRow];exact lifted os started H enc F)

set_option maxHeartbeats 0 in
/-- The given statement. -/
theorem proved:Rows.PrinterParensUptoCardSaid:=
  Claim7.holds_tied_plain_at .later [] [.data,.data,.data,.sentinel,.sentinel] true (true,"363b6ae3bb876a8c4958ef63049742faaa1b391758f73535e4f5b8605af66e63") true
    over (λ_ h=>by cases h) (by as_aux_lemma=>kernel_rfl) (λ_ h=>by cases h) printerParensUpto_row_tie rfl ⟨rfl,rfl⟩ (by as_aux_lemma=>kernel_rfl) rfl
    (λf fn hf hfn=>by
      obtain rfl:f=3:=Option.some.inj ((show Tryz.prog.funcNamed "framewise/framewiselaw27.PrinterParens" = some 3 by as_aux_lemma=>kernel_rfl).symm.trans hf) |>.symm
      obtain rfl:fn=Tryz.f3:=(Option.some.inj (Tryz.func3.symm.trans hfn)).symm
      exact⟨by as_aux_lemma=>kernel_rfl,λj t ht=>by
        rw[Tryz.params3]at ht
        rcases j with _|j
        · obtain rfl:t=28:=by simpa using ht.symm
          exact(show Tryz.prog.wantsStandIn 28=false by as_aux_lemma=>kernel_rfl)
        · simp at ht⟩)
    (by as_aux_lemma=>kernel_rfl)
#print axioms proved
end Go.Proofs.YtbpdlcdciffpjaaGreatDoor.printerParensUpto
