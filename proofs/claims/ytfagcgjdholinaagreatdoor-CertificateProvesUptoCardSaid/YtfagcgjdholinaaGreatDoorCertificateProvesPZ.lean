/-
  CertificateProves: for every input the law returns true. The row's proof round the run, and its card.
-/
import Derived.Test.YtfagcgjdholinaaGreatDoorRows
import Derived.Test.YtfagcgjdholinaaGreatDoorCards
import Derived.Test.YtfagcgjdholinaaGreatDoorTie
import Derived.Test.YtfagcgjdholinaaGreatDoorKX7
import Derived.WalkKit
import Derived.ProofKit
import Derived.OpenShut
import Derived.ChangeOld
import Derived.Carry
import Derived.Below
import Derived.LaidLaws
import Derived.JoinedCond
import Derived.SevenTiedAt
namespace Go.Proofs.YtfagcgjdholinaaGreatDoor.certificateProves
open Go.ChangeShapes Go.WideShapes Go.ChangeAt Go.RowKit Go.Pl
set_option linter.unusedVariables false

theorem own : ownKnob Tryz.prog.godebug = none := by kernel_rfl
theorem laidOut : laidOutB Tryz.prog = true := by kernel_rfl
theorem plain : plainT Tryz.prog [37, 26, 24, 87, 29, 27, 23, 3, 9, 4] = true := by kernel_rfl

set_option maxRecDepth 100000 in
theorem laid_met (os : Os) (args : Array Value) : laidMet Tryz.prog Rows.certificateProvesUptoRow.laid ((laidWorld os).forCall (fun _ _ => 0) ⟨#[], args, []⟩).memory :=
  laidMet_of_run' 16 (by kernel_rfl) (by kernel_rfl)

/-- The start that is promised: laid variables, and arguments of limited bulk. -/
def XU {H : Type} (enc : TypeId × Value → H) (w : World) (args : Array Value) : Prop := laidMet Tryz.prog Rows.certificateProvesUptoRow.laid w ∧ (Rows.OpenSpec.upto Rows.certificateProvesSpec).pre enc Tryz.prog Tryz.f4 Rows.certificateProvesUptoRow.domain false w args
theorem XU_heap {H : Type} (enc : TypeId × Value → H) (w w' : World) (args : Array Value) (hh : w.heap = w'.heap) (h : XU enc w args) : XU enc w' args := by
  refine ⟨h.1.of_heap hh, ?_⟩
  obtain ⟨ds, gs, before, a, b, c⟩ := (OpenSpec.pre_some rfl _ _ _ _).1 h.2
  exact (OpenSpec.pre_some rfl _ _ _ _).2 ⟨ds, gs, before, DataW.Whole.of_heap hh a, b, c⟩
set_option maxRecDepth 100000 in
theorem XU_wit {H : Type} (enc : TypeId × Value → H) (os : Os) : XU enc ((laidWorld os).forCall (fun _ _ => 0) ⟨#[], #[.slice none 0 0, .agg #[.int .i64 0, .slice none 0 0], .agg #[.int .i64 0, .slice none 0 0, .int .i64 0, .slice none 0 0, .slice none 0 0]], []⟩).memory #[.slice none 0 0, .agg #[.int .i64 0, .slice none 0 0], .agg #[.int .i64 0, .slice none 0 0, .int .i64 0, .slice none 0 0, .slice none 0 0]] := by
  refine ⟨laid_met os _, (OpenSpec.pre_some rfl _ _ _ _).2 ?_⟩
  have h : (DataW.whole enc Tryz.prog ((laidWorld os).forCall (fun _ _ => 0) ⟨#[], #[.slice none 0 0, .agg #[.int .i64 0, .slice none 0 0], .agg #[.int .i64 0, .slice none 0 0, .int .i64 0, .slice none 0 0, .slice none 0 0]], []⟩).memory Tryz.f4.params.toList (Rows.OpenSpec.upto Rows.certificateProvesSpec).vars false (#[.slice none 0 0, .agg #[.int .i64 0, .slice none 0 0], .agg #[.int .i64 0, .slice none 0 0, .int .i64 0, .slice none 0 0, .slice none 0 0]] : Array Value).toList 16).isSome = true := by kernel_rfl
  have h2 : ((DataW.whole enc Tryz.prog ((laidWorld os).forCall (fun _ _ => 0) ⟨#[], #[.slice none 0 0, .agg #[.int .i64 0, .slice none 0 0], .agg #[.int .i64 0, .slice none 0 0, .int .i64 0, .slice none 0 0, .slice none 0 0]], []⟩).memory Tryz.f4.params.toList (Rows.OpenSpec.upto Rows.certificateProvesSpec).vars false (#[.slice none 0 0, .agg #[.int .i64 0, .slice none 0 0], .agg #[.int .i64 0, .slice none 0 0, .int .i64 0, .slice none 0 0, .slice none 0 0]] : Array Value).toList 16).all fun x => (Rows.certificateProvesUptoRow.domain.all (PathCond.test Tryz.prog ⟨Tryz.f4.params.toList, x.1, (Rows.OpenSpec.upto Rows.certificateProvesSpec).bare.plain.varTypes Tryz.prog, x.2.1⟩) && Rows.uptoSmall H (x.1 ++ x.2.1))) = true := by kernel_rfl
  obtain ⟨x, hx⟩ := Option.isSome_iff_exists.1 h
  rw [hx] at h2
  simp only [Option.all_some, Bool.and_eq_true] at h2
  exact ⟨x.1, x.2.1, x.2.2, DataW.Whole_of_whole hx, h2.1, h2.2⟩

set_option maxRecDepth 100000 in
theorem lifted (os : Os) (started : os.Started) (H : Type) (enc : TypeId × Value → H) :
    ReturnsInHanded {} Tryz.checked os 4 .any (fun w args => (Rows.certificateProvesSpec.pre enc Tryz.prog Tryz.f4 Rows.certificateProvesUptoRow.domain false w args ∧ XU enc w args) ∧ sizedMet enc Tryz.prog Tryz.f4 (OpenSpec.ofChange Rows.certificateProvesSpec) false w args) (Rows.certificateProvesSpec.post enc Tryz.prog Tryz.f4 false true false false) := by
  refine returnsInHanded_of_change_and (C := Tryz.checked) (X := XU enc) (XU_heap enc) own started (by kernel_rfl) Tryz.func4
    (ChangeSpec.witness_at (enc := enc) (C := Tryz.checked) (os := os) (X := XU enc) false (laidWorld os) #[.slice none 0 0, .agg #[.int .i64 0, .slice none 0 0], .agg #[.int .i64 0, .slice none 0 0, .int .i64 0, .slice none 0 0, .slice none 0 0]] 16 rfl (by kernel_rfl) (by kernel_rfl) (by kernel_rfl) (by kernel_rfl) (by kernel_rfl) (XU_wit enc os)) ?_
  intro W base args ds gs before hval0 hW hcnd _ hL _
  obtain ⟨hL, hUp⟩ := hL
  have hG : GlobOK (Φof W) := glob_of hL
  obtain ⟨ds', gs', before', hW2, _, hk⟩ := (OpenSpec.pre_some rfl _ _ _ _).1 hUp
  obtain ⟨p', q', hA2, _⟩ := hW2
  have hval : ∀ (j : Nat) t v, Tryz.f4.params[j]? = some t → args[j]? = some v → Value.okWide Tryz.prog W .any base t v := hval0
  have hW' := hW
  obtain ⟨p, q, hA0, hV, rfl, hfz, hnd⟩ := hW
  have hA : DataW.TrodAll enc Tryz.prog W 0 (fun _ => true) true Tryz.f4.params.toList args.toList ds p := hA0
  rw [Tryz.params4] at hA hval
  obtain ⟨v0, vs0, d0, ds0, p0, q0, hargs, rfl, rfl, h0, r0⟩ := trodAll_cons hA
  obtain ⟨v1, vs1, d1, ds1, p1, q1, rfl, rfl, rfl, h1, r1⟩ := trodAll_cons r0
  obtain ⟨v2, vs2, d2, ds2, p2, q2, rfl, rfl, rfl, h2, r2⟩ := trodAll_cons r1
  obtain ⟨rfl, rfl, rfl⟩ := trodAll_nil r2
  obtain rfl : args = #[v0, v1, v2] := by cases args; simp_all
  obtain ⟨rfl, rfl⟩ := trodVars_none hV
  have lt0 : ∀ x ∈ p0, x.block < W.heap.size := by obtain ⟨m, hm⟩ := h0; exact DataW.trod_lt m _ _ _ hm
  obtain ⟨n0, z0, e0, f0⟩ := arg_fits plain (t := 37) (by decide) (hval 0 37 v0 rfl rfl) h0
  have lt1 : ∀ x ∈ p1, x.block < W.heap.size := by obtain ⟨m, hm⟩ := h1; exact DataW.trod_lt m _ _ _ hm
  obtain ⟨n1, z1, e1, f1⟩ := arg_fits plain (t := 26) (by decide) (hval 1 26 v1 rfl rfl) h1
  have lt2 : ∀ x ∈ p2, x.block < W.heap.size := by obtain ⟨m, hm⟩ := h2; exact DataW.trod_lt m _ _ _ hm
  obtain ⟨n2, z2, e2, f2⟩ := arg_fits plain (t := 29) (by decide) (hval 2 29 v2 rfl rfl) h2
  have hB : ∀ (sz : Nat) (b : Bool) (xs : List PV), mkV Tryz.prog 37 z0 = .sl sz b xs → xs.length ≤ 2000000 := by
    intro sz b xs he
    have hA3 : DataW.TrodAll enc Tryz.prog W 0 (fun _ => true) true Tryz.f4.params.toList #[v0, v1, v2].toList ds' p' := hA2
    rw [Tryz.params4] at hA3
    obtain ⟨u0, us0, c0, cs0, r0', s0', ha, rfl, rfl, k0, _⟩ := trodAll_cons hA3
    have ev : v0 = u0 := by simpa using (List.cons.inj ha).1
    subst ev
    have e0' := e0
    rw [he] at e0'
    have h1 := trod_len under_ls k0 e0'
    have h2 : Rows.uptoBulkAll (c0 :: cs0 ++ gs') ≤ 1048576 := of_decide_eq_true hk
    have h3 := bulk_mem (d := c0) (l := c0 :: cs0 ++ gs') (by simp)
    omega
  clear hA0 hval0
  refine (law_calls ok_lproves (open_lproves f0 f1 f2 hB) rfl (vs := #[v0, v1, v2]) hG (RPLc e0 (RPLc e1 (RPLc e2 RPL_nil)))).mono fun e W' ⟨he, hg⟩ => ?_
  subst he
  exact ⟨_, rfl, post_of_below (pa := p0 ++ (p1 ++ (p2 ++ []))) (pv := []) hW' (fun _ _ _ => (trodAll_cons_mk (shut_bool Tryz.underlying4 _) trodAll_mk0)) (fun sp hsp => (trodAll_cons_mk (WideElems.Trod_stays laidOut (by kernel_rfl) (of_decide_eq_true (by kernel_rfl)) h0 (fun x hx => hg.same (lt0 x hx)) (fun x hx => hsp x (by simp [hx]))) (trodAll_cons_mk (WideElems.Trod_stays laidOut (by kernel_rfl) (of_decide_eq_true (by kernel_rfl)) h1 (fun x hx => hg.same (lt1 x hx)) (fun x hx => hsp x (by simp [hx]))) (trodAll_cons_mk (WideElems.Trod_stays laidOut (by kernel_rfl) (of_decide_eq_true (by kernel_rfl)) h2 (fun x hx => hg.same (lt2 x hx)) (fun x hx => hsp x (by simp [hx]))) trodAll_mk0)))) (fun _ _ => rfl) rfl hg (ok_one (by kernel_rfl) rfl (okWide_bool_mk Tryz.underlying4 _))⟩

theorem pre_eq {H : Type} (enc : TypeId × Value → H) : (fun w args => (Rows.certificateProvesSpec.pre enc Tryz.prog Tryz.f4 Rows.certificateProvesUptoRow.domain false w args ∧ XU enc w args) ∧ sizedMet enc Tryz.prog Tryz.f4 (OpenSpec.ofChange Rows.certificateProvesSpec) false w args) = Rows.certificateProvesUptoRow.pre enc Tryz.prog Tryz.f4 (Rows.OpenSpec.upto Rows.certificateProvesSpec) := by
  funext w args
  refine propext ⟨fun ⟨⟨_, b⟩, c⟩ => ⟨⟨b.2, b.1⟩, c⟩, fun ⟨⟨a, b⟩, c⟩ => ⟨⟨?_, ⟨b, a⟩⟩, c⟩⟩
  obtain ⟨ds, gs, before, h1, h2, _⟩ := (OpenSpec.pre_some rfl _ _ _ _).1 a
  exact ⟨ds, gs, before, h1, h2⟩

theorem over : Rows.certificateProvesUptoRow.holds Tryz.pinned (Rows.OpenSpec.upto Rows.certificateProvesSpec) :=
  OpenClaim.holds_of_cond 4 Tryz.f4 rfl rfl rfl rfl rfl rfl rfl ⟨rfl, rfl, rfl, rfl, rfl⟩ rfl rfl rfl rfl rfl (by kernel_rfl) Tryz.func4 (by kernel_rfl)
    (of_decide_eq_true (by kernel_rfl)) (by unfold Func.isWrapper; first | (rw [if_pos (by decide +kernel)]; kernel_rfl) | (rw [if_neg (by decide +kernel)]; exact ⟨rfl, rfl⟩))
    (fun os started H enc _ F => by
      have h := lifted os started H enc
      rw [pre_eq enc] at h
      exact h)

/-- The given statement. -/
theorem proved : Rows.CertificateProvesUptoCardSaid :=
  Claim7.holds_tied_plain_at .later [] [.data, .data, .data, .sentinel, .sentinel] true (true, "3c717529aa77d657e15210f5ca0d3b61e43f2adc5b1a0cfa4ba1c685e36e1e96") true
    over (fun _ h => by cases h) (by kernel_rfl) (fun _ h => by cases h) certificateProvesUpto_row_tie rfl ⟨rfl, rfl⟩ (by kernel_rfl) rfl
    (fun f fn hf hfn => by
      obtain rfl : f = 4 := Option.some.inj ((show Tryz.prog.funcNamed "framewise/framewiselaw07.CertificateProves" = some 4 by kernel_rfl).symm.trans hf) |>.symm
      obtain rfl : fn = Tryz.f4 := (Option.some.inj (Tryz.func4.symm.trans hfn)).symm
      exact ⟨by kernel_rfl, fun j t ht => by
        rw [Tryz.params4] at ht
        rcases j with _ | _ | _ | j
        · obtain rfl : t = 37 := by simpa using ht.symm
          exact (show Tryz.prog.wantsStandIn 37 = false by kernel_rfl)
        · obtain rfl : t = 26 := by simpa using ht.symm
          exact (show Tryz.prog.wantsStandIn 26 = false by kernel_rfl)
        · obtain rfl : t = 29 := by simpa using ht.symm
          exact (show Tryz.prog.wantsStandIn 29 = false by kernel_rfl)
        · simp at ht⟩)
    (by kernel_rfl)
#print axioms proved
end Go.Proofs.YtfagcgjdholinaaGreatDoor.certificateProves
