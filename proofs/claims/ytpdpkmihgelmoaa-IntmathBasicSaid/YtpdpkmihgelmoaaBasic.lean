/-
  The walk of IntmathBasic: for all numbers the law returns true.
-/
import Derived.Test.YtpdpkmihgelmoaaLaw3
namespace Go.Proofs.Ytpdpkmihgelmoaa
open Go.RowKit

set_option maxRecDepth 20000 in
set_option maxHeartbeats 2000000 in
theorem basic_walk (a b : Int) (_wa : (Lit.int .i64 a).wf = true) (_wb : (Lit.int .i64 b).wf = true) (w : World) :
    Calls Try.prog 7 #[.int .i64 a, .int .i64 b] w fun e w' => e = .returned (.bool true) ∧ Below w.heap.size w w' := by
  have HW := Lib.hid awake3
  clear _wa _wb
  go_enter Try.func7, Try.ntmps7
  go_wp2_with (first
    | (go_at_call 15; refine (HW.out _).mono ?_; rintro e w1 ⟨rfl, hb1⟩)
    | (go_at_call 38; refine (Add_any _ _ _).mono ?_; rintro e w2 ⟨rfl, hb2⟩)
    | (go_at_call 39; refine (rAdd_any _ _ _).mono ?_; rintro e w3 ⟨rfl, rfl⟩)
    | (go_at_call 40; refine (Sub_any _ _ _).mono ?_; rintro e w4 ⟨rfl, hb4⟩)
    | (go_at_call 41; refine (rSub_any _ _ _).mono ?_; rintro e w5 ⟨rfl, rfl⟩)
    | (go_at_call 42; refine (Mul_any _ _ _).mono ?_; rintro e w6 ⟨rfl, hb6⟩)
    | (go_at_call 43; refine (rMul_any _ _ _).mono ?_; rintro e w7 ⟨rfl, rfl⟩)
    | (go_at_call 17; refine (Div_any _ _ _).mono ?_; rintro e w8 ⟨rfl, hb8⟩)
    | (go_at_call 44; refine (rDiv_any _ _ _).mono ?_; rintro e w9 ⟨rfl, rfl⟩)
    | (go_at_call 18; refine (Mod_any _ _ _).mono ?_; rintro e w10 ⟨rfl, hb10⟩)
    | (go_at_call 45; refine (rMod_any _ _ _).mono ?_; rintro e w11 ⟨rfl, rfl⟩)
    | (go_at_call 19; refine (Ceil_any _ _ _).mono ?_; rintro e w12 ⟨rfl, hb12⟩)
    | (go_at_call 46; refine (rCeil_any _ _ _).mono ?_; rintro e w13 ⟨rfl, rfl⟩))
  go_ret
  exact ⟨ret_bool (by simp), below_then (below_then (below_then (below_then (below_then (below_then hb1 hb2) hb4) hb6) hb8) hb10) hb12⟩
end Go.Proofs.Ytpdpkmihgelmoaa
