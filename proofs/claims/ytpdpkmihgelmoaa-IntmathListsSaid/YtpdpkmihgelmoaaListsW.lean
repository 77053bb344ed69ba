/-
  The walk of IntmathLists.
-/
import Derived.Test.YtpdpkmihgelmoaaSumR
import Derived.Test.YtpdpkmihgelmoaaLaw3
namespace Go.Proofs.Ytpdpkmihgelmoaa
open Go.RowKit

set_option maxHeartbeats 1000000 in
theorem lists_walk (A B : Option Addr) (n c m d : Nat) (xs ys : List Int) (w : World) (hr : Reads w w.heap.size 1 A n (xs.map (Value.int .i64))) (hq : Reads w w.heap.size 1 B m (ys.map (Value.int .i64))) :
    Calls Try.prog 8 #[.slice A n c, .slice B m d] w fun e w' => e = .returned (.bool true) ∧ Below w.heap.size w w' := by
  have HW := Lib.hid awake3
  by_cases hn : n ≤ 60
  · by_cases hm : m ≤ 60
    · have C1 := Lib.hid (fun W (hb : Below w.heap.size w W) => Gcds_any A n c xs W ((hr.below hb).more hb.size) (by omega))
      have C2 := Lib.hid (fun W (hb : Below w.heap.size w W) => rGcds_any A n c xs W ((hr.below hb).more hb.size) (by omega))
      have C3 := Lib.hid (fun W (hb : Below w.heap.size w W) => Sum_any A n c xs W ((hr.below hb).more hb.size) (by omega))
      have C4 := Lib.hid (fun W (hb : Below w.heap.size w W) => rSum_any A n c xs W ((hr.below hb).more hb.size) hn)
      have C5 := Lib.hid (fun W (hb : Below w.heap.size w W) => Dot_any A B n m c d xs ys W ((hr.below hb).more hb.size) ((hq.below hb).more hb.size) (by omega) (by omega))
      have C6 := Lib.hid (fun W (hb : Below w.heap.size w W) => rDot_any A B n m c d xs ys W ((hr.below hb).more hb.size) ((hq.below hb).more hb.size) hn hm)
      clear hr hq
      go_enter Try.func8, Try.ntmps8
      go_wp2_with (first
        | (go_at_call 15; refine (HW.out _).mono ?_; rintro e w1 ⟨rfl, B1⟩)
        | (go_at_call 47; refine (C1.out _ B1).mono ?_; rintro e w2 ⟨rfl, h2⟩; have B2 := B1.trans (h2.mono B1.size); clear h2)
        | (go_at_call 48; refine (C2.out _ B2).mono ?_; rintro e w3 ⟨rfl, h3⟩; have B3 := B2.trans (h3.mono B2.size); clear h3)
        | (go_at_call 49; refine (C3.out _ B3).mono ?_; rintro e w4 ⟨rfl, h4⟩; have B4 := B3.trans (h4.mono B3.size); clear h4)
        | (go_at_call 50; refine (C4.out _ B4).mono ?_; rintro e w5 ⟨rfl, h5⟩; have B5 := B4.trans (h5.mono B4.size); clear h5)
        | (go_at_call 51; refine (C5.out _ B5).mono ?_; rintro e w6 ⟨rfl, h6⟩; have B6 := B5.trans (h6.mono B5.size); clear h6)
        | (go_at_call 52; refine (C6.out _ B6).mono ?_; rintro e w7 ⟨rfl, h7⟩; have B7 := B6.trans (h7.mono B6.size); clear h7))
      go_ret
      exact ⟨rfl, B7⟩
    · clear hr hq
      go_enter Try.func8, Try.ntmps8
      go_wp2_with (go_at_call 15; refine (HW.out _).mono ?_; rintro e w1 ⟨rfl, B1⟩)
      go_ret
      exact ⟨rfl, B1⟩
  · clear hr hq
    go_enter Try.func8, Try.ntmps8
    go_wp2_with (go_at_call 15; refine (HW.out _).mono ?_; rintro e w1 ⟨rfl, B1⟩)
    go_ret
    exact ⟨rfl, B1⟩
end Go.Proofs.Ytpdpkmihgelmoaa
