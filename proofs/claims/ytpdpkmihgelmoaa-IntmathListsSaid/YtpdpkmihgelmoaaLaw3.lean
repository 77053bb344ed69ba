/-
  The walk of awake of the statements about intmath: the examples of the document hold.
-/
import Derived.Test.YtpdpkmihgelmoaaBez
namespace Go.Proofs.Ytpdpkmihgelmoaa
open Go.RowKit

theorem below_then {w w1 w2 : World} (h : Below w.heap.size w w1) (k : Below w1.heap.size w1 w2) : Below w.heap.size w w2 := h.trans (k.mono h.size)
theorem six_bez {x y : Int} (h : BezOK 12 18 ((Int.gcd 12 18 : Nat) : Int) x y) : x = 2 ∧ y = -1 := by
  obtain ⟨h1, h2, h3⟩ := h
  have e : ((Int.gcd 12 18 : Nat) : Int) = 6 := rfl
  have e2 : (((18 : Int).natAbs : Int) / 6) = 3 := rfl
  rw [e] at h1 h3
  rw [e2] at h3
  omega

set_option maxRecDepth 20000 in
set_option maxHeartbeats 1000000 in
theorem awake3 (w : World) : Calls Try.prog 15 #[] w fun e w' => e = .returned (.bool true) ∧ Below w.heap.size w w' := by
  have c1 := Lib.hid (fun w => Div_any (-7) 2 w)
  have e1 : vDiv Int.fdiv (-7) 2 = -4 := rfl
  have e2 : eDiv (-7) 2 = 0 := rfl
  rw [e1, e2] at c1
  have c2 := Lib.hid (fun w => Mod_any (-7) 2 w)
  have e3 : vDiv Int.fmod (-7) 2 = 1 := rfl
  rw [e3, e2] at c2
  have c3 := Lib.hid (fun w => Ceil_any (-7) 2 w)
  have e4 : vDiv cdiv (-7) 2 = -3 := rfl
  rw [e4, e2] at c3
  have c4 := Lib.hid (fun w => Bez_any 12 18 w rfl rfl (by omega))
  have e5 : ((Int.gcd 12 18 : Nat) : Int) = 6 := rfl
  have c5 := Lib.hid (fun W : World => Sum_any (some ⟨W.heap.size, 0, none⟩) 3 3 [4611686018427387904, 4611686018427387904, -4611686018427387904] (W.alloc (.cells #[.int .i64 4611686018427387904, .int .i64 4611686018427387904, .int .i64 (-4611686018427387904)] 3)) (by
    have := Reads.of_new W 3 #[.int .i64 4611686018427387904, .int .i64 4611686018427387904, .int .i64 (-4611686018427387904)]
    simpa using this) (by omega))
  have e6 : vSum [4611686018427387904, 4611686018427387904, -4611686018427387904] = 4611686018427387904 := rfl
  have e7 : eSum [4611686018427387904, 4611686018427387904, -4611686018427387904] = 0 := rfl
  rw [e6, e7] at c5
  clear e1 e2 e3 e4 e5 e6 e7
  go_enter Try.func15, Try.ntmps15
  go_wp2_with (first
    | (go_at_call 17; refine (c1.out _).mono ?_; rintro e w1 ⟨rfl, hb1⟩)
    | (go_at_call 18; refine (c2.out _).mono ?_; rintro e w2 ⟨rfl, hb2⟩)
    | (go_at_call 19; refine (c3.out _).mono ?_; rintro e w3 ⟨rfl, hb3⟩)
    | (go_at_call 33; refine (c4.out _).mono ?_; rintro e w4 ⟨x, y, rfl, hxy, hb4⟩; obtain ⟨rfl, rfl⟩ := six_bez hxy.out)
    | (go_at_call 49; refine (c5.out _).mono ?_; rintro e w5 ⟨rfl, hb5⟩))
  go_ret
  exact ⟨rfl, below_then (below_then (below_then (below_then hb1 hb2) hb3) hb4) (((Below.refl _ _).alloc (Nat.le_refl _) _).trans (hb5.mono (by simp)))⟩
end Go.Proofs.Ytpdpkmihgelmoaa
