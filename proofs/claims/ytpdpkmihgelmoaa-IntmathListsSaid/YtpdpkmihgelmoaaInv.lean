/-
  The walk of Inverse of intmath.
-/
import Derived.Test.YtpdpkmihgelmoaaLaw3
namespace Go.Proofs.Ytpdpkmihgelmoaa
open Go.RowKit

theorem Inv_out (a m : Int) (w : World) (hr : (rng a && rng m) = false) :
    Calls Try.prog 34 #[.int .i64 a, .int .i64 m] w fun e w' => e = .returned (.tuple #[.int .i64 0, .int .i64 2]) ∧ Below w.heap.size w w' := by
  go_enter Try.func34, Try.ntmps34
  go_wp2_with (go_at_call 83; refine (in_two _ _ _).mono ?_; rintro e w' ⟨rfl, rfl⟩)
  go_ret2
  exact ⟨rfl, (Below.refl _ _).alloc (Nat.le_refl _) _⟩
theorem Inv_arg (a m : Int) (w : World) (hr : (rng a && rng m) = true) (hm : m < 1) :
    Calls Try.prog 34 #[.int .i64 a, .int .i64 m] w fun e w' => e = .returned (.tuple #[.int .i64 0, .int .i64 1]) ∧ Below w.heap.size w w' := by
  go_enter Try.func34, Try.ntmps34
  go_wp2_with (go_at_call 83; refine (in_two _ _ _).mono ?_; rintro e w' ⟨rfl, rfl⟩)
  go_ret2
  exact ⟨rfl, (Below.refl _ _).alloc (Nat.le_refl _) _⟩
theorem Inv_none (a m : Int) (w : World) (hra : rng a = true) (hrm : rng m = true) (hm : 1 ≤ m) (hg : ¬ Int.gcd a m = 1) :
    Calls Try.prog 34 #[.int .i64 a, .int .i64 m] w fun e w' => e = .returned (.tuple #[.int .i64 0, .int .i64 9]) ∧ Below w.heap.size w w' := by
  have hg1 : (((Int.gcd a m : Nat) : Int) != 1) = true := by simpa using (show ¬ ((Int.gcd a m : Nat) : Int) = 1 by omega)
  have hg2 : (((Int.gcd a m : Nat) : Int) == 1) = false := by simpa using (show ¬ ((Int.gcd a m : Nat) : Int) = 1 by omega)
  have C := Lib.hid (fun w => Bez_any a m w hra hrm (by omega))
  clear hg
  go_enter Try.func34, Try.ntmps34
  go_wp2_with (first
    | (go_at_call 83; refine (in_two _ _ _).mono ?_; rintro e w' ⟨rfl, rfl⟩)
    | (go_at_call 33; refine (C.out _).mono ?_; rintro e w4 ⟨x, y, rfl, hxy, hb4⟩))
  go_ret2
  exact ⟨rfl, ((Below.refl _ _).alloc (Nat.le_refl _) _).trans (hb4.mono (by simp))⟩
theorem Inv_some (a m : Int) (w : World) (hra : rng a = true) (hrm : rng m = true) (hm : 1 ≤ m) (hg : Int.gcd a m = 1) :
    Calls Try.prog 34 #[.int .i64 a, .int .i64 m] w fun e w' => ∃ x y : Int, e = .returned (.tuple #[.int .i64 x, .int .i64 0]) ∧ Hid (BezOK a m 1 x y) ∧ Below w.heap.size w w' := by
  have c := fun w => Bez_any a m w hra hrm (by omega)
  rw [hg] at c
  have C := Lib.hid c
  clear hg c
  go_enter Try.func34, Try.ntmps34
  go_wp2_with (first
    | (go_at_call 83; refine (in_two _ _ _).mono ?_; rintro e w' ⟨rfl, rfl⟩)
    | (go_at_call 33; refine (C.out _).mono ?_; rintro e w4 ⟨x, y, rfl, hxy, hb4⟩))
  go_ret2
  exact ⟨x, y, rfl, hxy, ((Below.refl _ _).alloc (Nat.le_refl _) _).trans (hb4.mono (by simp))⟩

/-! ### the plain facts of IntmathCommon -/
theorem small_prod {a x : Int} {p q : Nat} (ha : a.natAbs ≤ p) (hx : x.natAbs ≤ q) : (a * x).natAbs ≤ p * q := by
  rw [Int.natAbs_mul]; exact Nat.mul_le_mul ha hx
theorem gcd_times (a b k : Int) : Int.gcd (a * k) (b * k) = Int.gcd a b * k.natAbs := Int.gcd_mul_right ..

set_option maxRecDepth 20000 in
set_option maxHeartbeats 4000000 in
/-- The second number is 0. -/
theorem common_zero (a k : Int) (w : World) (ha1 : -1073741824 ≤ a) (ha2 : a ≤ 1073741824) (hk1 : -1048576 ≤ k) (hk2 : k ≤ 1048576) :
    Calls Try.prog 5 #[.int .i64 a, .int .i64 0, .int .i64 k] w fun e w' => e = .returned (.bool true) ∧ Below w.heap.size w w' := by
  have HW := Lib.hid awake3
  have hra : rng a = true := rng_of (by omega)
  have r0 : rng 0 = true := rng_of (by omega)
  have cg := fun w => Gcd_any a 0 w
  have e1 : vGcd a 0 = (a.natAbs : Int) := by simp [vGcd, hra, r0]
  have e2 : eIn a 0 = 0 := by simp [eIn, hra, r0]
  rw [e1, e2] at cg
  have CG := Lib.hid cg
  have cb := fun w => Bez_zero a w hra
  rw [Int.gcd_zero_right] at cb
  have CB := Lib.hid cb
  have hks := small_prod (a := a) (x := k) (p := 1073741824) (q := 1048576) (by omega) (by omega)
  have hrk : rng (a * k) = true := rng_of (by omega)
  have cm := fun w => Gcd_any (a * k) 0 w
  have e3 : vGcd (a * k) 0 = (a.natAbs : Int) * (k.natAbs : Int) := by simp [vGcd, hrk, r0, Int.natAbs_mul]
  have e4 : eIn (a * k) 0 = 0 := by simp [eIn, hrk, r0]
  rw [e3, e4] at cm
  have CM := Lib.hid cm
  have CI := Lib.hid (fun w => Inv_arg a 0 w (by rw [hra, r0]; rfl) (by omega))
  have mK : (if k < -k then -k else k) = (k.natAbs : Int) := by split <;> omega
  have sa : a * a.sign = (a.natAbs : Int) := Int.mul_sign_self a
  clear cg cb cm e1 e2 e3 e4
  by_cases ha : a = 0
  · subst ha
    go_enter Try.func5, Try.ntmps5
    go_wp2_with (first
      | (go_at_call 15; refine (HW.out _).mono ?_; rintro e w1 ⟨rfl, hb1⟩)
      | (go_at_call 32; ((with_reducible refine (CG.out _).mono ?_); rintro e w2 ⟨rfl, hb2⟩))
      | (go_at_call 33; ((with_reducible refine (CB.out _).mono ?_); rintro e w3 ⟨rfl, hb3⟩)))
    go_ret
    exact ⟨rfl, below_then (below_then hb1 hb2) hb3⟩
  · have a1 : ((a.natAbs : Int) == 0) = false := by simpa using (show ¬ (a.natAbs : Int) = 0 by omega)
    have a2 : (1 : Int) ≤ (a.natAbs : Int) := by omega
    have a3 : (a.natAbs : Int) ≤ 1073741824 := by omega
    have t1 : (a.tmod (a.natAbs : Int) == 0) = true := by simpa using Int.tmod_eq_zero_of_dvd (Int.natAbs_dvd.2 (Int.dvd_refl a))
    have t2 : (a.tmod (a.natAbs : Int) != 0) = false := by simpa using Int.tmod_eq_zero_of_dvd (Int.natAbs_dvd.2 (Int.dvd_refl a))
    have hp : -1125899906842624 ≤ a * k ∧ a * k ≤ 1125899906842624 := by omega
    have hp2 : 0 ≤ (a.natAbs : Int) * (k.natAbs : Int) ∧ (a.natAbs : Int) * (k.natAbs : Int) ≤ 1125899906842624 := by
      have : (a.natAbs : Int) * (k.natAbs : Int) = ((a * k).natAbs : Int) := by rw [Int.natAbs_mul, Int.natCast_mul]
      omega
    have hk3 : (k.natAbs : Int) ≤ 1048576 := by omega
    clear hks ha
    go_enter Try.func5, Try.ntmps5
    go_wp2_with (first
      | (go_at_call 15; refine (HW.out _).mono ?_; rintro e w1 ⟨rfl, hb1⟩)
      | (go_at_call 32; ((with_reducible refine (CG.out _).mono ?_); rintro e w2 ⟨rfl, hb2⟩))
      | (go_at_call 33; ((with_reducible refine (CB.out _).mono ?_); rintro e w3 ⟨rfl, hb3⟩))
      | (go_at_call 32; ((with_reducible refine (CM.out _).mono ?_); rintro e w4 ⟨rfl, hb4⟩))
      | (go_at_call 34; ((with_reducible refine (CI.out _).mono ?_); rintro e w5 ⟨rfl, hb5⟩)))
    go_ret
    exact ⟨rfl, below_then (below_then (below_then (below_then hb1 hb2) hb3) hb4) hb5⟩
end Go.Proofs.Ytpdpkmihgelmoaa
