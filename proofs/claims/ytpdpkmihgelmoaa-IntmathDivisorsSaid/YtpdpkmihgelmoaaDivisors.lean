/-
  The walk of IntmathDivisors: for all numbers the law returns true.
-/
import Derived.Test.YtpdpkmihgelmoaaRefB
namespace Go.Proofs.Ytpdpkmihgelmoaa
open Go.RowKit

/-! ### Inverse of the reference -/
theorem rInv_out (a m : Int) (w : World) (hr : (rng a && rng m) = false) :
    Calls Try.prog 57 #[.int .i64 a, .int .i64 m] w fun e w' => e = .returned (.tuple #[.int .i64 0, .int .i64 2]) ∧ ∃ n, w.drewN n = w' := by
  cases hra : rng a
  · go_enter Try.func57, Try.ntmps57
    go_wp2_with (go_at_call 16; refine (In_any _ _).mono ?_; rintro e w' ⟨rfl, rfl⟩)
    go_ret2
    exact ⟨rfl, 0, rfl⟩
  · cases hrb : rng m
    · go_enter Try.func57, Try.ntmps57
      go_wp2_with (go_at_call 16; refine (In_any _ _).mono ?_; rintro e w' ⟨rfl, rfl⟩)
      go_ret2
      exact ⟨rfl, 0, rfl⟩
    · rw [hra, hrb] at hr; cases hr
theorem rInv_arg (a m : Int) (w : World) (hra : rng a = true) (hrm : rng m = true) (hm : m < 1) :
    Calls Try.prog 57 #[.int .i64 a, .int .i64 m] w fun e w' => e = .returned (.tuple #[.int .i64 0, .int .i64 1]) ∧ ∃ n, w.drewN n = w' := by
  go_enter Try.func57, Try.ntmps57
  go_wp2_with (go_at_call 16; refine (In_any _ _).mono ?_; rintro e w' ⟨rfl, rfl⟩)
  go_ret2
  exact ⟨rfl, 0, rfl⟩
theorem rgcd_val (a m : Int) (hra : rng a = true) (hrm : rng m = true) (w : World) :
    Calls Try.prog 54 #[.int .i64 a, .int .i64 m] w fun e w' => e = .returned (.tuple #[.int .i64 (Int.gcd a m : Int), .int .i64 0]) ∧ ∃ n, w.drewN n = w' := by
  have c := rGcd_any a m w
  have e1 : vGcd a m = (Int.gcd a m : Int) := by simp [vGcd, hra, hrm]
  have e2 : eIn a m = 0 := by simp [eIn, hra, hrm]
  rw [e1, e2] at c
  exact c
theorem rInv_none (a m : Int) (w : World) (hra : rng a = true) (hrm : rng m = true) (hm : 1 ≤ m) (hg : ¬ Int.gcd a m = 1) :
    Calls Try.prog 57 #[.int .i64 a, .int .i64 m] w fun e w' => e = .returned (.tuple #[.int .i64 0, .int .i64 9]) ∧ ∃ n, w.drewN n = w' := by
  have hg1 : (((Int.gcd a m : Nat) : Int) != 1) = true := by simpa using (show ¬ ((Int.gcd a m : Nat) : Int) = 1 by omega)
  have hg2 : (((Int.gcd a m : Nat) : Int) == 1) = false := by simpa using (show ¬ ((Int.gcd a m : Nat) : Int) = 1 by omega)
  have C := Lib.hid (rgcd_val a m hra hrm)
  clear hg
  go_enter Try.func57, Try.ntmps57
  go_wp2_with (first
    | (go_at_call 16; refine (In_any _ _).mono ?_; rintro e w' ⟨rfl, rfl⟩)
    | (go_at_call 54; refine (C.out _).mono ?_; rintro e w' ⟨rfl, n, rfl⟩))
  go_ret2
  exact ⟨rfl, _, rfl⟩
theorem rInv_some (a m : Int) (w : World) (hra : rng a = true) (hrm : rng m = true) (hm : 1 ≤ m) (hg : Int.gcd a m = 1) :
    Calls Try.prog 57 #[.int .i64 a, .int .i64 m] w fun e w' => ∃ x y : Int, e = .returned (.tuple #[.int .i64 x, .int .i64 0]) ∧ Hid (BezOK a m 1 x y) ∧ ∃ n, w.drewN n = w' := by
  have c := rgcd_val a m hra hrm
  rw [hg] at c
  have C := Lib.hid c
  clear c
  by_cases h1 : m = 1
  · subst h1
    clear hg
    go_enter Try.func57, Try.ntmps57
    go_wp2_with (first
      | (go_at_call 16; refine (In_any _ _).mono ?_; rintro e w' ⟨rfl, rfl⟩)
      | (go_at_call 54; refine (C.out _).mono ?_; rintro e w' ⟨rfl, n, rfl⟩))
    go_ret2
    exact ⟨0, 1, rfl, Lib.hid ⟨by omega, by omega, by decide⟩, _, rfl⟩
  · have hm1 : 1 < m := by omega
    have h2 : (m == 1) = false := by simpa using h1
    have hmr := rng_yes hrm
    obtain ⟨M, rfl⟩ := Int.eq_ofNat_of_zero_le (show 0 ≤ m by omega)
    obtain ⟨i1, i2, i3⟩ := fmod_inv (A := a) (B := (M : Int)) (M := M) (by simp) (by omega) hg
    have CI := Lib.hid (fun w => rinverse_any (a.fmod (M : Int)) (M : Int) w i1 i2 hmr.2 i3)
    have IP := Lib.hid (fun (u : Int) h => inv_pair (A := a) (B := (M : Int)) (u := u) (M := M) (by simp) (by omega) h)
    have cmod := fun w => rMod_any a (M : Int) w
    have hM0 : ((M : Int) == 0) = false := by simpa using (show ¬ M = 0 by omega)
    have q1 : vDiv Int.fmod a (M : Int) = a.fmod (M : Int) := by simp only [vDiv, hra, hrm, hM0, Bool.and_self, Bool.not_false, cond_true]
    have q2 : eDiv a (M : Int) = 0 := by simp only [eDiv, hra, hrm, hM0, Bool.and_self, cond_true, cond_false]
    rw [q1, q2] at cmod
    have CM := Lib.hid cmod
    have h3 : ((M : Int) == 1) = false := h2
    clear cmod q1 q2 hg i1 i2 i3 h1
    go_enter Try.func57, Try.ntmps57
    go_wp2_with (first
      | (go_at_call 16; refine (In_any _ _).mono ?_; rintro e w' ⟨rfl, rfl⟩)
      | (go_at_call 54; refine (C.out _).mono ?_; rintro e w' ⟨rfl, n, rfl⟩)
      | (go_at_call 45; refine (CM.out _).mono ?_; rintro e w' ⟨rfl, rfl⟩)
      | (go_at_call 97; refine (CI.out _).mono ?_; rintro e w' ⟨u, rfl, hu, rfl⟩))
    go_ret2
    obtain ⟨y, hy, -⟩ := IP.out u hu.out
    exact ⟨u, y, rfl, Lib.hid ⟨by omega, hu.out.1, by have := hu.out.2.1; simpa using this⟩, _, rfl⟩

/-! ### both sides give one pair, and one inverse -/
theorem below_then_draw {w w1 : World} (h : Below w.heap.size w w1) (n : Nat) : Below w.heap.size w (w1.drewN n) := below_drewN h n

theorem bez_same {a b x y u v : Int} (h0 : ¬ b = 0) (h : BezOK a b ((Int.gcd a b : Nat) : Int) x y) (k : BezOK a b ((Int.gcd a b : Nat) : Int) u v) : x = u ∧ y = v :=
  bez_one (by omega) (Int.gcd_dvd_left ..) (Int.gcd_dvd_right ..) rfl h k
theorem inv_same {a m x y u v : Int} (hm : 1 ≤ m) (hg : Int.gcd a m = 1) (h : BezOK a m 1 x y) (k : BezOK a m 1 u v) : x = u := by
  have e : (1 : Int) = ((Int.gcd a m : Nat) : Int) := by rw [hg]; rfl
  rw [e] at h k
  exact (bez_same (by omega) h k).1

set_option maxRecDepth 20000 in
set_option maxHeartbeats 2000000 in
theorem divisors_walk (a b : Int) (_wa : (Lit.int .i64 a).wf = true) (_wb : (Lit.int .i64 b).wf = true) (w : World) :
    Calls Try.prog 10 #[.int .i64 a, .int .i64 b] w fun e w' => e = .returned (.bool true) ∧ Below w.heap.size w w' := by
  have HW := Lib.hid awake3
  clear _wa _wb
  cases hr : (rng a && rng b)
  · have C1 := Lib.hid (fun w => Bez_out a b w hr)
    have C2 := Lib.hid (fun w => rBez_out a b w hr)
    have C3 := Lib.hid (fun w => Inv_out a b w hr)
    have C4 := Lib.hid (fun w => rInv_out a b w hr)
    clear hr
    go_enter Try.func10, Try.ntmps10
    go_wp2_with (first
      | (go_at_call 15; refine (HW.out _).mono ?_; rintro e w1 ⟨rfl, hb1⟩)
      | (go_at_call 32; refine (Gcd_any _ _ _).mono ?_; rintro e w2 ⟨rfl, hb2⟩)
      | (go_at_call 54; refine (rGcd_any _ _ _).mono ?_; rintro e w3 ⟨rfl, n3, rfl⟩)
      | (go_at_call 33; refine (C1.out _).mono ?_; rintro e w4 ⟨rfl, hb4⟩)
      | (go_at_call 55; refine (C2.out _).mono ?_; rintro e w5 ⟨rfl, n5, rfl⟩)
      | (go_at_call 53; refine (Lcm_any _ _ _).mono ?_; rintro e w6 ⟨rfl, hb6⟩)
      | (go_at_call 56; refine (rLcm_any _ _ _).mono ?_; rintro e w7 ⟨rfl, n7, rfl⟩)
      | (go_at_call 34; refine (C3.out _).mono ?_; rintro e w8 ⟨rfl, hb8⟩)
      | (go_at_call 57; refine (C4.out _).mono ?_; rintro e w9 ⟨rfl, n9, rfl⟩))
    go_ret
    exact ⟨rfl, below_drewN (below_then (below_drewN (below_then (below_drewN (below_then (below_drewN (below_then hb1 hb2) n3) hb4) n5) hb6) n7) hb8) n9⟩
  · have hra : rng a = true := by cases h : rng a <;> simp_all
    have hrb : rng b = true := by cases h : rng b <;> simp_all
    clear hr
    by_cases h0 : b = 0
    · subst h0
      have C1 := Lib.hid (fun w => Bez_zero a w hra)
      have C2 := Lib.hid (fun w => rBez_zero a w hra)
      have C3 := Lib.hid (fun w => Inv_arg a 0 w (by rw [hra, hrb]; rfl) (by omega))
      have C4 := Lib.hid (fun w => rInv_arg a 0 w hra hrb (by omega))
      go_enter Try.func10, Try.ntmps10
      go_wp2_with (first
        | (go_at_call 15; refine (HW.out _).mono ?_; rintro e w1 ⟨rfl, hb1⟩)
        | (go_at_call 32; refine (Gcd_any _ _ _).mono ?_; rintro e w2 ⟨rfl, hb2⟩)
        | (go_at_call 54; refine (rGcd_any _ _ _).mono ?_; rintro e w3 ⟨rfl, n3, rfl⟩)
        | (go_at_call 33; refine (C1.out _).mono ?_; rintro e w4 ⟨rfl, hb4⟩)
        | (go_at_call 55; refine (C2.out _).mono ?_; rintro e w5 ⟨rfl, n5, rfl⟩)
        | (go_at_call 53; refine (Lcm_any _ _ _).mono ?_; rintro e w6 ⟨rfl, hb6⟩)
        | (go_at_call 56; refine (rLcm_any _ _ _).mono ?_; rintro e w7 ⟨rfl, n7, rfl⟩)
        | (go_at_call 34; refine (C3.out _).mono ?_; rintro e w8 ⟨rfl, hb8⟩)
        | (go_at_call 57; refine (C4.out _).mono ?_; rintro e w9 ⟨rfl, n9, rfl⟩))
      go_ret
      exact ⟨rfl, below_drewN (below_then (below_drewN (below_then (below_drewN (below_then (below_drewN (below_then hb1 hb2) n3) hb4) n5) hb6) n7) hb8) n9⟩
    · have C1 := Lib.hid (fun w => Bez_any a b w hra hrb h0)
      have C2 := Lib.hid (fun w => rBez_any a b w hra hrb h0)
      by_cases hneg : b < 1
      · have C3 := Lib.hid (fun w => Inv_arg a b w (by rw [hra, hrb]; rfl) hneg)
        have C4 := Lib.hid (fun w => rInv_arg a b w hra hrb hneg)
        go_enter Try.func10, Try.ntmps10
        go_wp2_with (first
          | (go_at_call 15; refine (HW.out _).mono ?_; rintro e w1 ⟨rfl, hb1⟩)
          | (go_at_call 32; refine (Gcd_any _ _ _).mono ?_; rintro e w2 ⟨rfl, hb2⟩)
          | (go_at_call 54; refine (rGcd_any _ _ _).mono ?_; rintro e w3 ⟨rfl, n3, rfl⟩)
          | (go_at_call 33; refine (C1.out _).mono ?_; rintro e w4 ⟨x, y, rfl, hxy, hb4⟩)
          | (go_at_call 55; refine (C2.out _).mono ?_; rintro e w5 ⟨u, v, rfl, huv, n5, rfl⟩; obtain ⟨rfl, rfl⟩ := bez_same h0 hxy.out huv.out)
          | (go_at_call 53; refine (Lcm_any _ _ _).mono ?_; rintro e w6 ⟨rfl, hb6⟩)
          | (go_at_call 56; refine (rLcm_any _ _ _).mono ?_; rintro e w7 ⟨rfl, n7, rfl⟩)
          | (go_at_call 34; refine (C3.out _).mono ?_; rintro e w8 ⟨rfl, hb8⟩)
          | (go_at_call 57; refine (C4.out _).mono ?_; rintro e w9 ⟨rfl, n9, rfl⟩))
        go_ret
        exact ⟨rfl, below_drewN (below_then (below_drewN (below_then (below_drewN (below_then (below_drewN (below_then hb1 hb2) n3) hb4) n5) hb6) n7) hb8) n9⟩
      · have hpos : 1 ≤ b := by omega
        by_cases hg : Int.gcd a b = 1
        · have C3 := Lib.hid (fun w => Inv_some a b w hra hrb hpos hg)
          have C4 := Lib.hid (fun w => rInv_some a b w hra hrb hpos hg)
          have HG := Lib.hid hg
          clear hg
          go_enter Try.func10, Try.ntmps10
          go_wp2_with (first
            | (go_at_call 15; refine (HW.out _).mono ?_; rintro e w1 ⟨rfl, hb1⟩)
            | (go_at_call 32; refine (Gcd_any _ _ _).mono ?_; rintro e w2 ⟨rfl, hb2⟩)
            | (go_at_call 54; refine (rGcd_any _ _ _).mono ?_; rintro e w3 ⟨rfl, n3, rfl⟩)
            | (go_at_call 33; refine (C1.out _).mono ?_; rintro e w4 ⟨x, y, rfl, hxy, hb4⟩)
            | (go_at_call 55; refine (C2.out _).mono ?_; rintro e w5 ⟨u, v, rfl, huv, n5, rfl⟩; obtain ⟨rfl, rfl⟩ := bez_same h0 hxy.out huv.out)
            | (go_at_call 53; refine (Lcm_any _ _ _).mono ?_; rintro e w6 ⟨rfl, hb6⟩)
            | (go_at_call 56; refine (rLcm_any _ _ _).mono ?_; rintro e w7 ⟨rfl, n7, rfl⟩)
            | (go_at_call 34; refine (C3.out _).mono ?_; rintro e w8 ⟨p, q, rfl, hpq, hb8⟩)
            | (go_at_call 57; refine (C4.out _).mono ?_; rintro e w9 ⟨r, t, rfl, hrt, n9, rfl⟩; obtain rfl := inv_same hpos HG.out hpq.out hrt.out))
          go_ret
          exact ⟨rfl, below_drewN (below_then (below_drewN (below_then (below_drewN (below_then (below_drewN (below_then hb1 hb2) n3) hb4) n5) hb6) n7) hb8) n9⟩
        · have C3 := Lib.hid (fun w => Inv_none a b w hra hrb hpos hg)
          have C4 := Lib.hid (fun w => rInv_none a b w hra hrb hpos hg)
          clear hg
          go_enter Try.func10, Try.ntmps10
          go_wp2_with (first
            | (go_at_call 15; refine (HW.out _).mono ?_; rintro e w1 ⟨rfl, hb1⟩)
            | (go_at_call 32; refine (Gcd_any _ _ _).mono ?_; rintro e w2 ⟨rfl, hb2⟩)
            | (go_at_call 54; refine (rGcd_any _ _ _).mono ?_; rintro e w3 ⟨rfl, n3, rfl⟩)
            | (go_at_call 33; refine (C1.out _).mono ?_; rintro e w4 ⟨x, y, rfl, hxy, hb4⟩)
            | (go_at_call 55; refine (C2.out _).mono ?_; rintro e w5 ⟨u, v, rfl, huv, n5, rfl⟩; obtain ⟨rfl, rfl⟩ := bez_same h0 hxy.out huv.out)
            | (go_at_call 53; refine (Lcm_any _ _ _).mono ?_; rintro e w6 ⟨rfl, hb6⟩)
            | (go_at_call 56; refine (rLcm_any _ _ _).mono ?_; rintro e w7 ⟨rfl, n7, rfl⟩)
            | (go_at_call 34; refine (C3.out _).mono ?_; rintro e w8 ⟨rfl, hb8⟩)
            | (go_at_call 57; refine (C4.out _).mono ?_; rintro e w9 ⟨rfl, n9, rfl⟩))
          go_ret
          exact ⟨rfl, below_drewN (below_then (below_drewN (below_then (below_drewN (below_then (below_drewN (below_then hb1 hb2) n3) hb4) n5) hb6) n7) hb8) n9⟩
end Go.Proofs.Ytpdpkmihgelmoaa
