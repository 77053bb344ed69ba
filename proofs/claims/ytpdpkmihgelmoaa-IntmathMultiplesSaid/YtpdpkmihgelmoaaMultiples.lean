/-
  The walk of IntmathMultiples: for all numbers the law returns true.
-/
import Derived.Test.YtpdpkmihgelmoaaLaw3
namespace Go.Proofs.Ytpdpkmihgelmoaa
open Go.RowKit

/-- The least common multiple of two numbers that are not 0, before it is held against the range. -/
def lcmN (a b : Int) : Nat := a.natAbs / Int.gcd a b * b.natAbs

theorem lcm_facts (a b : Int) (ha : ¬ a = 0) (hb : ¬ b = 0) :
    Int.gcd a b * lcmN a b = a.natAbs * b.natAbs ∧ 1 ≤ lcmN a b ∧ lcmN a b ≤ a.natAbs * b.natAbs ∧ a ∣ (lcmN a b : Int) ∧ b ∣ (lcmN a b : Int) := by
  have hd : Int.gcd a b ∣ a.natAbs := Nat.gcd_dvd_left ..
  have hd2 : Int.gcd a b ∣ b.natAbs := Nat.gcd_dvd_right ..
  have hg : 0 < Int.gcd a b := Int.gcd_pos_iff.2 (Or.inl ha)
  have e1 : Int.gcd a b * (a.natAbs / Int.gcd a b) = a.natAbs := Nat.mul_div_cancel' hd
  have e2 : Int.gcd a b * (b.natAbs / Int.gcd a b) = b.natAbs := Nat.mul_div_cancel' hd2
  have h1 : Int.gcd a b * lcmN a b = a.natAbs * b.natAbs := by unfold lcmN; rw [← Nat.mul_assoc, e1]
  have hpos : 0 < a.natAbs * b.natAbs := Nat.mul_pos (by omega) (by omega)
  refine ⟨h1, ?_, ?_, ?_, ?_⟩
  · refine Classical.byContradiction fun h => ?_
    have : lcmN a b = 0 := by omega
    rw [this] at h1
    omega
  · rw [← h1]; exact Nat.le_mul_of_pos_left _ hg
  · refine Int.natAbs_dvd_natAbs.1 ?_
    have e3 : lcmN a b = a.natAbs * (b.natAbs / Int.gcd a b) := by
      have h2 : Int.gcd a b * lcmN a b = Int.gcd a b * (a.natAbs * (b.natAbs / Int.gcd a b)) := by
        rw [h1, Nat.mul_left_comm, e2]
      exact Nat.eq_of_mul_eq_mul_left hg h2
    simp only [Int.natAbs_natCast]
    rw [e3]
    exact Nat.dvd_mul_right ..
  · refine Int.natAbs_dvd_natAbs.1 ?_
    simp only [Int.natAbs_natCast]
    exact Nat.dvd_mul_left ..

theorem lcm_vals (a b : Int) (hra : rng a = true) (hrb : rng b = true) (ha : ¬ a = 0) (hb : ¬ b = 0) :
    vLcm a b = vR (lcmN a b) ∧ eLcm a b = eR (lcmN a b) := by
  have h1 : (a == 0) = false := by simpa using ha
  have h2 : (b == 0) = false := by simpa using hb
  have ra := rng_yes hra
  have rb := rng_yes hrb
  have hx : rng ((a.natAbs / Int.gcd a b : Nat) : Int) = true := rng_of (by
    have := Nat.div_le_self a.natAbs (Int.gcd a b)
    generalize a.natAbs / Int.gcd a b = x at *
    omega)
  have hy : rng (b.natAbs : Int) = true := rng_of (by omega)
  have e : ((a.natAbs / Int.gcd a b : Nat) : Int) * (b.natAbs : Int) = ((lcmN a b : Nat) : Int) := (Int.natCast_mul _ _).symm
  constructor
  · simp only [vLcm, hra, hrb, Bool.and_self, cond_true, vMul, hx, hy, Bool.true_and, e, vR]
  · simp only [eLcm, hra, hrb, h1, h2, Bool.and_self, Bool.or_self, cond_true, cond_false, eMul, hx, hy, Bool.true_and, e, eR]
theorem mul_vals (x y : Nat) (hx : x ≤ 4611686018427387904) (hy : y ≤ 4611686018427387904) : vMul x y = vR ((x * y : Nat) : Int) ∧ eMul x y = eR ((x * y : Nat) : Int) := by
  have h1 : rng (x : Int) = true := rng_of (by omega)
  have h2 : rng (y : Int) = true := rng_of (by omega)
  have e : (x : Int) * (y : Int) = ((x * y : Nat) : Int) := (Int.natCast_mul _ _).symm
  constructor
  · simp only [vMul, h1, h2, Bool.true_and, e, vR]
  · simp only [eMul, h1, h2, Bool.true_and, e, eR]
theorem vR_in {n : Int} (h : rng n = true) : vR n = n ∧ eR n = 0 := by simp [vR, eR, h]

set_option maxRecDepth 20000 in
set_option maxHeartbeats 2000000 in
theorem multiples_walk (a b : Int) (_wa : (Lit.int .i64 a).wf = true) (_wb : (Lit.int .i64 b).wf = true) (w : World) :
    Calls Try.prog 9 #[.int .i64 a, .int .i64 b] w fun e w' => e = .returned (.bool true) ∧ Below w.heap.size w w' := by
  have HW := Lib.hid awake3
  clear _wa _wb
  cases hra : rng a
  · have h1 : eLcm a b = 2 := by simp [eLcm, hra]
    have c := fun w => Lcm_any a b w
    rw [h1] at c
    have C := Lib.hid c
    clear h1 c
    go_enter Try.func9, Try.ntmps9
    go_wp2_with (first
      | (go_at_call 15; refine (HW.out _).mono ?_; rintro e w1 ⟨rfl, hb1⟩)
      | (go_at_call 16; refine (In_any _ _).mono ?_; rintro e w2 ⟨rfl, rfl⟩)
      | (go_at_call 53; refine (C.out _).mono ?_; rintro e w2 ⟨rfl, hb2⟩))
    go_ret
    exact ⟨rfl, below_then hb1 hb2⟩
  · cases hrb : rng b
    · have h1 : eLcm a b = 2 := by simp [eLcm, hrb]
      have c := fun w => Lcm_any a b w
      rw [h1] at c
      have C := Lib.hid c
      clear h1 c
      go_enter Try.func9, Try.ntmps9
      go_wp2_with (first
        | (go_at_call 15; refine (HW.out _).mono ?_; rintro e w1 ⟨rfl, hb1⟩)
        | (go_at_call 16; refine (In_any _ _).mono ?_; rintro e w2 ⟨rfl, rfl⟩)
        | (go_at_call 53; refine (C.out _).mono ?_; rintro e w2 ⟨rfl, hb2⟩))
      go_ret
      exact ⟨rfl, below_then hb1 hb2⟩
    · have ra := rng_yes hra
      have rb := rng_yes hrb
      have mA : (if a < -a then -a else a) = (a.natAbs : Int) := by split <;> omega
      have mB : (if b < -b then -b else b) = (b.natAbs : Int) := by split <;> omega
      have cg := fun w => Gcd_any a b w
      have eg : vGcd a b = (Int.gcd a b : Int) := by simp [vGcd, hra, hrb]
      have eg2 : eIn a b = 0 := by simp [eIn, hra, hrb]
      rw [eg, eg2] at cg
      have CG := Lib.hid cg
      clear cg eg eg2
      have hxa : (a.natAbs : Int) ≤ 4611686018427387904 := by omega
      have hxb : (b.natAbs : Int) ≤ 4611686018427387904 := by omega
      have hmul := mul_vals a.natAbs b.natAbs (by omega) (by omega)
      have cp := fun w => Mul_any (a.natAbs : Int) (b.natAbs : Int) w
      rw [hmul.1, hmul.2] at cp
      by_cases ha0 : a = 0 ∨ b = 0
      · have r0 : rng 0 = true := rng_of (by omega)
        have rA : rng (a.natAbs : Int) = true := rng_of (by omega)
        have rB : rng (b.natAbs : Int) = true := rng_of (by omega)
        clear cp hmul
        have hcase : a = 0 ∨ (b = 0 ∧ ¬ a = 0) := by omega
        clear ha0
        rcases hcase with rfl | ⟨rfl, ha⟩
        · have cl := fun w => Lcm_any 0 b w
          have q1 : eLcm 0 b = 0 := by simp [eLcm, r0, hrb]
          rw [vLcm_zero 0 b (.inl rfl), q1] at cl
          have CL := Lib.hid cl
          have cp := fun w => Mul_any 0 (b.natAbs : Int) w
          have q2 : vMul 0 (b.natAbs : Int) = 0 := by simp [vMul]
          have q3 : eMul 0 (b.natAbs : Int) = 0 := by simp [eMul, r0, rB]
          rw [q2, q3] at cp
          have CP := Lib.hid cp
          have cm := fun w => Mul_any (b.natAbs : Int) 0 w
          have q4 : vMul (b.natAbs : Int) 0 = 0 := by simp [vMul]
          have q5 : eMul (b.natAbs : Int) 0 = 0 := by simp [eMul, r0, rB]
          rw [q4, q5] at cm
          have CM := Lib.hid cm
          rw [Int.gcd_zero_left] at CG
          clear cl cp cm q1 q2 q3 q4 q5 mA
          go_enter Try.func9, Try.ntmps9
          go_wp2_with (first
            | (go_at_call 15; refine (HW.out _).mono ?_; rintro e w1 ⟨rfl, hb1⟩)
            | (go_at_call 16; refine (In_any _ _).mono ?_; rintro e w2 ⟨rfl, rfl⟩)
            | (go_at_call 32; refine (CG.out _).mono ?_; rintro e w2 ⟨rfl, hb2⟩)
            | (go_at_call 53; refine (CL.out _).mono ?_; rintro e w3 ⟨rfl, hb3⟩)
            | (go_at_call 42; ((with_reducible refine (CP.out _).mono ?_); rintro e w4 ⟨rfl, hb4⟩))
            | (go_at_call 42; ((with_reducible refine (CM.out _).mono ?_); rintro e w5 ⟨rfl, hb5⟩)))
          go_ret
          exact ⟨rfl, below_then (below_then (below_then (below_then hb1 hb2) hb3) hb4) hb5⟩
        · have cl := fun w => Lcm_any a 0 w
          have q1 : eLcm a 0 = 0 := by simp [eLcm, r0, hra]
          rw [vLcm_zero a 0 (.inr rfl), q1] at cl
          have CL := Lib.hid cl
          have cp := fun w => Mul_any (a.natAbs : Int) 0 w
          have q2 : vMul (a.natAbs : Int) 0 = 0 := by simp [vMul]
          have q3 : eMul (a.natAbs : Int) 0 = 0 := by simp [eMul, r0, rA]
          rw [q2, q3] at cp
          have CP := Lib.hid cp
          rw [Int.gcd_zero_right] at CG
          have a1 : (a == 0) = false := by simpa using ha
          have a2 : (a != 0) = true := by simpa using ha
          have CM := CP
          clear cl cp q1 q2 q3 mB
          go_enter Try.func9, Try.ntmps9
          go_wp2_with (first
            | (go_at_call 15; refine (HW.out _).mono ?_; rintro e w1 ⟨rfl, hb1⟩)
            | (go_at_call 16; refine (In_any _ _).mono ?_; rintro e w2 ⟨rfl, rfl⟩)
            | (go_at_call 32; refine (CG.out _).mono ?_; rintro e w2 ⟨rfl, hb2⟩)
            | (go_at_call 53; refine (CL.out _).mono ?_; rintro e w3 ⟨rfl, hb3⟩)
            | (go_at_call 42; ((with_reducible refine (CP.out _).mono ?_); clear CP; rintro e w4 ⟨rfl, hb4⟩))
            | (go_at_call 42; ((with_reducible refine (CM.out _).mono ?_); rintro e w5 ⟨rfl, hb5⟩)))
          go_ret
          exact ⟨rfl, below_then (below_then (below_then (below_then hb1 hb2) hb3) hb4) hb5⟩
      · have ha : ¬ a = 0 := fun h => ha0 (.inl h)
        have hb : ¬ b = 0 := fun h => ha0 (.inr h)
        have hga : Int.gcd a b ≤ a.natAbs := Nat.le_of_dvd (by omega) (Nat.gcd_dvd_left ..)
        obtain ⟨l1, l2, l3, l4, l5⟩ := lcm_facts a b ha hb
        obtain ⟨v1, v2⟩ := lcm_vals a b hra hrb ha hb
        have cl := fun w => Lcm_any a b w
        rw [v1, v2] at cl
        clear v1 v2 hmul
        have a1 : (a == 0) = false := by simpa using ha
        have a2 : (a != 0) = true := by simpa using ha
        have b1 : (b == 0) = false := by simpa using hb
        have b2 : (b != 0) = true := by simpa using hb
        by_cases hL : lcmN a b ≤ 4611686018427387904
        · have hrL : rng ((lcmN a b : Nat) : Int) = true := rng_of (by omega)
          rw [(vR_in hrL).1, (vR_in hrL).2] at cl
          have cm := fun w => Mul_any (Int.gcd a b : Int) ((lcmN a b : Nat) : Int) w
          have hm2 := mul_vals (Int.gcd a b) (lcmN a b) (by omega) hL
          rw [l1] at hm2
          rw [hm2.1, hm2.2] at cm
          clear hm2 hrL
          generalize lcmN a b = L at *
          generalize hP : a.natAbs * b.natAbs = P at *
          have CL := Lib.hid cl
          have t1 : ((L : Int) % a != 0) = false := by simpa using Int.emod_eq_zero_of_dvd l4
          have t2 : ((L : Int) % b != 0) = false := by simpa using Int.emod_eq_zero_of_dvd l5
          have t3 : (1 : Int) ≤ (L : Int) := by omega
          clear cl l1 l4 l5 hP
          by_cases hPin : P ≤ 4611686018427387904
          · have hrP : rng (P : Int) = true := rng_of (by omega)
            rw [(vR_in hrP).1, (vR_in hrP).2] at cp cm
            have CP := Lib.hid cp
            have CM := Lib.hid cm
            clear cp cm hrP hPin
            go_enter Try.func9, Try.ntmps9
            go_wp2_with (first
              | (go_at_call 15; refine (HW.out _).mono ?_; rintro e w1 ⟨rfl, hb1⟩)
              | (go_at_call 16; refine (In_any _ _).mono ?_; rintro e w2 ⟨rfl, rfl⟩)
              | (go_at_call 32; refine (CG.out _).mono ?_; rintro e w2 ⟨rfl, hb2⟩)
              | (go_at_call 53; refine (CL.out _).mono ?_; rintro e w3 ⟨rfl, hb3⟩)
              | (go_at_call 42; ((with_reducible refine (CP.out _).mono ?_); rintro e w4 ⟨rfl, hb4⟩))
              | (go_at_call 42; ((with_reducible refine (CM.out _).mono ?_); rintro e w5 ⟨rfl, hb5⟩)))
            go_ret
            exact ⟨rfl, below_then (below_then (below_then (below_then hb1 hb2) hb3) hb4) hb5⟩
          · have hrP : rng (P : Int) = false := rng_not (by omega)
            rw [(vR_out _ hrP).1, (vR_out _ hrP).2] at cp cm
            have CP := Lib.hid cp
            have CM := Lib.hid cm
            clear cp cm hrP hPin
            go_enter Try.func9, Try.ntmps9
            go_wp2_with (first
              | (go_at_call 15; refine (HW.out _).mono ?_; rintro e w1 ⟨rfl, hb1⟩)
              | (go_at_call 16; refine (In_any _ _).mono ?_; rintro e w2 ⟨rfl, rfl⟩)
              | (go_at_call 32; refine (CG.out _).mono ?_; rintro e w2 ⟨rfl, hb2⟩)
              | (go_at_call 53; refine (CL.out _).mono ?_; rintro e w3 ⟨rfl, hb3⟩)
              | (go_at_call 42; ((with_reducible refine (CP.out _).mono ?_); rintro e w4 ⟨rfl, hb4⟩))
              | (go_at_call 42; ((with_reducible refine (CM.out _).mono ?_); rintro e w5 ⟨rfl, hb5⟩)))
            go_ret
            exact ⟨rfl, below_then (below_then (below_then (below_then hb1 hb2) hb3) hb4) hb5⟩
        · have hrL : rng ((lcmN a b : Nat) : Int) = false := rng_not (by omega)
          rw [(vR_out _ hrL).1, (vR_out _ hrL).2] at cl
          have hrP : rng ((a.natAbs * b.natAbs : Nat) : Int) = false := rng_not (by omega)
          rw [(vR_out _ hrP).1, (vR_out _ hrP).2] at cp
          have CP := Lib.hid cp
          have CL := Lib.hid cl
          clear cp cl hrP hrL l1 l2 l3 l4 l5 hL
          go_enter Try.func9, Try.ntmps9
          go_wp2_with (first
            | (go_at_call 15; refine (HW.out _).mono ?_; rintro e w1 ⟨rfl, hb1⟩)
            | (go_at_call 16; refine (In_any _ _).mono ?_; rintro e w2 ⟨rfl, rfl⟩)
            | (go_at_call 32; refine (CG.out _).mono ?_; rintro e w2 ⟨rfl, hb2⟩)
            | (go_at_call 53; refine (CL.out _).mono ?_; rintro e w3 ⟨rfl, hb3⟩)
            | (go_at_call 42; ((with_reducible refine (CP.out _).mono ?_); rintro e w4 ⟨rfl, hb4⟩)))
          go_ret
          exact ⟨rfl, below_then (below_then (below_then hb1 hb2) hb3) hb4⟩
end Go.Proofs.Ytpdpkmihgelmoaa
