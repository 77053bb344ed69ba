/-
  The walks of Mul of the reference, of gcd, Gcd on both sides.
-/
import Derived.Test.YtpdpkmihgelmoaaIntF
import Derived.Deep.RegionWith
namespace Go.Proofs.Ytpdpkmihgelmoaa
open Go.RowKit

set_option maxHeartbeats 400000 in
theorem rMul_any (a b : Int) (w : World) :
    Calls Try.prog 43 #[.int .i64 a, .int .i64 b] w fun e w' => e = .returned (.tuple #[.int .i64 (vMul a b), .int .i64 (eMul a b)]) ∧ w = w' := by
  cases hra : rng a
  · have he : eMul a b = 2 := by simp [eMul, hra]
    have hv : vMul a b = 0 := by simp [vMul, hra]
    rw [he, hv]
    clear he hv
    go_enter Try.func43, Try.ntmps43
    go_wp2_with (go_at_call 16; refine (In_any _ _).mono ?_; rintro e w' ⟨rfl, rfl⟩)
    go_ret2
    exact ⟨rfl, rfl⟩
  · cases hrb : rng b
    · have he : eMul a b = 2 := by simp [eMul, hrb]
      have hv : vMul a b = 0 := by simp [vMul, hrb]
      rw [he, hv]
      clear he hv
      go_enter Try.func43, Try.ntmps43
      go_wp2_with (go_at_call 16; refine (In_any _ _).mono ?_; rintro e w' ⟨rfl, rfl⟩)
      go_ret2
      exact ⟨rfl, rfl⟩
    · have r0 : rng 0 = true := rng_of (by omega)
      by_cases ha0 : a = 0
      · subst ha0
        have he : eMul 0 b = 0 := by simp [eMul, hra, hrb]
        have hv : vMul 0 b = 0 := by simp [vMul]
        rw [he, hv]
        clear he hv
        go_enter Try.func43, Try.ntmps43
        go_wp2_with (go_at_call 16; refine (In_any _ _).mono ?_; rintro e w' ⟨rfl, rfl⟩)
        go_ret2
        exact ⟨rfl, rfl⟩
      · by_cases hb0 : b = 0
        · subst hb0
          have he : eMul a 0 = 0 := by simp [eMul, hra, hrb]
          have hv : vMul a 0 = 0 := by simp [vMul]
          rw [he, hv]
          clear he hv
          have h1 : (a == 0) = false := by simpa using ha0
          go_enter Try.func43, Try.ntmps43
          go_wp2_with (go_at_call 16; refine (In_any _ _).mono ?_; rintro e w' ⟨rfl, rfl⟩)
          go_ret2
          exact ⟨rfl, rfl⟩
        · have ha := Lib.hid (rng_yes hra)
          have hb := Lib.hid (rng_yes hrb)
          have h1 : (a == 0) = false := by simpa using ha0
          have h2 : (b == 0) = false := by simpa using hb0
          have hbp : (1 : Int) ≤ (b.natAbs : Int) := by omega
          have hmul : (a.natAbs * b.natAbs ≤ 4611686018427387904 ↔ a.natAbs ≤ 4611686018427387904 / b.natAbs) := (Nat.le_div_iff_mul_le (by omega)).symm
          rw [mul_abs] at hmul
          by_cases hc : a.natAbs ≤ 4611686018427387904 / b.natAbs
          · have hab := hmul.2 hc
            have hr : rng (a * b) = true := rng_of (by omega)
            have he : eMul a b = 0 := by simp [eMul, hra, hrb, hr]
            have hv : vMul a b = a * b := by simp [vMul, hra, hrb, hr]
            rw [he, hv]
            have hc' : (a.natAbs : Int) ≤ 4611686018427387904 / (b.natAbs : Int) := Int.ofNat_le.2 hc
            have hr1 : -4611686018427387904 ≤ a * b := (rng_yes hr).1
            have hr2 : a * b ≤ 4611686018427387904 := (rng_yes hr).2
            clear he hv hmul hc hab hr r0 ha0 hb0
            go_enter Try.func43, Try.ntmps43
            go_wp2_with (first
              | (go_at_call 16; refine (In_any _ _).mono ?_; rintro e w' ⟨rfl, rfl⟩)
              | (go_at_call 93; refine (rabs_any _ _ (by first | exact ha.out | exact hb.out)).mono ?_; rintro e w' ⟨rfl, rfl⟩))
            go_ret2
            exact ⟨rfl, rfl⟩
          · have hab : ¬ (a * b).natAbs ≤ 4611686018427387904 := fun h => hc (hmul.1 h)
            have hr : rng (a * b) = false := rng_not (by omega)
            have he : eMul a b = 2 := by simp [eMul, hra, hrb, hr]
            have hv : vMul a b = 0 := by simp [vMul, hra, hrb, hr]
            rw [he, hv]
            have hc' : 4611686018427387904 / (b.natAbs : Int) < (a.natAbs : Int) := Int.ofNat_lt.2 (Nat.lt_of_not_le hc)
            clear he hv hmul hc hab hr r0 ha0 hb0
            go_enter Try.func43, Try.ntmps43
            go_wp2_with (first
              | (go_at_call 16; refine (In_any _ _).mono ?_; rintro e w' ⟨rfl, rfl⟩)
              | (go_at_call 93; refine (rabs_any _ _ (by first | exact ha.out | exact hb.out)).mono ?_; rintro e w' ⟨rfl, rfl⟩))
            go_ret2
            exact ⟨rfl, rfl⟩

theorem gcd_step (x y g : Nat) (h : Nat.gcd x y = g) : Nat.gcd y (x % y) = g := by
  rw [← h, Nat.gcd_comm x y, Nat.gcd_rec y x, Nat.gcd_comm]

set_option maxHeartbeats 400000 in
theorem gcd_any (a b : Int) (w : World) (ha : -4611686018427387904 ≤ a ∧ a ≤ 4611686018427387904) (hb : -4611686018427387904 ≤ b ∧ b ≤ 4611686018427387904) :
    Calls Try.prog 84 #[.int .i64 a, .int .i64 b] w fun e w' => e = .returned (.int .i64 (Int.gcd a b : Int)) ∧ ∃ n, w.drewN n = w' := by
  have HA := Lib.hid ha
  have HB := Lib.hid hb
  have hxa : a.natAbs ≤ 4611686018427387904 := by omega
  have hxb : b.natAbs ≤ 4611686018427387904 := by omega
  have HG : Hid (Nat.gcd a.natAbs b.natAbs = Int.gcd a b) := Lib.hid rfl
  clear ha hb
  go_enter Try.func84, Try.ntmps84
  go_wp2_with (go_at_call 85; refine (abs_any _ _ (by first | exact HA.out | exact HB.out)).mono ?_; rintro e w' ⟨rfl, rfl⟩)
  go_loopw [0, 1] (fun p q wr => ∃ x y : Nat, p = .int .i64 x ∧ q = .int .i64 y ∧ x ≤ 4611686018427387904 ∧ y ≤ 4611686018427387904 ∧ Hid (Nat.gcd x y = Int.gcd a b) ∧ ∃ n, w.drewN n = wr) (fun _ q _ => (intOf q).toNat)
  case atStart => exact ⟨_, _, rfl, rfl, hxa, hxb, HG, 0, rfl⟩
  case round =>
    obtain ⟨x, y, rfl, rfl, hx, hy, hg, n, rfl⟩ := hrel
    by_cases h0 : y = 0
    · subst h0
      go_wp2
      go_ret
      exact ⟨ret_int (by have := hg.out; rw [Nat.gcd_zero_right] at this; omega), n, rfl⟩
    · have h1 : ((y : Int) == 0) = false := by simpa using h0
      have h2 : ((y : Int) != 0) = true := by simpa using h0
      have h3 : (1 : Int) ≤ (y : Int) := by omega
      go_wp2
      go_quiet (fail)
      go_wp2
      go_roundw
      case rel => exact ⟨y, x % y, rfl, rfl, hy, by have := Nat.mod_lt x (show 0 < y by omega); omega, Lib.hid (gcd_step x y _ hg.out), _, (World.drewN_drewN _ _ _).symm⟩
      case measure => simp [intOf]; have := Nat.mod_lt x (show 0 < y by omega); omega

/-- Gcd: the value and the error code. -/
def vGcd (a b : Int) : Int := bif rng a && rng b then (Int.gcd a b : Int) else 0
def eIn (a b : Int) : Int := bif rng a && rng b then 0 else 2

theorem below_of_drewN {B : Nat} {a w : World} (h : Below B a w) (n : Nat) : Below B a (w.drewN n) := below_drewN h n

set_option maxHeartbeats 400000 in
theorem Gcd_any (a b : Int) (w : World) :
    Calls Try.prog 32 #[.int .i64 a, .int .i64 b] w fun e w' => e = .returned (.tuple #[.int .i64 (vGcd a b), .int .i64 (eIn a b)]) ∧ Below w.heap.size w w' := by
  cases hr : (rng a && rng b)
  · have he : eIn a b = 2 := by simp [eIn, hr]
    have hv : vGcd a b = 0 := by simp [vGcd, hr]
    rw [he, hv]
    clear he hv
    go_enter Try.func32, Try.ntmps32
    go_wp2_with (go_at_call 83; refine (in_two _ _ _).mono ?_; rintro e w' ⟨rfl, rfl⟩)
    go_ret2
    exact ⟨rfl, (Below.refl _ _).alloc (Nat.le_refl _) _⟩
  · have he : eIn a b = 0 := by simp [eIn, hr]
    have hv : vGcd a b = (Int.gcd a b : Int) := by simp [vGcd, hr]
    rw [he, hv]
    clear he hv
    have hab := Lib.hid (rng_two hr)
    go_enter Try.func32, Try.ntmps32
    go_wp2_with (first
      | (go_at_call 83; refine (in_two _ _ _).mono ?_; rintro e w' ⟨rfl, rfl⟩)
      | (go_at_call 84; refine (gcd_any _ _ _ hab.out.1 hab.out.2).mono ?_; rintro e w' ⟨rfl, n, rfl⟩))
    go_ret2
    exact ⟨rfl, below_drewN ((Below.refl _ _).alloc (Nat.le_refl _) _) _⟩

set_option maxHeartbeats 400000 in
theorem rGcd_any (a b : Int) (w : World) :
    Calls Try.prog 54 #[.int .i64 a, .int .i64 b] w fun e w' => e = .returned (.tuple #[.int .i64 (vGcd a b), .int .i64 (eIn a b)]) ∧ ∃ n, w.drewN n = w' := by
  cases hra : rng a
  · have he : eIn a b = 2 := by simp [eIn, hra]
    have hv : vGcd a b = 0 := by simp [vGcd, hra]
    rw [he, hv]
    clear he hv
    go_enter Try.func54, Try.ntmps54
    go_wp2_with (go_at_call 16; refine (In_any _ _).mono ?_; rintro e w' ⟨rfl, rfl⟩)
    go_ret2
    exact ⟨rfl, 0, rfl⟩
  · cases hrb : rng b
    · have he : eIn a b = 2 := by simp [eIn, hrb]
      have hv : vGcd a b = 0 := by simp [vGcd, hrb]
      rw [he, hv]
      clear he hv
      go_enter Try.func54, Try.ntmps54
      go_wp2_with (go_at_call 16; refine (In_any _ _).mono ?_; rintro e w' ⟨rfl, rfl⟩)
      go_ret2
      exact ⟨rfl, 0, rfl⟩
    · have he : eIn a b = 0 := by simp [eIn, hra, hrb]
      have hv : vGcd a b = (Int.gcd a b : Int) := by simp [vGcd, hra, hrb]
      rw [he, hv]
      clear he hv
      have ha := rng_yes hra
      have hb := rng_yes hrb
      have HA := Lib.hid ha
      have HB := Lib.hid hb
      have hxa : a.natAbs ≤ 4611686018427387904 := by omega
      have hxb : b.natAbs ≤ 4611686018427387904 := by omega
      have HG : Hid (Nat.gcd a.natAbs b.natAbs = Int.gcd a b) := Lib.hid rfl
      clear ha hb
      go_enter Try.func54, Try.ntmps54
      go_wp2_with (first
        | (go_at_call 16; refine (In_any _ _).mono ?_; rintro e w' ⟨rfl, rfl⟩)
        | (go_at_call 93; refine (rabs_any _ _ (by first | exact HA.out | exact HB.out)).mono ?_; rintro e w' ⟨rfl, rfl⟩))
      go_loopw [0, 1] (fun p q wr => ∃ x y : Nat, p = .int .i64 x ∧ q = .int .i64 y ∧ x ≤ 4611686018427387904 ∧ y ≤ 4611686018427387904 ∧ Hid (Nat.gcd x y = Int.gcd a b) ∧ ∃ n, w.drewN n = wr) (fun _ q _ => (intOf q).toNat)
      case atStart => exact ⟨_, _, rfl, rfl, hxa, hxb, HG, 0, rfl⟩
      case round =>
        obtain ⟨x, y, rfl, rfl, hx, hy, hg, n, rfl⟩ := hrel
        by_cases h0 : y = 0
        · subst h0
          go_wp2
          go_ret2
          exact ⟨ret_two' (by have := hg.out; rw [Nat.gcd_zero_right] at this; omega) rfl, n, rfl⟩
        · have h1 : ((y : Int) == 0) = false := by simpa using h0
          have h2 : (0 : Int) < (y : Int) := by omega
          have h3 : (1 : Int) ≤ (y : Int) := by omega
          go_wp2
          go_quiet (fail)
          go_wp2
          go_roundw
          case rel => exact ⟨y, x % y, rfl, rfl, hy, by have := Nat.mod_lt x (show 0 < y by omega); omega, Lib.hid (gcd_step x y _ hg.out), _, (World.drewN_drewN _ _ _).symm⟩
          case measure => simp [intOf]; have := Nat.mod_lt x (show 0 < y by omega); omega

/-! ### Lcm: an absolute value, divided, times the other one -/
def vLcm (a b : Int) : Int := bif rng a && rng b then vMul ((a.natAbs / Int.gcd a b : Nat) : Int) (b.natAbs : Int) else 0
def eLcm (a b : Int) : Int := bif rng a && rng b then (bif a == 0 || b == 0 then 0 else eMul ((a.natAbs / Int.gcd a b : Nat) : Int) (b.natAbs : Int)) else 2
theorem vLcm_zero (a b : Int) (h : a = 0 ∨ b = 0) : vLcm a b = 0 := by
  unfold vLcm
  cases hr : (rng a && rng b)
  · rfl
  · rcases h with rfl | rfl <;> simp [vMul]

set_option maxHeartbeats 400000 in
theorem Lcm_any (a b : Int) (w : World) :
    Calls Try.prog 53 #[.int .i64 a, .int .i64 b] w fun e w' => e = .returned (.tuple #[.int .i64 (vLcm a b), .int .i64 (eLcm a b)]) ∧ Below w.heap.size w w' := by
  cases hr : (rng a && rng b)
  · have he : eLcm a b = 2 := by simp [eLcm, hr]
    have hv : vLcm a b = 0 := by simp [vLcm, hr]
    rw [he, hv]
    clear he hv
    go_enter Try.func53, Try.ntmps53
    go_wp2_with (go_at_call 83; refine (in_two _ _ _).mono ?_; rintro e w' ⟨rfl, rfl⟩)
    go_ret2
    exact ⟨rfl, (Below.refl _ _).alloc (Nat.le_refl _) _⟩
  · by_cases ha0 : a = 0
    · subst ha0
      have he : eLcm 0 b = 0 := by simp [eLcm, hr]
      rw [he, vLcm_zero 0 b (.inl rfl)]
      clear he
      go_enter Try.func53, Try.ntmps53
      go_wp2_with (go_at_call 83; refine (in_two _ _ _).mono ?_; rintro e w' ⟨rfl, rfl⟩)
      go_ret2
      exact ⟨rfl, (Below.refl _ _).alloc (Nat.le_refl _) _⟩
    · have h1 : (a == 0) = false := by simpa using ha0
      by_cases hb0 : b = 0
      · subst hb0
        have he : eLcm a 0 = 0 := by simp [eLcm, hr]
        rw [he, vLcm_zero a 0 (.inr rfl)]
        clear he
        go_enter Try.func53, Try.ntmps53
        go_wp2_with (go_at_call 83; refine (in_two _ _ _).mono ?_; rintro e w' ⟨rfl, rfl⟩)
        go_ret2
        exact ⟨rfl, (Below.refl _ _).alloc (Nat.le_refl _) _⟩
      · have h2 : (b == 0) = false := by simpa using hb0
        have he : eLcm a b = eMul ((a.natAbs / Int.gcd a b : Nat) : Int) (b.natAbs : Int) := by simp [eLcm, hr, h1, h2]
        have hv : vLcm a b = vMul ((a.natAbs / Int.gcd a b : Nat) : Int) (b.natAbs : Int) := by simp [vLcm, hr]
        rw [he, hv]
        clear he hv
        have hab := Lib.hid (rng_two hr)
        have hg : (1 : Int) ≤ (Int.gcd a b : Int) := by
          have := Int.gcd_pos_iff.2 (Or.inl ha0 : a ≠ 0 ∨ b ≠ 0)
          omega
        have hg0 : ((Int.gcd a b : Int) == 0) = false := by simpa using (show ¬ (Int.gcd a b : Int) = 0 by omega)
        have hA : (0 : Int) ≤ (a.natAbs : Int) := by omega
        have hA2 : (a.natAbs : Int) ≤ 4611686018427387904 := by have := hab.out; omega
        have hq : Hid (IntKind.i64.wrap ((a.natAbs : Int) / (Int.gcd a b : Int)) = (a.natAbs : Int) / (Int.gcd a b : Int)) := Lib.hid (by
          have := Nat.div_le_self a.natAbs (Int.gcd a b)
          have e : (a.natAbs : Int) / (Int.gcd a b : Int) = ((a.natAbs / Int.gcd a b : Nat) : Int) := rfl
          rw [e]
          generalize a.natAbs / Int.gcd a b = q at *
          exact IntWalk.i64_in _ (by omega))
        go_enter Try.func53, Try.ntmps53
        go_wp2_with (go_at_call 83; refine (in_two _ _ _).mono ?_; rintro e w' ⟨rfl, rfl⟩)
        go_region_with (first
          | (go_at_call 85; refine (abs_any _ _ (by first | exact hab.out.1 | exact hab.out.2)).mono ?_; rintro e w' ⟨rfl, rfl⟩)
          | (go_at_call 84; refine (gcd_any _ _ _ hab.out.1 hab.out.2).mono ?_; rintro e w' ⟨rfl, n, rfl⟩)
          | (go_at_call 42; refine (Mul_any _ _ _).mono ?_; rintro e w' ⟨rfl, hb⟩))
        all_goals go_wp2
        all_goals go_ret2
        all_goals exact ⟨ret_two' (by show vMul (IntKind.i64.wrap _) _ = _; rw [hq.out]; rfl) (by show eMul (IntKind.i64.wrap _) _ = _; rw [hq.out]; rfl), (below_drewN ((Below.refl _ _).alloc (Nat.le_refl _) _) _).trans (hb.mono (by simp))⟩

set_option maxHeartbeats 400000 in
theorem rLcm_any (a b : Int) (w : World) :
    Calls Try.prog 56 #[.int .i64 a, .int .i64 b] w fun e w' => e = .returned (.tuple #[.int .i64 (vLcm a b), .int .i64 (eLcm a b)]) ∧ ∃ n, w.drewN n = w' := by
  cases hra : rng a
  · have he : eLcm a b = 2 := by simp [eLcm, hra]
    have hv : vLcm a b = 0 := by simp [vLcm, hra]
    rw [he, hv]
    clear he hv
    go_enter Try.func56, Try.ntmps56
    go_wp2_with (go_at_call 16; refine (In_any _ _).mono ?_; rintro e w' ⟨rfl, rfl⟩)
    go_ret2
    exact ⟨rfl, 0, rfl⟩
  · cases hrb : rng b
    · have he : eLcm a b = 2 := by simp [eLcm, hrb]
      have hv : vLcm a b = 0 := by simp [vLcm, hrb]
      rw [he, hv]
      clear he hv
      go_enter Try.func56, Try.ntmps56
      go_wp2_with (go_at_call 16; refine (In_any _ _).mono ?_; rintro e w' ⟨rfl, rfl⟩)
      go_ret2
      exact ⟨rfl, 0, rfl⟩
    · by_cases ha0 : a = 0
      · subst ha0
        have he : eLcm 0 b = 0 := by simp [eLcm, hra, hrb]
        rw [he, vLcm_zero 0 b (.inl rfl)]
        clear he
        go_enter Try.func56, Try.ntmps56
        go_wp2_with (go_at_call 16; refine (In_any _ _).mono ?_; rintro e w' ⟨rfl, rfl⟩)
        go_ret2
        exact ⟨rfl, 0, rfl⟩
      · have h1 : (a == 0) = false := by simpa using ha0
        by_cases hb0 : b = 0
        · subst hb0
          have he : eLcm a 0 = 0 := by simp [eLcm, hra, hrb]
          rw [he, vLcm_zero a 0 (.inr rfl)]
          clear he
          go_enter Try.func56, Try.ntmps56
          go_wp2_with (go_at_call 16; refine (In_any _ _).mono ?_; rintro e w' ⟨rfl, rfl⟩)
          go_ret2
          exact ⟨rfl, 0, rfl⟩
        · have h2 : (b == 0) = false := by simpa using hb0
          have he : eLcm a b = eMul ((a.natAbs / Int.gcd a b : Nat) : Int) (b.natAbs : Int) := by simp [eLcm, hra, hrb, h1, h2]
          have hv : vLcm a b = vMul ((a.natAbs / Int.gcd a b : Nat) : Int) (b.natAbs : Int) := by simp [vLcm, hra, hrb]
          rw [he, hv]
          clear he hv
          have hab := Lib.hid (And.intro (rng_yes hra) (rng_yes hrb))
          have hvg : vGcd a b = (Int.gcd a b : Int) := by simp [vGcd, hra, hrb]
          have H := Lib.hid (rGcd_any a b w)
          rw [hvg] at H
          have hg : (1 : Int) ≤ (Int.gcd a b : Int) := by
            have := Int.gcd_pos_iff.2 (Or.inl ha0 : a ≠ 0 ∨ b ≠ 0)
            omega
          have hg0 : ((Int.gcd a b : Int) == 0) = false := by simpa using (show ¬ (Int.gcd a b : Int) = 0 by omega)
          have hA : (0 : Int) ≤ (a.natAbs : Int) := by omega
          have hA2 : (a.natAbs : Int) ≤ 4611686018427387904 := by have := hab.out; omega
          have hq : Hid (IntKind.i64.wrap ((a.natAbs : Int) / (Int.gcd a b : Int)) = (a.natAbs : Int) / (Int.gcd a b : Int)) := Lib.hid (by
            have := Nat.div_le_self a.natAbs (Int.gcd a b)
            have e : (a.natAbs : Int) / (Int.gcd a b : Int) = ((a.natAbs / Int.gcd a b : Nat) : Int) := rfl
            rw [e]
            generalize a.natAbs / Int.gcd a b = q at *
            exact IntWalk.i64_in _ (by omega))
          clear hvg
          go_enter Try.func56, Try.ntmps56
          go_wp2_with (first
            | (go_at_call 16; refine (In_any _ _).mono ?_; rintro e w' ⟨rfl, rfl⟩)
            | (go_at_call 54; refine H.out.mono ?_; rintro e w' ⟨rfl, n, rfl⟩))
          go_region_with (first
            | (go_at_call 93; refine (rabs_any _ _ (by first | exact hab.out.1 | exact hab.out.2)).mono ?_; rintro e w' ⟨rfl, rfl⟩)
            | (go_at_call 43; refine (rMul_any _ _ _).mono ?_; rintro e w' ⟨rfl, rfl⟩))
          all_goals go_wp2
          all_goals go_ret2
          all_goals exact ⟨ret_two' (by show vMul (IntKind.i64.wrap _) _ = _; rw [hq.out]; rfl) (by show eMul (IntKind.i64.wrap _) _ = _; rw [hq.out]; rfl), _, rfl⟩
end Go.Proofs.Ytpdpkmihgelmoaa
