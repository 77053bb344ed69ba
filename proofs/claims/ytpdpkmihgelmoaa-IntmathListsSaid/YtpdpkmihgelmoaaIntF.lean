/-
  The walks of Mul of intmath and of the reference, of gcd, Gcd, Gcds, Lcm on both sides.
-/
import Derived.Test.YtpdpkmihgelmoaaIntE
namespace Go.Proofs.Ytpdpkmihgelmoaa
open Go.RowKit

/-- What Mul64 returns for two absolute values, by cases. -/
theorem mul64_cases (x y : Nat) (hx : x ≤ 4611686018427387904) (hy : y ≤ 4611686018427387904) (w : World) :
    (x * y ≤ 4611686018427387904 ∧ Calls Try.prog 92 #[.int .u64 x, .int .u64 y] w fun e w' => e = .returned (.tuple #[.int .u64 0, .int .u64 ((x * y : Nat) : Int)]) ∧ w = w') ∨
    (4611686018427387904 < x * y ∧ ∃ h l : Nat, 0 < h ∧ Calls Try.prog 92 #[.int .u64 x, .int .u64 y] w fun e w' => e = .returned (.tuple #[.int .u64 (h : Int), .int .u64 (l : Int)]) ∧ w = w') ∨
    (4611686018427387904 < x * y ∧ ∃ l : Nat, 4611686018427387904 < l ∧ Calls Try.prog 92 #[.int .u64 x, .int .u64 y] w fun e w' => e = .returned (.tuple #[.int .u64 0, .int .u64 (l : Int)]) ∧ w = w') := by
  have h := bMul64 x y (by omega) (by omega) w
  generalize x * y = p at *
  by_cases hp : p ≤ 4611686018427387904
  · refine .inl ⟨hp, h.mono ?_⟩
    rintro e w' ⟨rfl, rfl⟩
    exact ⟨ret_two' (by omega) (by omega), rfl⟩
  · by_cases hh : p < 18446744073709551616
    · refine .inr (.inr ⟨by omega, p, by omega, h.mono ?_⟩)
      rintro e w' ⟨rfl, rfl⟩
      exact ⟨ret_two' (by omega) (by omega), rfl⟩
    · refine .inr (.inl ⟨by omega, p / 18446744073709551616, p % 18446744073709551616, by omega, h.mono ?_⟩)
      rintro e w' ⟨rfl, rfl⟩
      exact ⟨rfl, rfl⟩

theorem mul_abs (a b : Int) : (a.natAbs * b.natAbs : Nat) = (a * b).natAbs := (Int.natAbs_mul a b).symm
theorem mul_sign_diff (a b : Int) (h : (!decide (a < 0) == decide (b < 0)) = true) : a * b = -((a.natAbs * b.natAbs : Nat) : Int) := by
  rw [Int.natCast_mul]
  by_cases ha : a < 0 <;> by_cases hb : b < 0
  · simp [ha, hb] at h
  · rw [Int.ofNat_natAbs_of_nonpos (by omega), Int.natAbs_of_nonneg (by omega), Int.neg_mul, Int.neg_neg]
  · rw [Int.ofNat_natAbs_of_nonpos (a := b) (by omega), Int.natAbs_of_nonneg (a := a) (by omega), Int.mul_neg, Int.neg_neg]
  · simp [ha, hb] at h
theorem mul_sign_same (a b : Int) (h : (!decide (a < 0) == decide (b < 0)) = false) : a * b = ((a.natAbs * b.natAbs : Nat) : Int) := by
  rw [Int.natCast_mul]
  by_cases ha : a < 0 <;> by_cases hb : b < 0
  · rw [Int.ofNat_natAbs_of_nonpos (by omega), Int.ofNat_natAbs_of_nonpos (by omega), Int.neg_mul_neg]
  · simp [ha, hb] at h
  · simp [ha, hb] at h
  · rw [Int.natAbs_of_nonneg (by omega), Int.natAbs_of_nonneg (by omega)]

set_option maxRecDepth 20000 in
set_option maxHeartbeats 400000 in
theorem Mul_any (a b : Int) (w : World) :
    Calls Try.prog 42 #[.int .i64 a, .int .i64 b] w fun e w' => e = .returned (.tuple #[.int .i64 (vMul a b), .int .i64 (eMul a b)]) ∧ Below w.heap.size w w' := by
  cases hr : (rng a && rng b)
  · have he : eMul a b = 2 := by simp [eMul, hr]
    have hv : vMul a b = 0 := by simp [vMul, hr]
    rw [he, hv]
    clear he hv
    go_enter Try.func42, Try.ntmps42
    go_wp2_with (go_at_call 83; refine (in_two _ _ _).mono ?_; rintro e w' ⟨rfl, rfl⟩)
    go_ret2
    exact ⟨rfl, (Below.refl _ _).alloc (Nat.le_refl _) _⟩
  · obtain ⟨ha, hb⟩ := rng_two hr
    have hspec : (a.natAbs * b.natAbs ≤ 4611686018427387904 → vMul a b = a * b ∧ eMul a b = 0) ∧ (4611686018427387904 < a.natAbs * b.natAbs → vMul a b = 0 ∧ eMul a b = 2) := by
      rw [mul_abs]
      constructor
      · intro h
        have h1 : rng (a * b) = true := rng_of (by omega)
        simp [vMul, eMul, hr, h1]
      · intro h
        have h1 : rng (a * b) = false := rng_not (by omega)
        simp [vMul, eMul, hr, h1]
    have HS := Lib.hid hspec
    clear hspec
    have hsg := Lib.hid (And.intro (mul_sign_diff a b) (mul_sign_same a b))
    have hc := mul64_cases a.natAbs b.natAbs (by omega) (by omega) (w.alloc (.cells #[.int .i64 a, .int .i64 b] 3))
    have hna : (a.natAbs : Int) ≤ 4611686018427387904 := by omega
    have hnb : (b.natAbs : Int) ≤ 4611686018427387904 := by omega
    have HA := Lib.hid ha
    have HB := Lib.hid hb
    have hza : (0 : Int) ≤ (a.natAbs : Int) := by omega
    have hzb : (0 : Int) ≤ (b.natAbs : Int) := by omega
    clear ha hb
    rcases hc with ⟨hp, h⟩ | ⟨hp, h, l, hh, h2⟩ | ⟨hp, l, hl, h2⟩
    · generalize a.natAbs * b.natAbs = p at *
      have H := Lib.hid h
      clear h
      obtain ⟨e1, e2⟩ := HS.out.1 hp
      rw [e1, e2]
      clear e1 e2 HS
      have hp1 : (p : Int) ≤ 4611686018427387904 := by omega
      clear hp
      go_enter Try.func42, Try.ntmps42
      go_wp2_with (first
        | (go_at_call 83; refine (in_two _ _ _).mono ?_; rintro e w' ⟨rfl, rfl⟩)
        | (go_at_call 85; refine (abs_any _ _ (by first | exact HA.out | exact HB.out)).mono ?_; rintro e w' ⟨rfl, rfl⟩)
        | (go_at_call 92; refine H.out.mono ?_; rintro e w' ⟨rfl, rfl⟩))
      all_goals go_ret2
      all_goals first
        | exact ⟨ret_two' (hsg.out.1 ‹_›).symm rfl, (Below.refl _ _).alloc (Nat.le_refl _) _⟩
        | exact ⟨ret_two' (hsg.out.2 ‹_›).symm rfl, (Below.refl _ _).alloc (Nat.le_refl _) _⟩
    · generalize a.natAbs * b.natAbs = p at *
      have H := Lib.hid h2
      clear h2
      obtain ⟨e1, e2⟩ := HS.out.2 hp
      rw [e1, e2]
      clear e1 e2 HS
      have hh1 : (0 : Int) < (h : Int) := by omega
      clear hp hh
      go_enter Try.func42, Try.ntmps42
      go_wp2_with (first
        | (go_at_call 83; refine (in_two _ _ _).mono ?_; rintro e w' ⟨rfl, rfl⟩)
        | (go_at_call 85; refine (abs_any _ _ (by first | exact HA.out | exact HB.out)).mono ?_; rintro e w' ⟨rfl, rfl⟩)
        | (go_at_call 92; refine H.out.mono ?_; rintro e w' ⟨rfl, rfl⟩))
      go_ret2
      exact ⟨rfl, (Below.refl _ _).alloc (Nat.le_refl _) _⟩
    · generalize a.natAbs * b.natAbs = p at *
      have H := Lib.hid h2
      clear h2
      obtain ⟨e1, e2⟩ := HS.out.2 hp
      rw [e1, e2]
      clear e1 e2 HS
      have hh1 : (4611686018427387904 : Int) < (l : Int) := by omega
      clear hp hl
      go_enter Try.func42, Try.ntmps42
      go_wp2_with (first
        | (go_at_call 83; refine (in_two _ _ _).mono ?_; rintro e w' ⟨rfl, rfl⟩)
        | (go_at_call 85; refine (abs_any _ _ (by first | exact HA.out | exact HB.out)).mono ?_; rintro e w' ⟨rfl, rfl⟩)
        | (go_at_call 92; refine H.out.mono ?_; rintro e w' ⟨rfl, rfl⟩))
      go_ret2
      exact ⟨rfl, (Below.refl _ _).alloc (Nat.le_refl _) _⟩
end Go.Proofs.Ytpdpkmihgelmoaa
