/-
  The walks of Sub and Mul of intmath, of math/bits.Mul64, and of the reference's Add, Sub, Mul.
-/
import Derived.Test.YtpdpkmihgelmoaaIntD
namespace Go.Proofs.Ytpdpkmihgelmoaa
open Go.RowKit

theorem ret_two' {k l : IntKind} {a b c d : Int} (h1 : a = c) (h2 : b = d) : Ending.returned (.tuple #[.int k a, .int l b]) = .returned (.tuple #[.int k c, .int l d]) := by rw [h1, h2]

set_option maxHeartbeats 400000 in
theorem Sub_any (a b : Int) (w : World) :
    Calls Try.prog 40 #[.int .i64 a, .int .i64 b] w fun e w' => e = .returned (.tuple #[.int .i64 (vAdd a (-b)), .int .i64 (eAdd a (-b))]) ∧ Below w.heap.size w w' := by
  cases hr : (rng a && rng b)
  · have he : eAdd a (-b) = 2 := by simp [eAdd, rng_neg, hr]
    have hv : vAdd a (-b) = 0 := by simp [vAdd, rng_neg, hr]
    rw [he, hv]
    clear he hv
    go_enter Try.func40, Try.ntmps40
    go_wp2_with (go_at_call 83; refine (in_two _ _ _).mono ?_; rintro e w' ⟨rfl, rfl⟩)
    go_ret2
    exact ⟨rfl, (Below.refl _ _).alloc (Nat.le_refl _) _⟩
  · obtain ⟨ha, hb⟩ := rng_two hr
    obtain ⟨hb1, hb2⟩ := hb
    go_enter Try.func40, Try.ntmps40
    go_wp2_with (first
      | (go_at_call 83; refine (in_two _ _ _).mono ?_; rintro e w' ⟨rfl, rfl⟩)
      | (go_at_call 38; refine (Add_any _ _ _).mono ?_; rintro e w' ⟨rfl, hb⟩))
    go_ret2
    exact ⟨rfl, ((Below.refl _ _).alloc (Nat.le_refl _) _).trans (hb.mono (by simp))⟩

set_option maxHeartbeats 400000 in
theorem rAdd_any (a b : Int) (w : World) :
    Calls Try.prog 39 #[.int .i64 a, .int .i64 b] w fun e w' => e = .returned (.tuple #[.int .i64 (vAdd a b), .int .i64 (eAdd a b)]) ∧ w = w' := by
  cases hra : rng a
  · have he : eAdd a b = 2 := by simp [eAdd, hra]
    have hv : vAdd a b = 0 := by simp [vAdd, hra]
    rw [he, hv]
    clear he hv
    go_enter Try.func39, Try.ntmps39
    go_wp2_with (go_at_call 16; refine (In_any _ _).mono ?_; rintro e w' ⟨rfl, rfl⟩)
    go_ret2
    exact ⟨rfl, rfl⟩
  · cases hrb : rng b
    · have he : eAdd a b = 2 := by simp [eAdd, hrb]
      have hv : vAdd a b = 0 := by simp [vAdd, hrb]
      rw [he, hv]
      clear he hv
      go_enter Try.func39, Try.ntmps39
      go_wp2_with (go_at_call 16; refine (In_any _ _).mono ?_; rintro e w' ⟨rfl, rfl⟩)
      go_ret2
      exact ⟨rfl, rfl⟩
    · have ha := rng_yes hra
      have hb := rng_yes hrb
      have hspec : (rng (a + b) = true → vAdd a b = a + b ∧ eAdd a b = 0) ∧ (rng (a + b) = false → vAdd a b = 0 ∧ eAdd a b = 2) := by
        constructor <;> intro h <;> simp [vAdd, eAdd, hra, hrb, h]
      have HS := Lib.hid hspec
      clear hspec
      obtain ⟨ha1, ha2⟩ := ha
      obtain ⟨hb1, hb2⟩ := hb
      have no : ¬ (-4611686018427387904 ≤ a + b ∧ a + b ≤ 4611686018427387904) → vAdd a b = 0 ∧ eAdd a b = 2 := fun h => HS.out.2 (rng_not h)
      have yes : (-4611686018427387904 ≤ a + b ∧ a + b ≤ 4611686018427387904) → vAdd a b = a + b ∧ eAdd a b = 0 := fun h => HS.out.1 (rng_of h)
      have NO := Lib.hid no
      have YES := Lib.hid yes
      clear no yes HS
      by_cases hpos : 0 < a
      · by_cases hin : a + b ≤ 4611686018427387904
        · go_enter Try.func39, Try.ntmps39
          go_wp2_with (go_at_call 16; refine (In_any _ _).mono ?_; rintro e w' ⟨rfl, rfl⟩)
          go_ret2
          obtain ⟨e1, e2⟩ := YES.out (by omega)
          exact ⟨ret_two' e1.symm e2.symm, rfl⟩
        · go_enter Try.func39, Try.ntmps39
          go_wp2_with (go_at_call 16; refine (In_any _ _).mono ?_; rintro e w' ⟨rfl, rfl⟩)
          go_ret2
          obtain ⟨e1, e2⟩ := NO.out (by omega)
          exact ⟨ret_two' e1.symm e2.symm, rfl⟩
      · by_cases hneg : a < 0
        · by_cases hin : -4611686018427387904 ≤ a + b
          · go_enter Try.func39, Try.ntmps39
            go_wp2_with (go_at_call 16; refine (In_any _ _).mono ?_; rintro e w' ⟨rfl, rfl⟩)
            go_ret2
            obtain ⟨e1, e2⟩ := YES.out (by omega)
            exact ⟨ret_two' e1.symm e2.symm, rfl⟩
          · go_enter Try.func39, Try.ntmps39
            go_wp2_with (go_at_call 16; refine (In_any _ _).mono ?_; rintro e w' ⟨rfl, rfl⟩)
            go_ret2
            obtain ⟨e1, e2⟩ := NO.out (by omega)
            exact ⟨ret_two' e1.symm e2.symm, rfl⟩
        · go_enter Try.func39, Try.ntmps39
          go_wp2_with (go_at_call 16; refine (In_any _ _).mono ?_; rintro e w' ⟨rfl, rfl⟩)
          go_ret2
          obtain ⟨e1, e2⟩ := YES.out (by omega)
          exact ⟨ret_two' e1.symm e2.symm, rfl⟩

set_option maxHeartbeats 400000 in
theorem rSub_any (a b : Int) (w : World) :
    Calls Try.prog 41 #[.int .i64 a, .int .i64 b] w fun e w' => e = .returned (.tuple #[.int .i64 (vAdd a (-b)), .int .i64 (eAdd a (-b))]) ∧ w = w' := by
  cases hra : rng a
  · have he : eAdd a (-b) = 2 := by simp [eAdd, hra]
    have hv : vAdd a (-b) = 0 := by simp [vAdd, hra]
    rw [he, hv]
    clear he hv
    go_enter Try.func41, Try.ntmps41
    go_wp2_with (go_at_call 16; refine (In_any _ _).mono ?_; rintro e w' ⟨rfl, rfl⟩)
    go_ret2
    exact ⟨rfl, rfl⟩
  · cases hrb : rng b
    · have he : eAdd a (-b) = 2 := by simp [eAdd, rng_neg, hrb]
      have hv : vAdd a (-b) = 0 := by simp [vAdd, rng_neg, hrb]
      rw [he, hv]
      clear he hv
      go_enter Try.func41, Try.ntmps41
      go_wp2_with (go_at_call 16; refine (In_any _ _).mono ?_; rintro e w' ⟨rfl, rfl⟩)
      go_ret2
      exact ⟨rfl, rfl⟩
    · have hb := rng_yes hrb
      obtain ⟨hb1, hb2⟩ := hb
      go_enter Try.func41, Try.ntmps41
      go_wp2_with (first
        | (go_at_call 16; refine (In_any _ _).mono ?_; rintro e w' ⟨rfl, rfl⟩)
        | (go_at_call 39; refine (rAdd_any _ _ _).mono ?_; rintro e w' ⟨rfl, rfl⟩))
      go_ret2
      exact ⟨rfl, rfl⟩

/-! ### math/bits.Mul64 -/
theorem maskN (a : Nat) (ha : a < 18446744073709551616) : bits .and .u64 (a : Int) 4294967295 = ((a % 4294967296 : Nat) : Int) := by
  have h := bits_and_u64_nat a 4294967295 ha (by omega)
  have e : a &&& 4294967295 = a % 4294967296 := Nat.and_two_pow_sub_one_eq_mod a 32
  rw [e] at h
  exact h
theorem divN (a : Nat) : (a : Int) / 4294967296 = ((a / 4294967296 : Nat) : Int) := by omega
theorem mulN (a b : Nat) : (a : Int) * (b : Int) = ((a * b : Nat) : Int) := (Int.natCast_mul a b).symm
theorem addN (a b : Nat) : (a : Int) + (b : Int) = ((a + b : Nat) : Int) := (Int.natCast_add a b).symm
theorem wrapN (a : Nat) (ha : a < 18446744073709551616) : IntKind.u64.wrap (a : Int) = (a : Int) := by rw [IntKind.wrap_u64]; omega
theorem wrapM (a : Nat) : IntKind.u64.wrap (a : Int) = ((a % 18446744073709551616 : Nat) : Int) := by rw [IntKind.wrap_u64]; omega

set_option maxHeartbeats 1000000 in
theorem bMul64 (x y : Nat) (hx : x < 18446744073709551616) (hy : y < 18446744073709551616) (w : World) :
    Calls Try.prog 92 #[.int .u64 x, .int .u64 y] w fun e w' => e = .returned (.tuple #[.int .u64 ((x * y / 18446744073709551616 : Nat) : Int), .int .u64 ((x * y % 18446744073709551616 : Nat) : Int)]) ∧ w' = w := by
  obtain ⟨bd, bt, bw, hhi⟩ := Lib.mul64_hi x y hx hy
  have ba := Lib.half_mul_le (a := x / 4294967296) (b := y / 4294967296) (by omega) (by omega)
  have bb := Lib.half_mul_le (a := x / 4294967296) (b := y % 4294967296) (by omega) (by omega)
  have bc := Lib.half_mul_le (a := x % 4294967296) (b := y / 4294967296) (by omega) (by omega)
  have ba' : x / 4294967296 * (y / 4294967296) < 18446744073709551616 := by omega
  have bb' : x / 4294967296 * (y % 4294967296) < 18446744073709551616 := by omega
  have bc' : x % 4294967296 * (y / 4294967296) < 18446744073709551616 := by omega
  have bh1 : x / 4294967296 * (y / 4294967296) + (x / 4294967296 * (y % 4294967296) + x % 4294967296 * (y % 4294967296) / 4294967296) / 4294967296 < 18446744073709551616 := by omega
  have bh : x / 4294967296 * (y / 4294967296) + (x / 4294967296 * (y % 4294967296) + x % 4294967296 * (y % 4294967296) / 4294967296) / 4294967296 + ((x / 4294967296 * (y % 4294967296) + x % 4294967296 * (y % 4294967296) / 4294967296) % 4294967296 + x % 4294967296 * (y / 4294967296)) / 4294967296 < 18446744073709551616 := by omega
  have HH := Lib.hid hhi
  clear hhi
  go_enter Try.func92, Try.ntmps92
  go_wp2
  simp only [maskN x hx, maskN y hy, divN, mulN, addN, wrapN _ bd, wrapN _ bb', wrapN _ bt, maskN _ bt, wrapN _ bc', wrapN _ bw, wrapN _ ba', wrapN _ bh1, wrapN _ bh, wrapM (x * y)]
  rw [HH.out]
  go_ret2
  exact ⟨rfl, rfl⟩
end Go.Proofs.Ytpdpkmihgelmoaa
