/-
  The walks of inverse and whole of the reference.
-/
import Derived.Test.YtpdpkmihgelmoaaInv
import Derived.Laws.BitsAllLaws
import Derived.Laws.BitsLemmas
namespace Go.Proofs.Ytpdpkmihgelmoaa
open Go.RowKit

/-- What inverse returns: a number from 0 to m - 1 that is an inverse. -/
def InvOK (n m u : Int) : Prop := 0 ≤ u ∧ u < m ∧ ∃ x : Int, m * x + n * u = 1

theorem inv_end {m n x0 y0 x1 y1 : Int} (hm : 1 < m) (h : Eu m n 1 0 x0 x1 y0 y1) (hy : -m ≤ y0 ∧ y0 ≤ m) : (y0 < 0 → InvOK n m (y0 + m)) ∧ (0 ≤ y0 → InvOK n m y0) := by
  have e : m * x0 + n * y0 = 1 := h.1.symm
  have hno : ∀ z : Int, m * z ≠ 1 := by
    intro z hz
    have h1 : m ∣ 1 := ⟨z, hz.symm⟩
    have := Int.le_of_dvd (by omega) h1
    omega
  have h1 : y0 ≠ m := by
    rintro rfl
    exact hno (x0 + n) (by rw [Int.mul_add, Int.mul_comm y0 n]; omega)
  have h2 : y0 ≠ -m := by
    rintro rfl
    exact hno (x0 - n) (by rw [Int.mul_sub, Int.mul_comm m n]; rw [Int.mul_neg] at e; omega)
  refine ⟨fun hn => ⟨by omega, by omega, x0 - n, ?_⟩, fun hp => ⟨hp, by omega, x0, e⟩⟩
  rw [Int.mul_sub, Int.mul_add, Int.mul_comm m n]
  omega

set_option maxHeartbeats 1000000 in
theorem rinverse_any (n m : Int) (w : World) (hn : 1 ≤ n) (hnm : n < m) (hm : m ≤ 4611686018427387904) (hg : Int.gcd n m = 1) :
    Calls Try.prog 97 #[.int .i64 n, .int .i64 m] w fun e w' => ∃ u : Int, e = .returned (.int .i64 u) ∧ Hid (InvOK n m u) ∧ w = w' := by
  have hg' : Nat.gcd m.natAbs n.natAbs = 1 := by rw [Nat.gcd_comm]; exact hg
  have HG := Lib.hid hg'
  have hm1 : 1 < m := by omega
  clear hg hg'
  go_enter Try.func97, Try.ntmps97
  go_wp2
  go_loop [5, 6, 7, 8] (fun s5 s6 s7 s8 => ∃ (r0 r1 : Nat) (x0 x1 y0 y1 : Int), s5 = .int .i64 r0 ∧ s6 = .int .i64 r1 ∧ s7 = .int .i64 y0 ∧ s8 = .int .i64 y1 ∧
    Hid (Eu m n r0 r1 x0 x1 y0 y1) ∧ Hid (Nat.gcd r0 r1 = 1) ∧ (r0 : Int) ≤ m ∧ (r1 : Int) ≤ m ∧ y0.natAbs ≤ m.natAbs ∧ y1.natAbs ≤ m.natAbs) (fun _ s6 _ _ => (intOf s6).toNat)
  case atStart =>
    refine ⟨m.natAbs, n.natAbs, 1, 0, 0, 1, ?_, ?_, rfl, rfl, Lib.hid ?_, HG, by omega, by omega, by omega, by omega⟩
    · rw [Int.natAbs_of_nonneg (by omega)]
    · rw [Int.natAbs_of_nonneg (by omega)]
    · rw [Int.natAbs_of_nonneg (by omega), Int.natAbs_of_nonneg (by omega)]; exact Eu_start m n
  case round =>
    obtain ⟨r0, r1, x0, x1, y0, y1, rfl, rfl, rfl, rfl, he, hg, hr0, hr1, hy0, hy1⟩ := hrel
    by_cases hz : r1 = 0
    · subst hz
      have h1 : r0 = 1 := by have := hg.out; rw [Nat.gcd_zero_right] at this; exact this
      subst h1
      have HE := Lib.hid (inv_end hm1 he.out (by omega))
      by_cases hneg : y0 < 0
      · go_wp2
        go_ret
        exact ⟨_, rfl, Lib.hid (HE.out.1 hneg), rfl⟩
      · go_wp2
        go_ret
        exact ⟨_, rfl, Lib.hid (HE.out.2 (by omega)), rfl⟩
    · have hz1 : (0 : Int) < (r1 : Int) := by omega
      have hz2 : ((r1 : Int) == 0) = false := by simpa using hz
      have h1 : (1 : Int) ≤ (r1 : Int) := by omega
      obtain ⟨b0, b1, b2, b3, b4, b5, b6, b7, b8⟩ := Eu_round he.out (by omega) h1
      have B4 := Lib.hid b4
      have HE := Lib.hid (Eu_step he.out b0)
      have hm := Nat.mod_lt r0 (show 0 < r1 by omega)
      have hm2 : (r0 : Int) % (r1 : Int) = ((r0 % r1 : Nat) : Int) := rfl
      have HM := Lib.hid hm2
      clear b4 hm2 b5 b7
      go_wp2
      go_round
      case rel =>
        refine ⟨r1, r0 % r1, x1, x0 - (r0 : Int) / r1 * x1, y1, y0 - (r0 : Int) / r1 * y1, rfl, ?_, rfl, rfl, Lib.hid (by have := HE.out; rw [B4.out, HM.out] at this; exact this), Lib.hid (gcd_step r0 r1 _ hg.out), by omega, by omega, hy1, by omega⟩
        rw [B4.out, HM.out]
      case measure => simp [intOf]; have := B4.out; have := HM.out; omega

/-! ### whole -/
/-- One bit more: the quotient and the remainder behind it. -/
theorem whole_bit {n d X quo rem : Int} (h : n * X = quo * d + rem) : n * (2 * X) = (quo * 2) * d + rem * 2 ∧ n * (2 * X + 1) = (quo * 2) * d + (rem * 2 + n) := by
  have e1 : n * (2 * X) = 2 * (n * X) := by rw [Int.mul_left_comm]
  have e2 : quo * 2 * d = 2 * (quo * d) := by rw [Int.mul_comm quo 2, Int.mul_assoc]
  constructor
  · rw [e1, h, e2]; omega
  · rw [Int.mul_add, e1, h, e2]; omega
theorem whole_sub {q d r : Int} : q * d + r = (q + 1) * d + (r - d) := by rw [Int.add_mul]; omega

theorem quo_le {n d X q r : Int} (h : n * X = q * d + r) (hn : 0 ≤ n) (hd : n < d) (hX : 0 ≤ X) (hr : 0 ≤ r) : q ≤ X := by
  refine Classical.byContradiction fun hc => ?_
  have h1 : (X + 1) * d ≤ q * d := Int.mul_le_mul_of_nonneg_right (by omega) (by omega)
  have h2 : n * X ≤ d * X := Int.mul_le_mul_of_nonneg_right (by omega) hX
  rw [Int.add_mul, Int.mul_comm X d] at h1
  omega
theorem bit_ofInt (a : Nat) (ha : a < 9223372036854775808) : (BitVec.ofInt 64 (a : Int)).toNat = a := by
  rw [BitVec.ofInt_natCast, BitVec.toNat_ofNat]; exact Nat.mod_eq_of_lt (by omega)
theorem bit_and_one (a : Nat) (ha : a < 9223372036854775808) : bits .and .i64 (a : Int) 1 = ((a % 2 : Nat) : Int) := by
  show IntKind.i64.wrap ((BitVec.ofInt 64 (a : Int) &&& BitVec.ofInt 64 ((1 : Nat) : Int)).toNat : Int) = _
  rw [BitVec.toNat_and, bit_ofInt a ha, bit_ofInt 1 (by omega), IntKind.wrap_i64, Nat.and_one_is_mod]
  omega
theorem half_pow (x i : Nat) (hi : ¬ i = 0) : x / 2 ^ (i - 1) = 2 * (x / 2 ^ i) + x / 2 ^ (i - 1) % 2 := by
  obtain ⟨j, rfl⟩ : ∃ j, i = j + 1 := ⟨i - 1, by omega⟩
  rw [Nat.add_sub_cancel, Nat.pow_succ, ← Nat.div_div_eq_div_mul]
  omega

/-- What one round owes: the new quotient and remainder of the next bits. -/
theorem whole_round {n d quo rem : Int} {X b : Nat} (hn : 0 ≤ n) (hnd : n < d) (h : n * (X : Int) = quo * d + rem) (hr0 : 0 ≤ rem) (_hr1 : rem < d) :
    quo * 2 ≤ 2 * (X : Int) ∧ (d ≤ rem * 2 → quo * 2 + 1 ≤ 2 * (X : Int)) ∧
    (b = 0 → (rem * 2 < d → n * ((2 * X + b : Nat) : Int) = (quo * 2) * d + rem * 2) ∧ (d ≤ rem * 2 → n * ((2 * X + b : Nat) : Int) = (quo * 2 + 1) * d + (rem * 2 - d))) ∧
    (b = 1 → (n * ((2 * X + b : Nat) : Int) = (quo * 2) * d + (rem * 2 + n)) ∧ (n * ((2 * X + b : Nat) : Int) = (quo * 2 + 1) * d + (rem * 2 + n - d)) ∧
      (n * ((2 * X + b : Nat) : Int) = (quo * 2 + 1) * d + (rem * 2 - d + n)) ∧ (n * ((2 * X + b : Nat) : Int) = (quo * 2 + 1 + 1) * d + (rem * 2 - d + n - d))) := by
  obtain ⟨e1, e2⟩ := whole_bit h
  refine ⟨quo_le e1 hn hnd (by omega) (by omega), fun hge => ?_, ?_, ?_⟩
  · have e3 := e1
    rw [whole_sub] at e3
    exact quo_le e3 hn hnd (by omega) (by omega)
  · rintro rfl
    refine ⟨fun _ => ?_, fun _ => ?_⟩
    · rw [← e1]; rfl
    · rw [← whole_sub, ← e1]; rfl
  · rintro rfl
    have e4 : n * ((2 * X + 1 : Nat) : Int) = quo * 2 * d + (rem * 2 + n) := by rw [← e2]; rfl
    refine ⟨e4, by rw [← whole_sub]; exact e4, ?_, ?_⟩
    · rw [show rem * 2 - d + n = rem * 2 + n - d by omega, ← whole_sub]; exact e4
    · rw [← whole_sub, show rem * 2 - d + n = rem * 2 + n - d by omega, ← whole_sub]; exact e4

theorem whole_end {d quo rem W P s : Int} (h : P = quo * d + rem) (hr0 : 0 ≤ rem) (hr1 : rem < d) (hW : P - s = W * d) :
    (s = -1 → quo + 1 = W) ∧ (s = 1 → rem = 0 → quo - 1 = W) ∧ (s = 1 → ¬ rem = 0 → quo = W) := by
  have e : (W - quo) * d = rem - s := by rw [Int.sub_mul]; omega
  have ub : ∀ k : Int, k ≤ W - quo → k * d ≤ rem - s := fun k hk => e ▸ Int.mul_le_mul_of_nonneg_right hk (by omega)
  have lb : ∀ k : Int, W - quo ≤ k → rem - s ≤ k * d := fun k hk => e ▸ Int.mul_le_mul_of_nonneg_right hk (by omega)
  have u1 := ub 1; have u2 := ub 2; have l0 := lb 0; have l1 := lb (-1); have l2 := lb (-2); have u0 := ub 0
  refine ⟨?_, ?_, ?_⟩
  · rintro rfl; omega
  · rintro rfl hz; omega
  · rintro rfl hz; omega

set_option maxHeartbeats 2000000 in
theorem whole_any (n d s W : Int) (x : Nat) (w : World) (hn0 : 0 ≤ n) (hnd : n < d) (hxd : (x : Int) < d) (hd : d ≤ 4611686018427387904) (hs : s = 1 ∨ s = -1) (hW : n * (x : Int) - s = W * d) :
    Calls Try.prog 114 #[.int .i64 n, .int .i64 (x : Int), .int .i64 d, .int .i64 s] w fun e w' => e = .returned (.int .i64 W) ∧ w = w' := by
  have HW := Lib.hid hW
  clear hW
  go_enter Try.func114, Try.ntmps114
  go_wp2
  go_loop [9, 10, 11] (fun s9 s10 s11 => ∃ (i : Nat) (quo rem : Int), s9 = .int .i64 quo ∧ s10 = .int .i64 rem ∧ s11 = .int .i64 ((i : Int) - 1) ∧ i ≤ 63 ∧ 0 ≤ quo ∧ quo ≤ 4611686018427387904 ∧ 0 ≤ rem ∧ rem < d ∧ Hid (n * ((x / 2 ^ i : Nat) : Int) = quo * d + rem)) (fun _ _ s11 => (intOf s11 + 1).toNat)
  case atStart =>
    refine ⟨63, 0, 0, rfl, rfl, rfl, by omega, by omega, by omega, by omega, by omega, Lib.hid ?_⟩
    rw [Nat.div_eq_of_lt (by omega)]
    simp
  case round =>
    obtain ⟨i, quo, rem, rfl, rfl, rfl, hi, hq0, hq1, hr0, hr1, hinv⟩ := hrel
    by_cases hz : i = 0
    · subst hz
      have hE := Lib.hid (whole_end (d := d) (quo := quo) (rem := rem) (W := W) (P := n * (x : Int)) (s := s) (by have := hinv.out; simpa using this) hr0 hr1 HW.out)
      rcases hs with rfl | rfl
      · by_cases hr : rem = 0
        · subst hr
          have hWb : quo - 1 = W := hE.out.2.1 rfl rfl
          have HQ := Lib.hid hWb
          clear hWb
          go_wp2
          go_ret
          exact ⟨ret_int HQ.out, rfl⟩
        · have hr' : (rem == 0) = false := by simpa using hr
          have HQ := Lib.hid (hE.out.2.2 rfl hr)
          go_wp2
          go_ret
          exact ⟨ret_int HQ.out, rfl⟩
      · have HQ := Lib.hid (hE.out.1 rfl)
        go_wp2
        go_ret
        exact ⟨ret_int HQ.out, rfl⟩
    · have h1 : (0 : Int) ≤ (i : Int) - 1 := by omega
      have hx2 : x / 2 ^ (i - 1) ≤ x := Nat.div_le_self _ _
      have hh := half_pow x i hz
      have hbb : x / 2 ^ (i - 1) % 2 = 0 ∨ x / 2 ^ (i - 1) % 2 = 1 := by omega
      obtain ⟨g1, g2, g3, g4⟩ := whole_round (b := x / 2 ^ (i - 1) % 2) hn0 hnd hinv.out hr0 hr1
      rw [← hh] at g3 g4
      have hbit : bits .and .i64 ((x : Int) / 2 ^ (i - 1)) 1 = ((x / 2 ^ (i - 1) % 2 : Nat) : Int) := by
        have := bit_and_one (x / 2 ^ (i - 1)) (by omega)
        simpa using this
      have hq2 : quo * 2 ≤ 4611686018427387904 := by omega
      have hcase := hbb
      clear hbb hinv hs
      rcases hcase with hb | hb
      · rw [hb] at hbit
        have t1 : (bits .and .i64 ((x : Int) / 2 ^ (i - 1)) 1 == 1) = false := by rw [hbit]; rfl
        have G3 := Lib.hid (g3 hb)
        clear g3 g4 hb hbit
        by_cases hge : rem * 2 < d
        · clear g1 g2 hh hx2
          go_wp2
          go_round
          case rel => exact ⟨i - 1, _, _, rfl, rfl, by rw [show ((i - 1 : Nat) : Int) = (i : Int) - 1 by omega], by omega, by omega, by omega, by omega, by omega, Lib.hid (G3.out.1 hge)⟩
          case measure => simp [intOf]; omega
        · have hq3 := g2 (by omega)
          have hq4 : quo * 2 + 1 ≤ 4611686018427387904 := by omega
          clear g1 g2 hh hx2 hq3
          go_wp2
          go_round
          case rel => exact ⟨i - 1, _, _, rfl, rfl, by rw [show ((i - 1 : Nat) : Int) = (i : Int) - 1 by omega], by omega, by omega, by omega, by omega, by omega, Lib.hid (G3.out.2 (by omega))⟩
          case measure => simp [intOf]; omega
      · rw [hb] at hbit
        have t1 : (bits .and .i64 ((x : Int) / 2 ^ (i - 1)) 1 == 1) = true := by rw [hbit]; rfl
        have G4 := Lib.hid (g4 hb)
        clear g3 g4 hb hbit
        by_cases hge : rem * 2 < d
        · by_cases hge2 : rem * 2 + n < d
          · clear g1 g2 hh hx2
            go_wp2
            go_round
            case rel => exact ⟨i - 1, _, _, rfl, rfl, by rw [show ((i - 1 : Nat) : Int) = (i : Int) - 1 by omega], by omega, by omega, by omega, by omega, by omega, Lib.hid G4.out.1⟩
            case measure => simp [intOf]; omega
          · have hq5 := quo_le G4.out.2.1 hn0 hnd (by omega) (by omega)
            have hq4 : quo * 2 + 1 ≤ 4611686018427387904 := by omega
            clear g1 g2 hh hx2 hq5
            go_wp2
            go_round
            case rel => exact ⟨i - 1, _, _, rfl, rfl, by rw [show ((i - 1 : Nat) : Int) = (i : Int) - 1 by omega], by omega, by omega, by omega, by omega, by omega, Lib.hid G4.out.2.1⟩
            case measure => simp [intOf]; omega
        · by_cases hge2 : rem * 2 - d + n < d
          · have hq5 := quo_le G4.out.2.2.1 hn0 hnd (by omega) (by omega)
            have hq4 : quo * 2 + 1 ≤ 4611686018427387904 := by omega
            clear g1 g2 hh hx2 hq5
            go_wp2
            go_round
            case rel => exact ⟨i - 1, _, _, rfl, rfl, by rw [show ((i - 1 : Nat) : Int) = (i : Int) - 1 by omega], by omega, by omega, by omega, by omega, by omega, Lib.hid G4.out.2.2.1⟩
            case measure => simp [intOf]; omega
          · have hq5 := quo_le G4.out.2.2.2 hn0 hnd (by omega) (by omega)
            have hq4 : quo * 2 + 1 + 1 ≤ 4611686018427387904 := by omega
            clear g1 g2 hh hx2 hq5
            go_wp2
            go_round
            case rel => exact ⟨i - 1, _, _, rfl, rfl, by rw [show ((i - 1 : Nat) : Int) = (i : Int) - 1 by omega], by omega, by omega, by omega, by omega, by omega, Lib.hid G4.out.2.2.2⟩
            case measure => simp [intOf]; omega
end Go.Proofs.Ytpdpkmihgelmoaa
