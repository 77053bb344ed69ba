/-
  The walk of Bezout of intmath.
-/
import Derived.Test.YtpdpkmihgelmoaaIntK
import Derived.Test.YtpdpkmihgelmoaaEuc
namespace Go.Proofs.Ytpdpkmihgelmoaa
open Go.RowKit

theorem ret_four {a b c d a' b' c' d' : Int} (h1 : a = a') (h2 : b = b') (h3 : c = c') (h4 : d = d') : Ending.returned (.tuple #[.int .i64 a, .int .i64 b, .int .i64 c, .int .i64 d]) = .returned (.tuple #[.int .i64 a', .int .i64 b', .int .i64 c', .int .i64 d']) := by rw [h1, h2, h3, h4]
theorem results_tmp4 {fn : Func} {t u v x : Tmp} (h : fn.results = #[.tmp t, .tmp u, .tmp v, .tmp x]) (tmps : Array Value) (P : Program) (w : World) :
    (results fn tmps).run P w = .ok (.tuple #[tmps.getD t undef, tmps.getD u undef, tmps.getD v undef, tmps.getD x undef]) w := by simp [results, h]

/-- Out of range. -/
theorem Bez_out (a b : Int) (w : World) (hr : (rng a && rng b) = false) :
    Calls Try.prog 33 #[.int .i64 a, .int .i64 b] w fun e w' => e = .returned (.tuple #[.int .i64 0, .int .i64 0, .int .i64 0, .int .i64 2]) ∧ Below w.heap.size w w' := by
  go_enter Try.func33, Try.ntmps33
  go_wp2_with (go_at_call 83; refine (in_two _ _ _).mono ?_; rintro e w' ⟨rfl, rfl⟩)
  refine bodyPost_ret (results_tmp4 rfl _ _ _) rfl ?_
  exact ⟨rfl, (Below.refl _ _).alloc (Nat.le_refl _) _⟩

/-- The second number is 0. -/
theorem Bez_zero (a : Int) (w : World) (hr : rng a = true) :
    Calls Try.prog 33 #[.int .i64 a, .int .i64 0] w fun e w' => e = .returned (.tuple #[.int .i64 (Int.gcd a 0 : Int), .int .i64 a.sign, .int .i64 0, .int .i64 0]) ∧ Below w.heap.size w w' := by
  have ha := Lib.hid (rng_yes hr)
  have r0 : rng 0 = true := rng_of (by omega)
  go_enter Try.func33, Try.ntmps33
  go_wp2_with (first
    | (go_at_call 83; refine (in_two _ _ _).mono ?_; rintro e w' ⟨rfl, rfl⟩)
    | (go_at_call 85; refine (abs_any _ _ ha.out).mono ?_; rintro e w' ⟨rfl, rfl⟩)
    | (go_at_call 86; refine (sign_any _ _).mono ?_; rintro e w' ⟨rfl, rfl⟩))
  refine bodyPost_ret (results_tmp4 rfl _ _ _) rfl ?_
  exact ⟨ret_four (by simp) rfl rfl rfl, (Below.refl _ _).alloc (Nat.le_refl _) _⟩

set_option maxHeartbeats 1000000 in
theorem Bez_any (a b : Int) (w : World) (hra : rng a = true) (hrb : rng b = true) (h0 : ¬ b = 0) :
    Calls Try.prog 33 #[.int .i64 a, .int .i64 b] w fun e w' => ∃ x y : Int, e = .returned (.tuple #[.int .i64 (Int.gcd a b : Int), .int .i64 x, .int .i64 y, .int .i64 0]) ∧ Hid (BezOK a b (Int.gcd a b) x y) ∧ Below w.heap.size w w' := by
  have ha := rng_yes hra
  have hb := rng_yes hrb
  have HA := Lib.hid ha
  have HB := Lib.hid hb
  have h0' : (b == 0) = false := beq_eq_false_iff_ne.2 h0
  have hA : (a.natAbs : Int) ≤ 4611686018427387904 := by omega
  have hB : (b.natAbs : Int) ≤ 4611686018427387904 := by omega
  have hB1 : 1 ≤ b.natAbs := by omega
  clear ha hb
  go_enter Try.func33, Try.ntmps33
  go_wp2_with (first
    | (go_at_call 83; refine (in_two _ _ _).mono ?_; rintro e w' ⟨rfl, rfl⟩)
    | (go_at_call 85; refine (abs_any _ _ (by first | exact HA.out | exact HB.out)).mono ?_; rintro e w' ⟨rfl, rfl⟩))
  go_loopw [8, 9, 10, 11, 12, 13] (fun s8 s9 s10 s11 s12 s13 wr => ∃ (r0 r1 : Nat) (x0 y0 x1 y1 : Int), s8 = .int .i64 r0 ∧ s9 = .int .i64 x0 ∧ s10 = .int .i64 y0 ∧ s11 = .int .i64 r1 ∧ s12 = .int .i64 x1 ∧ s13 = .int .i64 y1 ∧
    Hid (Eu a.natAbs b.natAbs r0 r1 x0 x1 y0 y1) ∧ Hid (Nat.gcd r0 r1 = Int.gcd a b) ∧ r0 ≤ 4611686018427387904 ∧ r1 ≤ 4611686018427387904 ∧ x0.natAbs ≤ b.natAbs ∧ x1.natAbs ≤ b.natAbs ∧ y0.natAbs ≤ 4611686018427387904 ∧ y1.natAbs ≤ 4611686018427387904 ∧
    Hid (w.alloc (.cells #[.int .i64 a, .int .i64 b] 3) = wr)) (fun _ _ _ s11 _ _ _ => (intOf s11).toNat)
  case atStart => exact ⟨_, _, 1, 0, 0, 1, rfl, rfl, rfl, rfl, rfl, rfl, Lib.hid (Eu_start _ _), Lib.hid rfl, by omega, by omega, by omega, by omega, by omega, by omega, Lib.hid rfl⟩
  case round =>
    obtain ⟨r0, r1, x0, y0, x1, y1, rfl, rfl, rfl, rfl, rfl, rfl, he, hg, hr0, hr1, hx0, hx1, hy0, hy1, hw⟩ := hrel
    by_cases hz : r1 = 0
    · subst hz
      have hgr : r0 = Int.gcd a b := by have := hg.out; rw [Nat.gcd_zero_right] at this; exact this
      have sx := sign_mul_le x0 a.sign (sign_cases a)
      have sy := sign_mul_le y0 b.sign (sign_cases b)
      have hsum := Lib.hid (bez_signs he.out.1)
      have hr1' : 1 ≤ r0 := by
        have := Int.gcd_pos_iff.2 (Or.inr h0 : a ≠ 0 ∨ b ≠ 0)
        omega
      have hr2 : (1 : Int) ≤ (r0 : Int) := by omega
      have hr3 : ((r0 : Int) == 0) = false := by simpa using (show ¬ (r0 : Int) = 0 by omega)
      have HGR := Lib.hid hgr
      clear hgr
      go_wp2_with (first
        | (go_at_call 86; refine (sign_any _ _).mono ?_; rintro e w' ⟨rfl, rfl⟩))
      have hga : (r0 : Int) ∣ a := by rw [HGR.out]; exact Int.gcd_dvd_left ..
      have hgb : (r0 : Int) ∣ b := by rw [HGR.out]; exact Int.gcd_dvd_right ..
      have hturn := bez_turn hga hgb hr2
      rw [← Int.tdiv_eq_ediv_of_dvd hga] at hturn
      have hrb : r0 ≤ b.natAbs := by
        have := Int.natAbs_dvd_natAbs.2 hgb
        exact Nat.le_of_dvd (by omega) (by simpa using this)
      have hS1 : 1 ≤ (b.natAbs : Int) / (r0 : Int) := by
        have := Nat.div_pos hrb (by omega)
        have e : (b.natAbs : Int) / (r0 : Int) = ((b.natAbs / r0 : Nat) : Int) := rfl
        rw [e]; omega
      have hS2 : (b.natAbs : Int) / (r0 : Int) ≤ (b.natAbs : Int) := Int.ediv_le_self _ (by omega)
      have hK : (a.tdiv (r0 : Int) * b.sign).natAbs ≤ a.natAbs := by
        have h1 := sign_mul_le (a.tdiv (r0 : Int)) b.sign (sign_cases b)
        have h2 : (a.tdiv (r0 : Int)).natAbs = a.natAbs / r0 := Int.natAbs_tdiv a r0
        have h3 := Nat.div_le_self a.natAbs r0
        omega
      have HT := Lib.hid hturn
      have hDef : Hid (∀ x y : Int, a * x + b * y = (r0 : Int) → 0 ≤ x → x < (b.natAbs : Int) / (r0 : Int) → BezOK a b (Int.gcd a b) x y) :=
        Lib.hid (fun x y h1 h2 h3 => by have e := HGR.out; exact ⟨by omega, h2, by rw [← e]; exact h3⟩)
      clear hturn hga hgb
      go_quiet ((first | (go_at_call 85; exact quiet_left (abs_any _ _ HB.out)) | (go_at_call 86; exact quiet_left (sign_any _ _))))
      go_wp2
      generalize (b.natAbs : Int) / (r0 : Int) = S at *
      generalize a.tdiv (r0 : Int) * b.sign = K at *
      have hx00 : (x0 * a.sign).natAbs ≤ b.natAbs := by omega
      generalize x0 * a.sign = X at *
      generalize y0 * b.sign = Y at *
      clear sx sy he hy0 hy1 hx0 hx1
      have YB : Hid (∀ x y : Int, a * x + b * y = (r0 : Int) → x.natAbs ≤ b.natAbs → y.natAbs ≤ a.natAbs + 1) :=
        Lib.hid (fun x y h1 h2 => bez_y h1 h2 (by omega) (by omega) h0)
      have TB : Hid (∀ x y : Int, a * x + b * y = (r0 : Int) → a * (x + S) + b * (y - K) = (r0 : Int)) :=
        Lib.hid (fun x y h1 => by have := HT.out; rw [Int.mul_add, Int.mul_sub]; omega)
      have TC : Hid (∀ x y : Int, a * x + b * y = (r0 : Int) → a * (x - S) + b * (y + K) = (r0 : Int)) :=
        Lib.hid (fun x y h1 => by have := HT.out; rw [Int.mul_add, Int.mul_sub]; omega)
      go_loop [5, 6] (fun s5 s6 => ∃ x y : Int, s5 = .int .i64 x ∧ s6 = .int .i64 y ∧ Hid (a * x + b * y = (r0 : Int)) ∧ x.natAbs ≤ b.natAbs ∧ y.natAbs ≤ a.natAbs + 1) (fun s5 _ => (- intOf s5).toNat)
      case atStart => exact ⟨X, Y, rfl, rfl, hsum, hx00, YB.out _ _ hsum.out hx00⟩
      case round =>
        obtain ⟨x, y, rfl, rfl, hxy, hx, hy⟩ := hrel
        by_cases hneg : x < 0
        · have hy2 := YB.out _ _ (TB.out _ _ hxy.out) (by omega)
          go_wp2
          go_round
          case rel => exact ⟨x + S, y - K, rfl, rfl, Lib.hid (TB.out _ _ hxy.out), by omega, hy2⟩
          case measure => simp [intOf]; omega
        · go_wp2
          go_loop [5, 6] (fun s5 s6 => ∃ x y : Int, s5 = .int .i64 x ∧ s6 = .int .i64 y ∧ Hid (a * x + b * y = (r0 : Int)) ∧ 0 ≤ x ∧ x.natAbs ≤ b.natAbs ∧ y.natAbs ≤ a.natAbs + 1) (fun s5 _ => (intOf s5).toNat)
          case atStart => exact ⟨x, y, rfl, rfl, hxy, by omega, hx, hy⟩
          case round =>
            clear hxy hx hy hneg
            obtain ⟨p, q, rfl, rfl, hpq, hp0, hp, hq⟩ := hrel
            by_cases hge : S ≤ p
            · have hq2 := YB.out _ _ (TC.out _ _ hpq.out) (by omega)
              go_wp2
              go_round
              case rel => exact ⟨p - S, q + K, rfl, rfl, Lib.hid (TC.out _ _ hpq.out), by omega, by omega, hq2⟩
              case measure => simp [intOf]; omega
            · go_wp2
              refine bodyPost_ret (results_tmp4 rfl _ _ _) rfl ?_
              exact ⟨p, q, ret_four (by rw [HGR.out]) rfl rfl rfl, Lib.hid (hDef.out _ _ hpq.out hp0 (by omega)), below_drewN (hw.out ▸ (Below.refl _ _).alloc (Nat.le_refl _) _) _⟩
    · have hz1 : ((r1 : Int) != 0) = true := by simpa using hz
      have hz2 : ((r1 : Int) == 0) = false := by simpa using hz
      have h1 : (1 : Int) ≤ (r1 : Int) := by omega
      obtain ⟨b0, b1, b2, b3, b4, b5, b6, b7, b8⟩ := Eu_round he.out (by omega) h1
      have B4 := Lib.hid b4
      have HE := Lib.hid (Eu_step he.out b0)
      have hm := Nat.mod_lt r0 (show 0 < r1 by omega)
      have hm2 : (r0 : Int) % (r1 : Int) = ((r0 % r1 : Nat) : Int) := rfl
      have HM := Lib.hid hm2
      clear b4 hm2
      go_wp2
      go_roundw
      case rel =>
        refine ⟨r1, r0 % r1, x1, y1, x0 - (r0 : Int) / r1 * x1, y0 - (r0 : Int) / r1 * y1, rfl, rfl, rfl, ?_, rfl, rfl, Lib.hid (by have := HE.out; rw [B4.out, HM.out] at this; exact this), Lib.hid (gcd_step r0 r1 _ hg.out), by omega, by omega, hx1, by omega, hy1, by omega, hw⟩
        rw [B4.out, HM.out]
      case measure => simp [intOf]; have := B4.out; have := HM.out; omega
end Go.Proofs.Ytpdpkmihgelmoaa
