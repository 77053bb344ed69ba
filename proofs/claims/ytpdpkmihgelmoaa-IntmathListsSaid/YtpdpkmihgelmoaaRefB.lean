/-
  The walks of quotient, Bezout and Inverse of the reference.
-/
import Derived.Test.YtpdpkmihgelmoaaRefA
namespace Go.Proofs.Ytpdpkmihgelmoaa
open Go.RowKit

theorem w_bound {n d s W : Int} {x : Nat} (hn : 0 ≤ n) (hnd : n < d) (hs : s = 1 ∨ s = -1) (hW : n * (x : Int) - s = W * d) : -1 ≤ W ∧ W ≤ (x : Int) + 1 := by
  have h0 : 0 ≤ n * (x : Int) := Int.mul_nonneg hn (by omega)
  have h1 : n * (x : Int) ≤ d * (x : Int) := Int.mul_le_mul_of_nonneg_right (by omega) (by omega)
  constructor
  · refine Classical.byContradiction fun hc => ?_
    have := Int.mul_le_mul_of_nonneg_right (show W ≤ -2 by omega) (show 0 ≤ d by omega)
    omega
  · refine Classical.byContradiction fun hc => ?_
    have h2 := Int.mul_le_mul_of_nonneg_right (show (x : Int) + 2 ≤ W by omega) (show 0 ≤ d by omega)
    rw [Int.add_mul, Int.mul_comm (x : Int) d] at h2
    omega

theorem quotient_plain {a b y : Int} {x : Nat} (h0 : ¬ b = 0) (h : 1 - a * (x : Int) = b * y) :
    ∃ s : Int, (0 < b → s = 1) ∧ (b < 0 → s = -1) ∧ ((a.fmod b).natAbs : Int) * (x : Int) - s = -(y + a.fdiv b * x) * (b.natAbs : Int) ∧ ((a.fmod b).natAbs : Int) < (b.natAbs : Int) := by
  obtain ⟨e, p1, p2⟩ := fdiv_facts a b h0
  have e1 : a * (x : Int) = b * (a.fdiv b * x) + a.fmod b * x := by
    rw [← Int.mul_assoc, ← Int.add_mul, e]
  rcases Int.lt_or_lt_of_ne h0 with hneg | hpos
  · have := p2 hneg
    refine ⟨-1, by omega, by omega, ?_, by omega⟩
    have e2 : ((a.fmod b).natAbs : Int) = -(a.fmod b) := by omega
    have e3 : (b.natAbs : Int) = -b := by omega
    rw [e2, e3, Int.neg_mul_neg, Int.add_mul, Int.mul_comm y b, Int.mul_comm (a.fdiv b * x) b, Int.neg_mul]
    omega
  · have := p1 hpos
    refine ⟨1, by omega, by omega, ?_, by omega⟩
    have e2 : ((a.fmod b).natAbs : Int) = a.fmod b := by omega
    have e3 : (b.natAbs : Int) = b := by omega
    rw [e2, e3, Int.neg_mul, Int.add_mul, Int.mul_comm y b, Int.mul_comm (a.fdiv b * x) b]
    omega

theorem div_sum' (a b : Int) (ha : -4611686018427387904 ≤ a ∧ a ≤ 4611686018427387904) (hb : -4611686018427387904 ≤ b ∧ b ≤ 4611686018427387904) (h0 : ¬ b = 0) :
    a.fdiv b * b + a.fmod b = a ∧ -9223372036854775807 ≤ a.fdiv b * b ∧ a.fdiv b * b ≤ 9223372036854775807 := by
  obtain ⟨e, p1, p2⟩ := fdiv_facts a b h0
  rw [Int.mul_comm] at e
  refine ⟨e, ?_⟩
  rcases Int.lt_or_lt_of_ne h0 with h | h
  · have := p2 h; omega
  · have := p1 h; omega

theorem qx_bound {a b : Int} {x : Nat} (ha : -4611686018427387904 ≤ a ∧ a ≤ 4611686018427387904) (hb : -4611686018427387904 ≤ b ∧ b ≤ 4611686018427387904) (h0 : ¬ b = 0) (hx : x < b.natAbs) :
    -9223372036854775807 ≤ a.fdiv b * (x : Int) ∧ a.fdiv b * (x : Int) ≤ 9223372036854775807 := by
  obtain ⟨-, h2, h3⟩ := div_sum' a b ha hb h0
  have h4 : (a.fdiv b * (x : Int)).natAbs ≤ (a.fdiv b * b).natAbs := by
    rw [Int.natAbs_mul, Int.natAbs_mul]
    exact Nat.mul_le_mul_left _ (by simp; omega)
  omega

set_option maxHeartbeats 1000000 in
theorem quotient_any (a b y : Int) (x : Nat) (w : World) (ha : -4611686018427387904 ≤ a ∧ a ≤ 4611686018427387904) (hb : -4611686018427387904 ≤ b ∧ b ≤ 4611686018427387904) (h0 : ¬ b = 0) (hx : x < b.natAbs) (hy : y.natAbs ≤ a.natAbs + 1) (h : 1 - a * (x : Int) = b * y) :
    Calls Try.prog 98 #[.int .i64 a, .int .i64 (x : Int), .int .i64 b] w fun e w' => e = .returned (.int .i64 y) ∧ w = w' := by
  have hra := rng_of ha
  have hrb := rng_of hb
  have h0' : (b == 0) = false := beq_eq_false_iff_ne.2 h0
  have c1 := fun w => rDiv_any a b w
  have e1 : vDiv Int.fdiv a b = a.fdiv b := by simp [vDiv, hra, hrb, h0']
  have e2 : eDiv a b = 0 := by simp [eDiv, hra, hrb, h0']
  rw [e1, e2] at c1
  have c2 := fun w => rMod_any a b w
  have e3 : vDiv Int.fmod a b = a.fmod b := by simp [vDiv, hra, hrb, h0']
  rw [e3, e2] at c2
  obtain ⟨s, s1, s2, s3, s4⟩ := quotient_plain h0 h
  have hqx := qx_bound ha hb h0 hx
  have hs : s = 1 ∨ s = -1 := by omega
  have hwb := w_bound (by omega) s4 hs s3
  have cw := fun w => whole_any ((a.fmod b).natAbs : Int) (b.natAbs : Int) s _ x w (by omega) s4 (by omega) (by omega) hs s3
  have hq := fdiv_in a b ha h0
  have hres : -(-(y + a.fdiv b * (x : Int))) - a.fdiv b * (x : Int) = y := by omega
  have hrb2 : -4611686018427387905 ≤ -(-(y + a.fdiv b * (x : Int))) - a.fdiv b * (x : Int) ∧ -(-(y + a.fdiv b * (x : Int))) - a.fdiv b * (x : Int) ≤ 4611686018427387905 := by omega
  have hx3 : (x : Int) ≤ 4611686018427387904 := by omega
  have hm : ((a.fmod b).natAbs : Int) ≤ 4611686018427387904 := by omega
  have hmr : -4611686018427387904 ≤ a.fmod b ∧ a.fmod b ≤ 4611686018427387904 := by omega
  clear h s3 hy e1 e2 e3 hra hrb
  generalize hWW : -(y + a.fdiv b * (x : Int)) = W at *
  have HR := Lib.hid hres
  generalize a.fdiv b = q at *
  generalize a.fmod b = r at *
  have C1 := Lib.hid c1
  have C2 := Lib.hid c2
  have C3 := Lib.hid cw
  have HB := Lib.hid hb
  have HMR := Lib.hid hmr
  clear c1 c2 cw hb hmr hWW hres
  by_cases hpos : 0 < b
  · obtain rfl := s1 hpos
    clear s1 s2 hs
    go_enter Try.func98, Try.ntmps98
    go_wp2_with (first
      | (go_at_call 44; refine (C1.out _).mono ?_; rintro e w' ⟨rfl, rfl⟩)
      | (go_at_call 45; refine (C2.out _).mono ?_; rintro e w' ⟨rfl, rfl⟩)
      | (go_at_call 93; refine (rabs_any _ _ (by first | exact HMR.out | exact HB.out)).mono ?_; rintro e w' ⟨rfl, rfl⟩)
      | (go_at_call 114; refine (C3.out _).mono ?_; rintro e w' ⟨rfl, rfl⟩))
    go_ret
    exact ⟨ret_int HR.out, rfl⟩
  · obtain rfl := s2 (by omega)
    clear s1 s2 hs
    go_enter Try.func98, Try.ntmps98
    go_wp2_with (first
      | (go_at_call 44; refine (C1.out _).mono ?_; rintro e w' ⟨rfl, rfl⟩)
      | (go_at_call 45; refine (C2.out _).mono ?_; rintro e w' ⟨rfl, rfl⟩)
      | (go_at_call 93; refine (rabs_any _ _ (by first | exact HMR.out | exact HB.out)).mono ?_; rintro e w' ⟨rfl, rfl⟩)
      | (go_at_call 114; refine (C3.out _).mono ?_; rintro e w' ⟨rfl, rfl⟩))
    go_ret
    exact ⟨ret_int HR.out, rfl⟩

theorem rBez_out (a b : Int) (w : World) (hr : (rng a && rng b) = false) :
    Calls Try.prog 55 #[.int .i64 a, .int .i64 b] w fun e w' => e = .returned (.tuple #[.int .i64 0, .int .i64 0, .int .i64 0, .int .i64 2]) ∧ ∃ n, w.drewN n = w' := by
  cases hra : rng a
  · go_enter Try.func55, Try.ntmps55
    go_wp2_with (go_at_call 16; refine (In_any _ _).mono ?_; rintro e w' ⟨rfl, rfl⟩)
    refine bodyPost_ret (results_tmp4 rfl _ _ _) rfl ?_
    exact ⟨rfl, 0, rfl⟩
  · cases hrb : rng b
    · go_enter Try.func55, Try.ntmps55
      go_wp2_with (go_at_call 16; refine (In_any _ _).mono ?_; rintro e w' ⟨rfl, rfl⟩)
      refine bodyPost_ret (results_tmp4 rfl _ _ _) rfl ?_
      exact ⟨rfl, 0, rfl⟩
    · rw [hra, hrb] at hr; cases hr

theorem rBez_zero (a : Int) (w : World) (hra : rng a = true) :
    Calls Try.prog 55 #[.int .i64 a, .int .i64 0] w fun e w' => e = .returned (.tuple #[.int .i64 (Int.gcd a 0 : Int), .int .i64 a.sign, .int .i64 0, .int .i64 0]) ∧ ∃ n, w.drewN n = w' := by
  have r0 : rng 0 = true := rng_of (by omega)
  have c := fun w => rGcd_any a 0 w
  have e1 : vGcd a 0 = (a.natAbs : Int) := by simp [vGcd, hra, r0]
  have e2 : eIn a 0 = 0 := by simp [eIn, hra, r0]
  rw [e1, e2] at c
  have C := Lib.hid c
  have hg : ((Int.gcd a 0 : Nat) : Int) = (a.natAbs : Int) := by simp
  rw [hg]
  clear c e1 e2 hg
  by_cases hneg : a < 0
  · have hs := Lib.hid (Int.sign_eq_neg_one_of_neg hneg)
    go_enter Try.func55, Try.ntmps55
    go_wp2_with (first
      | (go_at_call 16; refine (In_any _ _).mono ?_; rintro e w' ⟨rfl, rfl⟩)
      | (go_at_call 54; refine (C.out _).mono ?_; rintro e w' ⟨rfl, n, rfl⟩))
    refine bodyPost_ret (results_tmp4 rfl _ _ _) rfl ?_
    exact ⟨ret_four rfl (by rw [hs.out]) rfl rfl, _, rfl⟩
  · by_cases hpos : 0 < a
    · have hs := Lib.hid (Int.sign_eq_one_of_pos hpos)
      go_enter Try.func55, Try.ntmps55
      go_wp2_with (first
        | (go_at_call 16; refine (In_any _ _).mono ?_; rintro e w' ⟨rfl, rfl⟩)
        | (go_at_call 54; refine (C.out _).mono ?_; rintro e w' ⟨rfl, n, rfl⟩))
      refine bodyPost_ret (results_tmp4 rfl _ _ _) rfl ?_
      exact ⟨ret_four rfl (by rw [hs.out]) rfl rfl, _, rfl⟩
    · obtain rfl : a = 0 := by omega
      go_enter Try.func55, Try.ntmps55
      go_wp2_with (first
        | (go_at_call 16; refine (In_any _ _).mono ?_; rintro e w' ⟨rfl, rfl⟩)
        | (go_at_call 54; refine (C.out _).mono ?_; rintro e w' ⟨rfl, n, rfl⟩))
      refine bodyPost_ret (results_tmp4 rfl _ _ _) rfl ?_
      exact ⟨rfl, _, rfl⟩

/-! ### the plain facts of the reference's Bezout for b ≠ 0 -/
theorem dvd_facts (a b : Int) (h0 : ¬ b = 0) :
    let g : Int := (Int.gcd a b : Int)
    1 ≤ g ∧ g ∣ a ∧ g ∣ b ∧ a = g * a.tdiv g ∧ b = g * b.tdiv g ∧ ((b.natAbs : Int) / g = ((b.tdiv g).natAbs : Int)) ∧ Int.gcd (a.tdiv g) (b.tdiv g) = 1 ∧ ¬ b.tdiv g = 0 ∧ (a.tdiv g).natAbs ≤ a.natAbs ∧ (b.tdiv g).natAbs ≤ b.natAbs := by
  intro g
  have hg : 1 ≤ g := by have := Int.gcd_pos_iff.2 (Or.inr h0 : a ≠ 0 ∨ b ≠ 0); show (1 : Int) ≤ (Int.gcd a b : Int); omega
  have hga : g ∣ a := Int.gcd_dvd_left ..
  have hgb : g ∣ b := Int.gcd_dvd_right ..
  have ea : a = g * a.tdiv g := (Int.mul_tdiv_cancel' hga).symm
  have eb : b = g * b.tdiv g := (Int.mul_tdiv_cancel' hgb).symm
  have hb0 : ¬ b.tdiv g = 0 := by intro h; rw [h] at eb; simp at eb; exact h0 eb
  have hgn : g.natAbs = Int.gcd a b := by show ((Int.gcd a b : Nat) : Int).natAbs = _; simp
  refine ⟨hg, hga, hgb, ea, eb, ?_, ?_, hb0, ?_, ?_⟩
  · have e : (b.natAbs : Int) = g * ((b.tdiv g).natAbs : Int) := by
      have := congrArg Int.natAbs eb
      rw [Int.natAbs_mul] at this
      rw [this, Int.natCast_mul, Int.natAbs_of_nonneg (by omega)]
    rw [e, Int.mul_ediv_cancel_left _ (by omega)]
  · have e : Int.gcd a b = g.natAbs * Int.gcd (a.tdiv g) (b.tdiv g) := by rw [← Int.gcd_mul_left, ← ea, ← eb]
    rw [hgn] at e
    have hpos : 0 < Int.gcd a b := Int.gcd_pos_iff.2 (Or.inr h0)
    exact (Nat.eq_of_mul_eq_mul_left hpos (by rw [Nat.mul_one]; exact e)).symm
  · rw [Int.natAbs_tdiv]; exact Nat.div_le_self _ _
  · rw [Int.natAbs_tdiv]; exact Nat.div_le_self _ _

theorem fmod_inv {A B : Int} {M : Nat} (hM : M = B.natAbs) (h1 : 1 < M) (hg : Int.gcd A B = 1) : 1 ≤ A.fmod M ∧ A.fmod M < M ∧ Int.gcd (A.fmod M) M = 1 := by
  obtain ⟨e, p1, -⟩ := fdiv_facts A (M : Int) (by omega)
  have p := p1 (by omega)
  have hgM : Int.gcd A (M : Int) = 1 := by
    rw [← hg, hM]
    show Nat.gcd A.natAbs ((B.natAbs : Int)).natAbs = Nat.gcd A.natAbs B.natAbs
    simp
  have hr : Int.gcd (A.fmod M) M = 1 := by
    have : Int.gcd A (M : Int) = Int.gcd (A.fmod M) M := by
      have e2 : A = A.fmod M + A.fdiv M * M := by rw [Int.mul_comm]; omega
      conv => lhs; rw [e2]
      exact Int.gcd_add_mul_right_left ..
    rw [← this]; exact hgM
  refine ⟨?_, p.2, hr⟩
  refine Classical.byContradiction fun hc => ?_
  have hz : A.fmod M = 0 := by omega
  rw [hz] at hr
  simp at hr
  omega
theorem inv_pair {A B u : Int} {M : Nat} (hM : M = B.natAbs) (h1 : 1 < M) (h : InvOK (A.fmod M) M u) : ∃ y : Int, 1 - A * u = B * y ∧ y.natAbs ≤ A.natAbs + 1 := by
  obtain ⟨u0, u1, X, hX⟩ := h
  obtain ⟨e, -, -⟩ := fdiv_facts A (M : Int) (by omega)
  have hA : A * u = (M : Int) * (A.fdiv M * u) + A.fmod M * u := by rw [← Int.mul_assoc, ← Int.add_mul, e]
  have h2 : 1 - A * u = (M : Int) * (X - A.fdiv M * u) := by rw [hA, Int.mul_sub]; omega
  have hy : ∃ y : Int, 1 - A * u = B * y := by
    rcases Int.lt_or_le B 0 with hb | hb
    · refine ⟨-(X - A.fdiv M * u), ?_⟩
      rw [h2, show (M : Int) = -B by omega, Int.neg_mul, Int.mul_neg]
    · refine ⟨X - A.fdiv M * u, ?_⟩
      rw [h2, show (M : Int) = B by omega]
  obtain ⟨y, hy⟩ := hy
  exact ⟨y, hy, bez_y (a := A) (b := B) (g := 1) (x := u) (by omega) (by omega) (by omega) (by omega) (by omega)⟩
theorem bez_scale {a b g x y A B : Int} (ha : a = g * A) (hb : b = g * B) (_hg : 1 ≤ g) (h : 1 - A * x = B * y) (hx : 0 ≤ x) (hq : (b.natAbs : Int) / g = (B.natAbs : Int)) (hx2 : x < (B.natAbs : Int)) : BezOK a b g x y := by
  refine ⟨?_, hx, by omega⟩
  rw [ha, hb, Int.mul_assoc, Int.mul_assoc, ← Int.mul_add]
  have : A * x + B * y = 1 := by omega
  rw [this, Int.mul_one]

set_option maxHeartbeats 2000000 in
theorem rBez_any (a b : Int) (w : World) (hra : rng a = true) (hrb : rng b = true) (h0 : ¬ b = 0) :
    Calls Try.prog 55 #[.int .i64 a, .int .i64 b] w fun e w' => ∃ x y : Int, e = .returned (.tuple #[.int .i64 (Int.gcd a b : Int), .int .i64 x, .int .i64 y, .int .i64 0]) ∧ Hid (BezOK a b (Int.gcd a b) x y) ∧ ∃ n, w.drewN n = w' := by
  have ha := rng_yes hra
  have hb := rng_yes hrb
  have c := fun w => rGcd_any a b w
  have e1 : vGcd a b = (Int.gcd a b : Int) := by simp [vGcd, hra, hrb]
  have e2 : eIn a b = 0 := by simp [eIn, hra, hrb]
  rw [e1, e2] at c
  obtain ⟨g1, g2, g3, g4, g5, g6, g7, g8, g9, g10⟩ := dvd_facts a b h0
  have h0' : (b == 0) = false := beq_eq_false_iff_ne.2 h0
  have hgle : (Int.gcd a b : Int) ≤ 4611686018427387904 := by
    have := Int.le_of_dvd (a := (Int.gcd a b : Int)) (b := (b.natAbs : Int)) (by omega) (Int.dvd_natAbs.2 g3)
    omega
  have hb1 : (1 : Int) ≤ (b.natAbs : Int) := by omega
  generalize hG : (Int.gcd a b : Int) = G at *
  have C := Lib.hid c
  have hAr : -4611686018427387904 ≤ a.tdiv G ∧ a.tdiv G ≤ 4611686018427387904 := by omega
  have hBr : -4611686018427387904 ≤ b.tdiv G ∧ b.tdiv G ≤ 4611686018427387904 := by omega
  have hG0 : (G == 0) = false := by simpa using (show ¬ G = 0 by omega)
  have hbn : (b.natAbs : Int) ≤ 4611686018427387904 := by omega
  have hM2 : ((b.natAbs : Int) / G) ≤ 4611686018427387904 := by rw [g6]; omega
  have hM1 : 1 ≤ ((b.natAbs : Int) / G) := by rw [g6]; omega
  have HB := Lib.hid hb
  have Q := Lib.hid (fun x y w (h1 : x < (b.tdiv G).natAbs) (h2 : y.natAbs ≤ (a.tdiv G).natAbs + 1) (h3 : 1 - a.tdiv G * (x : Int) = b.tdiv G * y) => quotient_any (a.tdiv G) (b.tdiv G) y x w hAr hBr g8 h1 h2 h3)
  have SC := Lib.hid (fun (x y : Int) (h : 1 - a.tdiv G * x = b.tdiv G * y) (hx : 0 ≤ x) (hx2 : x < ((b.tdiv G).natAbs : Int)) => bez_scale (a := a) (b := b) (g := G) g4 g5 g1 h hx g6 hx2)
  have G6 := Lib.hid g6
  have W1 := Lib.hid (IntWalk.i64_in (a.tdiv G) (by omega))
  have W2 := Lib.hid (IntWalk.i64_in (b.tdiv G) (by omega))
  have hMnat : (b.natAbs : Int) / G = (((b.tdiv G).natAbs : Nat) : Int) := g6
  have cmod := fun w => rMod_any (a.tdiv G) (((b.tdiv G).natAbs : Nat) : Int) w
  have hrA : rng (a.tdiv G) = true := rng_of hAr
  have hrM : rng (((b.tdiv G).natAbs : Nat) : Int) = true := rng_of (by omega)
  have hM0 : ((((b.tdiv G).natAbs : Nat) : Int) == 0) = false := beq_eq_false_iff_ne.2 (by omega)
  have q1 : vDiv Int.fmod (a.tdiv G) (((b.tdiv G).natAbs : Nat) : Int) = (a.tdiv G).fmod (((b.tdiv G).natAbs : Nat) : Int) := by simp only [vDiv, hrA, hrM, hM0, Bool.and_self, Bool.not_false, cond_true]
  have q2 : eDiv (a.tdiv G) (((b.tdiv G).natAbs : Nat) : Int) = 0 := by simp only [eDiv, hrA, hrM, hM0, Bool.and_self, cond_true, cond_false]
  rw [q1, q2] at cmod
  rw [← hMnat] at cmod
  have CM := Lib.hid cmod
  by_cases hM : 1 < (b.tdiv G).natAbs
  · obtain ⟨i1, i2, i3⟩ := fmod_inv (A := a.tdiv G) (B := b.tdiv G) rfl hM g7
    have ci := fun w => rinverse_any ((a.tdiv G).fmod (((b.tdiv G).natAbs : Nat) : Int)) (((b.tdiv G).natAbs : Nat) : Int) w i1 i2 (by omega) i3
    have ip := fun (u : Int) h => inv_pair (A := a.tdiv G) (B := b.tdiv G) (u := u) rfl hM h
    have hu : ∀ u : Int, InvOK ((a.tdiv G).fmod (((b.tdiv G).natAbs : Nat) : Int)) (((b.tdiv G).natAbs : Nat) : Int) u → 0 ≤ u ∧ u < (((b.tdiv G).natAbs : Nat) : Int) := fun u h => ⟨h.1, h.2.1⟩
    rw [← hMnat] at ci ip
    have CI := Lib.hid ci
    have IP := Lib.hid ip
    have HU := Lib.hid hu
    have hM' : (1 : Int) < (b.natAbs : Int) / G := by rw [hMnat]; omega
    have HMN := Lib.hid hMnat
    clear c cmod e1 e2 q1 q2 hrA hrM hM0 g2 g3 g4 g5 g6 g7 g9 g10 i1 i2 i3 hMnat ha hb ci ip hu
    go_enter Try.func55, Try.ntmps55
    go_wp2_with (first
      | (go_at_call 16; refine (In_any _ _).mono ?_; rintro e w' ⟨rfl, rfl⟩)
      | (go_at_call 54; refine (C.out _).mono ?_; rintro e w' ⟨rfl, n, rfl⟩)
      | (go_at_call 93; refine (rabs_any _ _ HB.out).mono ?_; rintro e w' ⟨rfl, rfl⟩)
      | (go_at_call 45; refine (CM.out _).mono ?_; rintro e w' ⟨rfl, rfl⟩)
      | (go_at_call 97; refine (CI.out _).mono ?_; rintro e w' ⟨u, rfl, hu, rfl⟩))
    obtain ⟨y, hy1, hy2⟩ := IP.out u hu.out
    obtain ⟨hu0, hu1⟩ := HU.out u (by have := hu.out; rw [HMN.out] at this; exact this)
    obtain ⟨x, rfl⟩ := Int.eq_ofNat_of_zero_le hu0
    have HQ := Lib.hid (fun W => Q.out x y W (by omega) hy2 hy1)
    have HS := Lib.hid (SC.out x y hy1 hu0 hu1)
    have w1 := W1.out
    have w2 := W2.out
    clear hy1 hy2 hu0 hu1 hu CI IP HU CM
    go_quiet ((go_at_call 98; exact quiet_add_left (HQ.out _)))
    go_wp2
    refine bodyPost_ret (results_tmp4 rfl _ _ _) rfl ?_
    exact ⟨x, y, rfl, Lib.hid HS.out, _, (World.drewN_drewN _ _ _).symm⟩
  · have hM1' : (b.tdiv G).natAbs = 1 := by omega
    have hMB : (b.tdiv G) = 1 ∨ (b.tdiv G) = -1 := by omega
    have hD : (b.natAbs : Int) / G = 1 := by rw [hMnat, hM1']; rfl
    have hy1 : 1 - a.tdiv G * ((0 : Nat) : Int) = b.tdiv G * (b.tdiv G) := by
      rcases hMB with h | h <;> rw [h] <;> simp
    have HQ := Lib.hid (fun W => Q.out 0 (b.tdiv G) W (by omega) (by omega) hy1)
    have HS := Lib.hid (SC.out 0 (b.tdiv G) hy1 (by omega) (by omega))
    have hDle : (b.natAbs : Int) / G ≤ 1 := by omega
    have w1 := W1.out
    have w2 := W2.out
    clear c cmod e1 e2 q1 q2 hrA hrM hM0 g2 g3 g4 g5 g6 g7 g9 g10 hMnat ha hb hM1' hMB hD hy1 CM hM2 hM1
    have hD0 : 0 ≤ (b.natAbs : Int) / G := Int.ediv_nonneg (by omega) (by omega)
    go_enter Try.func55, Try.ntmps55
    go_wp2_with (first
      | (go_at_call 16; refine (In_any _ _).mono ?_; rintro e w' ⟨rfl, rfl⟩)
      | (go_at_call 54; refine (C.out _).mono ?_; rintro e w' ⟨rfl, n, rfl⟩)
      | (go_at_call 93; refine (rabs_any _ _ HB.out).mono ?_; rintro e w' ⟨rfl, rfl⟩))
    go_quiet ((go_at_call 98; exact quiet_add_left (HQ.out _)))
    go_wp2
    refine bodyPost_ret (results_tmp4 rfl _ _ _) rfl ?_
    exact ⟨0, b.tdiv G, rfl, Lib.hid HS.out, _, (World.drewN_drewN _ _ _).symm⟩
end Go.Proofs.Ytpdpkmihgelmoaa
