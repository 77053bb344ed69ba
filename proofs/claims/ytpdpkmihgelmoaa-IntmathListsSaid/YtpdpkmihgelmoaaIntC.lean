/-
  The walks of divisible, Div, Mod, Ceil, Add, Sub, Mul of intmath, and of the reference's: both sides return the same plain numbers.
-/
import Derived.Test.YtpdpkmihgelmoaaIntB
import Derived.Laws.Externs
import Derived.Lib.Mul64
import Derived.Laws.Bits64b
namespace Go.Proofs.Ytpdpkmihgelmoaa
open Go.RowKit

/-- What both sides return: a value and an error code (2: out of range, 1: a wrong argument). -/
def vAdd (a b : Int) : Int := bif rng a && rng b && rng (a + b) then a + b else 0
def eAdd (a b : Int) : Int := bif rng a && rng b && rng (a + b) then 0 else 2
def vMul (a b : Int) : Int := bif rng a && rng b && rng (a * b) then a * b else 0
def eMul (a b : Int) : Int := bif rng a && rng b && rng (a * b) then 0 else 2
def vDiv (f : Int → Int → Int) (a b : Int) : Int := bif rng a && rng b && !(b == 0) then f a b else 0
def eDiv (a b : Int) : Int := bif rng a && rng b then (bif b == 0 then 1 else 0) else 2
/-- The quotient that is rounded up. -/
def cdiv (a b : Int) : Int := - (-a).fdiv b

theorem in_two (a b : Int) (w : World) :
    Calls Try.prog 83 #[.slice (some ⟨w.heap.size, 0, none⟩) 2 2] (w.alloc (.cells #[.int .i64 a, .int .i64 b] 3)) fun e w' => e = .returned (.bool (rng a && rng b)) ∧ w.alloc (.cells #[.int .i64 a, .int .i64 b] 3) = w' := by
  have h := in_any (some ⟨w.heap.size, 0, none⟩) 2 2 [a, b] (w.alloc (.cells #[.int .i64 a, .int .i64 b] 3)) (w.heap.size + 1) (Reads.of_new w 3 #[.int .i64 a, .int .i64 b]) (by omega)
  simpa using h

set_option maxHeartbeats 400000 in
theorem divisible_any (a b : Int) (w : World) :
    Calls Try.prog 71 #[.int .i64 a, .int .i64 b] w fun e w' => e = .returned (.int .i64 (eDiv a b)) ∧ Below w.heap.size w w' := by
  cases hr : (rng a && rng b)
  · go_enter Try.func71, Try.ntmps71
    go_wp2_with (go_at_call 83; refine (in_two _ _ _).mono ?_; rintro e w' ⟨rfl, rfl⟩)
    go_ret
    exact ⟨ret_int (by simp [eDiv, hr]), (Below.refl _ _).alloc (Nat.le_refl _) _⟩
  · by_cases h0 : b = 0
    · subst h0
      go_enter Try.func71, Try.ntmps71
      go_wp2_with (go_at_call 83; refine (in_two _ _ _).mono ?_; rintro e w' ⟨rfl, rfl⟩)
      go_ret
      exact ⟨ret_int (by simp [eDiv, hr]), (Below.refl _ _).alloc (Nat.le_refl _) _⟩
    · have h0' : (b == 0) = false := beq_eq_false_iff_ne.2 h0
      go_enter Try.func71, Try.ntmps71
      go_wp2_with (go_at_call 83; refine (in_two _ _ _).mono ?_; rintro e w' ⟨rfl, rfl⟩)
      go_ret
      exact ⟨ret_int (by simp [eDiv, hr, h0']), (Below.refl _ _).alloc (Nat.le_refl _) _⟩

theorem rng_two {a b : Int} (h : (rng a && rng b) = true) : (-4611686018427387904 ≤ a ∧ a ≤ 4611686018427387904) ∧ (-4611686018427387904 ≤ b ∧ b ≤ 4611686018427387904) := by
  rw [Bool.and_eq_true] at h
  exact ⟨rng_yes h.1, rng_yes h.2⟩

set_option maxHeartbeats 400000 in
theorem Div_any (a b : Int) (w : World) :
    Calls Try.prog 17 #[.int .i64 a, .int .i64 b] w fun e w' => e = .returned (.tuple #[.int .i64 (vDiv Int.fdiv a b), .int .i64 (eDiv a b)]) ∧ Below w.heap.size w w' := by
  have hd := divisible_any a b w
  cases hr : (rng a && rng b)
  · have he : eDiv a b = 2 := by simp [eDiv, hr]
    have hv : vDiv Int.fdiv a b = 0 := by simp [vDiv, hr]
    rw [he] at hd; rw [he, hv]
    have H := Lib.hid hd
    clear hd he hv
    go_enter Try.func17, Try.ntmps17
    go_wp2_with (go_at_call 71; refine H.out.mono ?_; rintro e w' ⟨rfl, hb⟩)
    go_ret2
    exact ⟨rfl, hb⟩
  · obtain ⟨ha, hb⟩ := rng_two hr
    by_cases h0 : b = 0
    · subst h0
      have he : eDiv a 0 = 1 := by simp [eDiv, hr]
      have hv : vDiv Int.fdiv a 0 = 0 := by simp [vDiv]
      rw [he] at hd; rw [he, hv]
      have H := Lib.hid hd
      clear hd he hv
      go_enter Try.func17, Try.ntmps17
      go_wp2_with (go_at_call 71; refine H.out.mono ?_; rintro e w' ⟨rfl, hb⟩)
      go_ret2
      exact ⟨rfl, hb⟩
    · have h0' : (b == 0) = false := beq_eq_false_iff_ne.2 h0
      have he : eDiv a b = 0 := by simp [eDiv, hr, h0']
      have hv : vDiv Int.fdiv a b = a.fdiv b := by simp [vDiv, hr, h0']
      rw [he] at hd; rw [he, hv]
      have H := Lib.hid hd
      clear hd he hv
      go_enter Try.func17, Try.ntmps17
      go_wp2_with (first
        | (go_at_call 71; refine H.out.mono ?_; rintro e w' ⟨rfl, hb1⟩)
        | (go_at_call 72; refine (divide_any a b _ ha hb h0).mono ?_; rintro e w' ⟨rfl, n, rfl⟩))
      go_ret2
      exact ⟨rfl, below_drewN hb1 _⟩

set_option maxHeartbeats 400000 in
theorem Mod_any (a b : Int) (w : World) :
    Calls Try.prog 18 #[.int .i64 a, .int .i64 b] w fun e w' => e = .returned (.tuple #[.int .i64 (vDiv Int.fmod a b), .int .i64 (eDiv a b)]) ∧ Below w.heap.size w w' := by
  have hd := divisible_any a b w
  cases hr : (rng a && rng b)
  · have he : eDiv a b = 2 := by simp [eDiv, hr]
    have hv : vDiv Int.fmod a b = 0 := by simp [vDiv, hr]
    rw [he] at hd; rw [he, hv]
    have H := Lib.hid hd
    clear hd he hv
    go_enter Try.func18, Try.ntmps18
    go_wp2_with (go_at_call 71; refine H.out.mono ?_; rintro e w' ⟨rfl, hb⟩)
    go_ret2
    exact ⟨rfl, hb⟩
  · obtain ⟨ha, hb⟩ := rng_two hr
    by_cases h0 : b = 0
    · subst h0
      have he : eDiv a 0 = 1 := by simp [eDiv, hr]
      have hv : vDiv Int.fmod a 0 = 0 := by simp [vDiv]
      rw [he] at hd; rw [he, hv]
      have H := Lib.hid hd
      clear hd he hv
      go_enter Try.func18, Try.ntmps18
      go_wp2_with (go_at_call 71; refine H.out.mono ?_; rintro e w' ⟨rfl, hb⟩)
      go_ret2
      exact ⟨rfl, hb⟩
    · have h0' : (b == 0) = false := beq_eq_false_iff_ne.2 h0
      have he : eDiv a b = 0 := by simp [eDiv, hr, h0']
      have hv : vDiv Int.fmod a b = a.fmod b := by simp [vDiv, hr, h0']
      rw [he] at hd; rw [he, hv]
      have H := Lib.hid hd
      clear hd he hv
      go_enter Try.func18, Try.ntmps18
      go_wp2_with (first
        | (go_at_call 71; refine H.out.mono ?_; rintro e w' ⟨rfl, hb1⟩)
        | (go_at_call 72; refine (divide_any a b _ ha hb h0).mono ?_; rintro e w' ⟨rfl, n, rfl⟩))
      go_ret2
      exact ⟨rfl, below_drewN hb1 _⟩

theorem fdiv_in (a b : Int) (ha : -4611686018427387904 ≤ a ∧ a ≤ 4611686018427387904) (h0 : ¬ b = 0) : -4611686018427387904 ≤ a.fdiv b ∧ a.fdiv b ≤ 4611686018427387904 := by
  obtain ⟨e, p1, p2⟩ := fdiv_facts a b h0
  generalize a.fdiv b = q at *
  generalize a.fmod b = r at *
  rcases Int.lt_or_lt_of_ne h0 with h | h
  · have h3 := p2 h
    constructor
    · refine Classical.byContradiction fun hc => ?_
      have h4 : b * (q + 1) ≥ (-1) * (q + 1) := Int.mul_le_mul_of_nonpos_right (by omega) (by omega)
      rw [Int.mul_add] at h4
      omega
    · refine Classical.byContradiction fun hc => ?_
      have h4 : b * q ≤ (-1) * q := Int.mul_le_mul_of_nonneg_right (by omega) (by omega)
      omega
  · have h3 := p1 h
    constructor
    · refine Classical.byContradiction fun hc => ?_
      have h4 : b * (q + 1) ≤ 1 * (q + 1) := Int.mul_le_mul_of_nonpos_right (by omega) (by omega)
      rw [Int.mul_add] at h4
      omega
    · refine Classical.byContradiction fun hc => ?_
      have h4 : b * q ≥ 1 * q := Int.mul_le_mul_of_nonneg_right (by omega) (by omega)
      omega
theorem cdiv_zero (a b : Int) (h0 : ¬ b = 0) (h : a.fmod b = 0) : a.fdiv b = cdiv a b := by
  obtain ⟨e, p1, p2⟩ := fdiv_facts a b h0
  obtain ⟨e', p1', p2'⟩ := fdiv_facts (-a) b h0
  unfold cdiv
  have h1 : b * (-a.fdiv b) + 0 = b * (-a).fdiv b + (-a).fmod b := by rw [Int.mul_neg]; omega
  have := (quot_uniq b _ _ _ _ h1 (fun hb => by have := p1' hb; omega) (fun hb => by have := p2' hb; omega) h0).1
  omega
theorem cdiv_more (a b : Int) (h0 : ¬ b = 0) (h : ¬ a.fmod b = 0) : a.fdiv b + 1 = cdiv a b := by
  obtain ⟨e, p1, p2⟩ := fdiv_facts a b h0
  obtain ⟨e', p1', p2'⟩ := fdiv_facts (-a) b h0
  unfold cdiv
  have h1 : b * (-(a.fdiv b + 1)) + (b - a.fmod b) = b * (-a).fdiv b + (-a).fmod b := by rw [Int.mul_neg, Int.mul_add]; omega
  have := (quot_uniq b _ _ _ _ h1 (fun hb => by have := p1' hb; have := p1 hb; omega) (fun hb => by have := p2' hb; have := p2 hb; omega) h0).1
  omega

set_option maxHeartbeats 400000 in
theorem Ceil_any (a b : Int) (w : World) :
    Calls Try.prog 19 #[.int .i64 a, .int .i64 b] w fun e w' => e = .returned (.tuple #[.int .i64 (vDiv cdiv a b), .int .i64 (eDiv a b)]) ∧ Below w.heap.size w w' := by
  have hd := divisible_any a b w
  cases hr : (rng a && rng b)
  · have he : eDiv a b = 2 := by simp [eDiv, hr]
    have hv : vDiv cdiv a b = 0 := by simp [vDiv, hr]
    rw [he] at hd; rw [he, hv]
    have H := Lib.hid hd
    clear hd he hv
    go_enter Try.func19, Try.ntmps19
    go_wp2_with (go_at_call 71; refine H.out.mono ?_; rintro e w' ⟨rfl, hb⟩)
    go_ret2
    exact ⟨rfl, hb⟩
  · obtain ⟨ha, hb⟩ := rng_two hr
    by_cases h0 : b = 0
    · subst h0
      have he : eDiv a 0 = 1 := by simp [eDiv, hr]
      have hv : vDiv cdiv a 0 = 0 := by simp [vDiv]
      rw [he] at hd; rw [he, hv]
      have H := Lib.hid hd
      clear hd he hv
      go_enter Try.func19, Try.ntmps19
      go_wp2_with (go_at_call 71; refine H.out.mono ?_; rintro e w' ⟨rfl, hb⟩)
      go_ret2
      exact ⟨rfl, hb⟩
    · have h0' : (b == 0) = false := beq_eq_false_iff_ne.2 h0
      have he : eDiv a b = 0 := by simp [eDiv, hr, h0']
      have hv : vDiv cdiv a b = cdiv a b := by simp [vDiv, hr, h0']
      rw [he] at hd; rw [he, hv]
      have H := Lib.hid hd
      clear hd he hv
      go_enter Try.func19, Try.ntmps19
      have hf := fdiv_in a b ha h0
      obtain ⟨hf1, hf2⟩ := hf
      by_cases hm : a.fmod b = 0
      all_goals
        first | (have hm' : (a.fmod b == 0) = true := by simpa using hm) | (have hm' : (a.fmod b == 0) = false := by simpa using hm)
        have HM := Lib.hid hm
        clear hm
        go_wp2_with (first
          | (go_at_call 71; refine H.out.mono ?_; rintro e w' ⟨rfl, hb1⟩)
          | (go_at_call 72; refine (divide_any a b _ ha hb h0).mono ?_; rintro e w' ⟨rfl, n, rfl⟩))
        go_ret2
        first | exact ⟨ret_two ⟨cdiv_zero a b h0 HM.out, rfl⟩, below_drewN hb1 _⟩ | exact ⟨ret_two ⟨cdiv_more a b h0 HM.out, rfl⟩, below_drewN hb1 _⟩

theorem tmod_sign (a b : Int) : (0 ≤ a → 0 ≤ a.tmod b) ∧ (a ≤ 0 → a.tmod b ≤ 0) := by
  refine ⟨fun h => Int.tmod_nonneg b h, fun h => ?_⟩
  have h1 := Int.tmod_nonneg b (show 0 ≤ -a by omega)
  rw [Int.neg_tmod] at h1
  omega
theorem fd_r_yes (a b : Int) (h0 : ¬ b = 0) (h : (a.tmod b != 0) = true ∧ (!decide (a < 0) == decide (b < 0)) = true) : a.tdiv b - 1 = a.fdiv b ∧ a.tmod b + b = a.fmod b := by
  obtain ⟨h1, h2⟩ := h
  have h1' : ¬ a.tmod b = 0 := by simpa using h1
  have hs := tmod_sign a b
  have e : decide (a < 0) = decide (a.tmod b < 0) := decide_eq_decide.2 (by omega)
  rw [e] at h2
  exact fd_adj a b h0 (by simpa using h1') h2
theorem fd_r_no (a b : Int) (h0 : ¬ b = 0) (h : (a.tmod b != 0) = false ∨ (!decide (a < 0) == decide (b < 0)) = false) : a.tdiv b = a.fdiv b ∧ a.tmod b = a.fmod b := by
  by_cases hz : a.tmod b = 0
  · exact fd_zero a b h0 (by simpa using hz)
  · rcases h with h | h
    · exact absurd (by simpa using h) hz
    · have hs := tmod_sign a b
      have e : decide (a < 0) = decide (a.tmod b < 0) := decide_eq_decide.2 (by omega)
      rw [e] at h
      exact fd_same a b h0 (by simpa using hz) h
theorem fd_r_z (a b : Int) (h0 : ¬ b = 0) (h : a.tmod b = 0) : a.tdiv b = a.fdiv b ∧ a.tmod b = a.fmod b := fd_zero a b h0 (by simpa using h)

theorem fm_r_yes (a b : Int) (h0 : ¬ b = 0) (h : (a.tmod b != 0) = true ∧ (!decide (a.tmod b < 0) == decide (b < 0)) = true) : a.tmod b + b = a.fmod b :=
  (fd_adj a b h0 (by simpa using h.1) h.2).2
theorem fm_r_no (a b : Int) (h0 : ¬ b = 0) (h : (a.tmod b != 0) = false ∨ (!decide (a.tmod b < 0) == decide (b < 0)) = false) : a.tmod b = a.fmod b := by
  by_cases hz : a.tmod b = 0
  · exact (fd_zero a b h0 (by simpa using hz)).2
  · rcases h with h | h
    · exact absurd (by simpa using h) hz
    · exact (fd_same a b h0 (by simpa using hz) h).2
theorem fm_r_z (a b : Int) (h0 : ¬ b = 0) (h : a.tmod b = 0) : 0 = a.fmod b := h.symm.trans (fd_zero a b h0 (by simpa using h)).2

set_option maxHeartbeats 400000 in
theorem rDiv_any (a b : Int) (w : World) :
    Calls Try.prog 44 #[.int .i64 a, .int .i64 b] w fun e w' => e = .returned (.tuple #[.int .i64 (vDiv Int.fdiv a b), .int .i64 (eDiv a b)]) ∧ w = w' := by
  cases hra : rng a
  · have he : eDiv a b = 2 := by simp [eDiv, hra]
    have hv : vDiv Int.fdiv a b = 0 := by simp [vDiv, hra]
    rw [he, hv]
    clear he hv
    go_enter Try.func44, Try.ntmps44
    go_wp2_with (go_at_call 16; refine (In_any _ _).mono ?_; rintro e w' ⟨rfl, rfl⟩)
    go_ret2
    exact ⟨rfl, rfl⟩
  · cases hrb : rng b
    · have he : eDiv a b = 2 := by simp [eDiv, hrb]
      have hv : vDiv Int.fdiv a b = 0 := by simp [vDiv, hrb]
      rw [he, hv]
      clear he hv
      go_enter Try.func44, Try.ntmps44
      go_wp2_with (go_at_call 16; refine (In_any _ _).mono ?_; rintro e w' ⟨rfl, rfl⟩)
      go_ret2
      exact ⟨rfl, rfl⟩
    · by_cases h0 : b = 0
      · subst h0
        have he : eDiv a 0 = 1 := by simp [eDiv, hra, hrb]
        have hv : vDiv Int.fdiv a 0 = 0 := by simp [vDiv]
        rw [he, hv]
        clear he hv
        go_enter Try.func44, Try.ntmps44
        go_wp2_with (go_at_call 16; refine (In_any _ _).mono ?_; rintro e w' ⟨rfl, rfl⟩)
        go_ret2
        exact ⟨rfl, rfl⟩
      · have h0' : (b == 0) = false := beq_eq_false_iff_ne.2 h0
        have he : eDiv a b = 0 := by simp [eDiv, hra, hrb, h0']
        have hv : vDiv Int.fdiv a b = a.fdiv b := by simp [vDiv, hra, hrb, h0']
        rw [he, hv]
        clear he hv
        have ha := rng_yes hra
        have hb := rng_yes hrb
        have hq := tdiv_in a b ha h0
        have hr := tmod_in a b h0
        obtain ⟨ha1, ha2⟩ := ha
        obtain ⟨hb1, hb2⟩ := hb
        go_enter Try.func44, Try.ntmps44
        go_wp2_with (go_at_call 16; refine (In_any _ _).mono ?_; rintro e w' ⟨rfl, rfl⟩)
        all_goals go_ret2
        all_goals first | exact ⟨ret_two ⟨(fd_r_yes a b h0 ‹_›).1, rfl⟩, rfl⟩ | exact ⟨ret_two ⟨(fd_r_no a b h0 ‹_›).1, rfl⟩, rfl⟩ | exact ⟨ret_two ⟨(fd_r_z a b h0 ‹_›).1, rfl⟩, rfl⟩

set_option maxHeartbeats 400000 in
theorem rMod_any (a b : Int) (w : World) :
    Calls Try.prog 45 #[.int .i64 a, .int .i64 b] w fun e w' => e = .returned (.tuple #[.int .i64 (vDiv Int.fmod a b), .int .i64 (eDiv a b)]) ∧ w = w' := by
  cases hra : rng a
  · have he : eDiv a b = 2 := by simp [eDiv, hra]
    have hv : vDiv Int.fmod a b = 0 := by simp [vDiv, hra]
    rw [he, hv]
    clear he hv
    go_enter Try.func45, Try.ntmps45
    go_wp2_with (go_at_call 16; refine (In_any _ _).mono ?_; rintro e w' ⟨rfl, rfl⟩)
    go_ret2
    exact ⟨rfl, rfl⟩
  · cases hrb : rng b
    · have he : eDiv a b = 2 := by simp [eDiv, hrb]
      have hv : vDiv Int.fmod a b = 0 := by simp [vDiv, hrb]
      rw [he, hv]
      clear he hv
      go_enter Try.func45, Try.ntmps45
      go_wp2_with (go_at_call 16; refine (In_any _ _).mono ?_; rintro e w' ⟨rfl, rfl⟩)
      go_ret2
      exact ⟨rfl, rfl⟩
    · by_cases h0 : b = 0
      · subst h0
        have he : eDiv a 0 = 1 := by simp [eDiv, hra, hrb]
        have hv : vDiv Int.fmod a 0 = 0 := by simp [vDiv]
        rw [he, hv]
        clear he hv
        go_enter Try.func45, Try.ntmps45
        go_wp2_with (go_at_call 16; refine (In_any _ _).mono ?_; rintro e w' ⟨rfl, rfl⟩)
        go_ret2
        exact ⟨rfl, rfl⟩
      · have h0' : (b == 0) = false := beq_eq_false_iff_ne.2 h0
        have he : eDiv a b = 0 := by simp [eDiv, hra, hrb, h0']
        have hv : vDiv Int.fmod a b = a.fmod b := by simp [vDiv, hra, hrb, h0']
        rw [he, hv]
        clear he hv
        have ha := rng_yes hra
        have hb := rng_yes hrb
        have hq := tdiv_in a b ha h0
        have hr := tmod_in a b h0
        obtain ⟨ha1, ha2⟩ := ha
        obtain ⟨hb1, hb2⟩ := hb
        go_enter Try.func45, Try.ntmps45
        go_wp2_with (go_at_call 16; refine (In_any _ _).mono ?_; rintro e w' ⟨rfl, rfl⟩)
        all_goals go_ret2
        all_goals first | exact ⟨ret_two ⟨fm_r_yes a b h0 ‹_›, rfl⟩, rfl⟩ | exact ⟨ret_two ⟨fm_r_no a b h0 ‹_›, rfl⟩, rfl⟩ | exact ⟨ret_two ⟨fm_r_z a b h0 ‹_›, rfl⟩, rfl⟩

theorem rng_neg (a : Int) : rng (-a) = rng a := by
  unfold rng; exact decide_eq_decide.2 (by omega)
theorem eDiv_neg (a b : Int) : eDiv (-a) b = eDiv a b := by unfold eDiv; rw [rng_neg]
theorem vDiv_neg (a b : Int) : - vDiv Int.fdiv (-a) b = vDiv cdiv a b := by
  unfold vDiv cdiv; rw [rng_neg]
  cases (rng a && rng b && !(b == 0)) <;> simp
theorem vDiv_in (a b : Int) : -4611686018427387904 ≤ vDiv Int.fdiv a b ∧ vDiv Int.fdiv a b ≤ 4611686018427387904 := by
  unfold vDiv
  cases h : (rng a && rng b && !(b == 0))
  · simp
  · simp only [Bool.and_eq_true, Bool.not_eq_true'] at h
    obtain ⟨⟨h1, h2⟩, h3⟩ := h
    exact fdiv_in a b (rng_yes h1) (by simpa using h3)

set_option maxHeartbeats 400000 in
theorem rCeil_any (a b : Int) (w : World) :
    Calls Try.prog 46 #[.int .i64 a, .int .i64 b] w fun e w' => e = .returned (.tuple #[.int .i64 (vDiv cdiv a b), .int .i64 (eDiv a b)]) ∧ w = w' := by
  cases hra : rng a
  · have he : eDiv a b = 2 := by simp [eDiv, hra]
    have hv : vDiv cdiv a b = 0 := by simp [vDiv, hra]
    rw [he, hv]
    clear he hv
    go_enter Try.func46, Try.ntmps46
    go_wp2_with (go_at_call 16; refine (In_any _ _).mono ?_; rintro e w' ⟨rfl, rfl⟩)
    go_ret2
    exact ⟨rfl, rfl⟩
  · cases hrb : rng b
    · have he : eDiv a b = 2 := by simp [eDiv, hrb]
      have hv : vDiv cdiv a b = 0 := by simp [vDiv, hrb]
      rw [he, hv]
      clear he hv
      go_enter Try.func46, Try.ntmps46
      go_wp2_with (go_at_call 16; refine (In_any _ _).mono ?_; rintro e w' ⟨rfl, rfl⟩)
      go_ret2
      exact ⟨rfl, rfl⟩
    · have ha := rng_yes hra
      have hv := vDiv_in (-a) b
      obtain ⟨ha1, ha2⟩ := ha
      obtain ⟨hv1, hv2⟩ := hv
      go_enter Try.func46, Try.ntmps46
      go_wp2_with (first
        | (go_at_call 16; refine (In_any _ _).mono ?_; rintro e w' ⟨rfl, rfl⟩)
        | (go_at_call 44; refine (rDiv_any _ _ _).mono ?_; rintro e w' ⟨rfl, rfl⟩))
      go_ret2
      exact ⟨ret_two ⟨vDiv_neg a b, eDiv_neg a b⟩, rfl⟩
end Go.Proofs.Ytpdpkmihgelmoaa
